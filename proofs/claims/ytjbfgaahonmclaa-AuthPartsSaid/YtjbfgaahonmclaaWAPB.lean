import Derived.Test.YtjbfgaahonmclaaWAPA
set_option maxRecDepth 100000
set_option maxHeartbeats 4000000
set_option linter.unusedVariables false
set_option linter.unusedSimpArgs false
namespace Go.Proofs.Ytjbfgaahonmclaa
open Go.RowKit Go.Proofs.YtjbfgaahonmclaaW.PrintLast
noncomputable def m_auth_Answer_j1 (x79 : GMessage) (x100 : List GRR) (l232 : List GRR) : Option GMessage :=
  some (⟨x79.fID, x79.fResponse, x79.fAuthoritative, x79.fTruncated, x79.fDesired, x79.fAvailable, x79.fOpcode, x79.fCode, x79.fQuestions, x79.fAnswers, x100, l232⟩ : GMessage)
noncomputable def m_auth_Answer_j3 (i303 : Int) (l420 : List GRR) : Option (((List GRR) × Int) ⊕ (List GRR)) :=
  some (.inl (l420, w64 (i303 + 1)))
noncomputable def m_auth_Answer_s4 (x376 : List GRR) (l441 : List GRR) (i444 : Int) : Option (((List GRR) × Int) ⊕ (List GRR)) :=
  if i444 < (x376.length : Int) then
    (at_ x376 i444).bind fun x464 =>
    (m_slices_Contains_29 l441 x464).bind fun x469 =>
    if x469 = true then
      some (.inl (l441, w64 (i444 + 1)))
    else
      (app 40 l441 [x464]).bind fun l473 =>
      some (.inl (l473, w64 (i444 + 1)))
  else
    some (.inr l441)
noncomputable def m_auth_Answer_s2 (x100 : List GRR) (x69 : GZone) (l300 : List GRR) (i303 : Int) : Option (((List GRR) × Int) ⊕ (List GRR)) :=
  if i303 < (x100.length : Int) then
    (at_ x100 i303).bind fun x367 =>
    (m_record_Target x367).bind fun (z375 : ByteArray × Bool) =>
    (m_auth_zone_addresses (⟨x69⟩ : Gauth_zone) z375.1).bind fun x376 =>
    (loop (fun s => m_auth_Answer_s4 x376 s.1 s.2) (l300, 0)).bind fun e => m_auth_Answer_j3 i303 e
  else
    some (.inr l300)
noncomputable def m_auth_Answer_j6 (x79 : GMessage) (i511 : Int) (l512 : List GRR) (l516 : List GRR) : Option GMessage :=
  some (⟨x79.fID, x79.fResponse, true, x79.fTruncated, x79.fDesired, x79.fAvailable, x79.fOpcode, i511, x79.fQuestions, l512, l516, x79.fExtras⟩ : GMessage)
noncomputable def m_auth_Answer_j5 (x69 : GZone) (x41 : GQuestion) (x79 : GMessage) (l497 : List GRR) : Option GMessage :=
  if (l497.length : Int) = 0 then
    (m_auth_zone_of (⟨x69⟩ : Gauth_zone) x69.fApex 6).bind fun x524 =>
    (m_auth_There x69 x41.fName).bind fun x529 =>
    if x529 = true then
      m_auth_Answer_j6 x79 x79.fCode ([] : List GRR) x524
    else
      m_auth_Answer_j6 x79 3 ([] : List GRR) x524
  else
    m_auth_Answer_j6 x79 x79.fCode l497 x79.fAuthorities
noncomputable def m_auth_Answer (p0 : List GZone) (p1 : GMessage) : Option GMessage :=
  if p1.fResponse = true then
    (m_auth_reply p1 1).bind fun x565 =>
    some (⟨x565.fID, x565.fResponse, x565.fAuthoritative, x565.fTruncated, x565.fDesired, x565.fAvailable, x565.fOpcode, x565.fCode, ([] : List GQuestion), x565.fAnswers, x565.fAuthorities, x565.fExtras⟩ : GMessage)
  else
    if (p1.fQuestions.length : Int) ≠ 1 then
      (m_auth_reply p1 1).bind fun x5 =>
      some (⟨x5.fID, x5.fResponse, x5.fAuthoritative, x5.fTruncated, x5.fDesired, x5.fAvailable, x5.fOpcode, x5.fCode, ([] : List GQuestion), x5.fAnswers, x5.fAuthorities, x5.fExtras⟩ : GMessage)
    else
      if p1.fOpcode ≠ 0 then
        (m_auth_reply p1 4).bind fun x24 =>
        some x24
      else
        (at_ p1.fQuestions 0).bind fun x41 =>
        (m_auth_Find p0 x41.fName).bind fun (z49 : Int × Bool) =>
        if x41.fClass ≠ 1 then
          (m_auth_reply p1 5).bind fun x548 =>
          some x548
        else
          if z49.2 = true then
            (at_ p0 z49.1).bind fun x69 =>
            (m_auth_reply p1 0).bind fun x79 =>
            (m_auth_Below x69 x41.fName).bind fun (z98 : ByteArray × Bool) =>
            if z98.2 = true then
              (m_auth_zone_of (⟨x69⟩ : Gauth_zone) z98.1 2).bind fun x100 =>
              (loop (fun s => m_auth_Answer_s2 x100 x69 s.1 s.2) (x79.fExtras, 0)).bind fun e => m_auth_Answer_j1 x79 x100 e
            else
              (m_auth_zone_of (⟨x69⟩ : Gauth_zone) x41.fName x41.fType).bind fun x478 =>
              if (x478.length : Int) = 0 then
                (m_auth_zone_of (⟨x69⟩ : Gauth_zone) x41.fName 5).bind fun x537 =>
                (cutHi x537 (min (x537.length : Int) 1)).bind fun l545 =>
                m_auth_Answer_j5 x69 x41 x79 l545
              else
                m_auth_Answer_j5 x69 x41 x79 x478
          else
            (m_auth_reply p1 5).bind fun x52 =>
            some x52
theorem c_auth_Answer {w0 : World} {M : Nat → Prop} {H : List (Nat × Nat × Obj)} {R : List (Nat × Row)} {φ : World → Prop} (p0 : List GZone) (Ap0_0 : Option Addr) (cp0_0 : Nat) (psp0_0 : List GZoneP) (hcp0_0 : (DOk GZone.capP p0 psp0_0 ∧ p0.length ≤ cp0_0)) (fp0_0 : ∀ W, φ W → Cl W Ap0_0 ((p0.zip psp0_0).flatMap GZone.encP)) (fop0_0 : ∀ W, φ W → DOwn GZone.ownP p0 psp0_0 W) (p1 : GMessage) (Ap1_0 : Option Addr) (cp1_0 : Nat) (hcp1_0 : p1.fQuestions.length ≤ cp1_0) (fp1_0 : ∀ W, (Sta.mk w0 M H R φ).ok W → Cl W Ap1_0 (p1.fQuestions.flatMap GQuestion.enc)) (Ap1_1 : Option Addr) (cp1_1 : Nat) (hcp1_1 : p1.fAnswers.length ≤ cp1_1) (fp1_1 : ∀ W, (Sta.mk w0 M H R φ).ok W → Cl W Ap1_1 (p1.fAnswers.flatMap GRR.enc)) (Ap1_2 : Option Addr) (cp1_2 : Nat) (hcp1_2 : p1.fAuthorities.length ≤ cp1_2) (fp1_2 : ∀ W, (Sta.mk w0 M H R φ).ok W → Cl W Ap1_2 (p1.fAuthorities.flatMap GRR.enc)) (Ap1_3 : Option Addr) (cp1_3 : Nat) (hcp1_3 : p1.fExtras.length ≤ cp1_3) (fp1_3 : ∀ W, (Sta.mk w0 M H R φ).ok W → Cl W Ap1_3 (p1.fExtras.flatMap GRR.enc)) (r : GMessage) (hm : m_auth_Answer p0 p1 = some r) :
    Cn Try.prog 9 #[.slice Ap0_0 p0.length cp0_0, .agg #[.int .u16 p1.fID, .bool p1.fResponse, .bool p1.fAuthoritative, .bool p1.fTruncated, .bool p1.fDesired, .bool p1.fAvailable, .int .i64 p1.fOpcode, .int .i64 p1.fCode, .slice Ap1_0 p1.fQuestions.length cp1_0, .slice Ap1_1 p1.fAnswers.length cp1_1, .slice Ap1_2 p1.fAuthorities.length cp1_2, .slice Ap1_3 p1.fExtras.length cp1_3]] ⟨w0, M, H, R, φ⟩ (fun x : Option Addr × Nat × Option Addr × Nat × Option Addr × Nat × Option Addr × Nat => .agg #[.int .u16 r.fID, .bool r.fResponse, .bool r.fAuthoritative, .bool r.fTruncated, .bool r.fDesired, .bool r.fAvailable, .int .i64 r.fOpcode, .int .i64 r.fCode, .slice x.1 r.fQuestions.length x.2.1, .slice x.2.2.1 r.fAnswers.length x.2.2.2.1, .slice x.2.2.2.2.1 r.fAuthorities.length x.2.2.2.2.2.1, .slice x.2.2.2.2.2.2.1 r.fExtras.length x.2.2.2.2.2.2.2]) (fun x => r.fQuestions.length ≤ x.2.1 ∧ r.fAnswers.length ≤ x.2.2.2.1 ∧ r.fAuthorities.length ≤ x.2.2.2.2.2.1 ∧ r.fExtras.length ≤ x.2.2.2.2.2.2.2) (fun x => ⟨w0, M, H, R, fun W => φ W ∧ Cl W x.1 (r.fQuestions.flatMap GQuestion.enc) ∧ Cl W x.2.2.1 (r.fAnswers.flatMap GRR.enc) ∧ Cl W x.2.2.2.2.1 (r.fAuthorities.flatMap GRR.enc) ∧ Cl W x.2.2.2.2.2.2.1 (r.fExtras.flatMap GRR.enc)⟩) := by
 unfold m_auth_Answer at hm
 refine cn_intro (fn := Try.f9) (N := 154) Try.func9 rfl Try.ntmps9 rfl <| c_seq <| c_region ?_
 refine g_e rfl (e_box 100030 rfl) (fun g1 _ => ?_)
 refine g_e rfl (e_alloc 100040 Try.zeroValue26) (fun g2 _ => ?_)
 refine g_nil <| d_then <| c_seq <| c_block <| c_seq <| c_region <| g_v rfl (r_field (n := 1) Try.underlying26 rfl Try.sizeOf4 rfl rfl) <| g_v rfl (r_load (tag := 100030) rfl rfl rfl Try.isAgg4) <| g_v rfl r_move <| g_sta ⟨w0, M, (100040, g2, .cells #[.int .u16 0, .bool false, .bool false, .bool false, .bool false, .bool false, .int .i64 0, .int .i64 0, .slice none 0 0, .slice none 0 0, .slice none 0 0, .slice none 0 0] 26 (0, 0)) :: (100030, g1, .cells #[.int .u16 p1.fID, .bool p1.fResponse, .bool p1.fAuthoritative, .bool p1.fTruncated, .bool p1.fDesired, .bool p1.fAvailable, .int .i64 p1.fOpcode, .int .i64 p1.fCode, .slice Ap1_0 p1.fQuestions.length cp1_0, .slice Ap1_1 p1.fAnswers.length cp1_1, .slice Ap1_2 p1.fAuthorities.length cp1_2, .slice Ap1_3 p1.fExtras.length cp1_3] 26 (0, 0)) :: H, R, φ⟩ (fun _ h => h) ?_
 refine g_if rfl rfl rfl rfl rfl (fun h3 => ?_) (fun h3 => ?_)
 ·
  replace hm := ite_f hm (bool_nt h3)
  refine g_v rfl (r_field (n := 8) Try.underlying26 rfl Try.sizeOf23 rfl rfl) <| g_do rfl rfl rfl rfl rfl h3 <| g_v rfl (r_load (tag := 100030) rfl rfl rfl Try.isAgg23) <| g_do rfl rfl rfl rfl rfl h3 <| g_v rfl (r_lenL Try.underlying23 rfl) <| g_do rfl rfl rfl rfl rfl h3 <| g_v rfl (r_neq rfl rfl) <| g_v rfl (r_pick0 rfl h3) <| g_v rfl r_assign <| g_nil ?_
  refine d_then ?_
  refine c_flat [(0, .slice Ap0_0 p0.length cp0_0), (3, .pointer (some ⟨g1, 0, none⟩)), (4, .pointer (some ⟨g2, 0, none⟩)), (20, .bool (decide ((p1.fQuestions.length : Int) ≠ 1)))] ⟨rfl, rfl, rfl, rfl, trivial⟩ (fun u => ?_)
  refine c_cond rfl (fun h4 => ?_) (fun h4 => ?_)
  ·
   replace hm := ite_t hm (of_decide_eq_true h4)
   refine c_seq <| c_region <| g_v rfl (r_loadA (tag := 100030) rfl rfl Try.isAgg26 Try.sizeOf26 rfl rfl) ?_
   replace hm := bnd hm
   obtain ⟨x5, hx6, hm⟩ := hm
   refine g_cn ⟨w0, M, _, _, φ⟩ (fun _ h => h) Try.call25 rfl rfl (c_auth_reply p1 Ap1_0 cp1_0 hcp1_0 (fun W hS => fp1_0 W (ok_pre (H1 := [_, _]) (R1 := []) hS (fun W h => h))) Ap1_1 cp1_1 hcp1_1 (fun W hS => fp1_1 W (ok_pre (H1 := [_, _]) (R1 := []) hS (fun W h => h))) Ap1_2 cp1_2 hcp1_2 (fun W hS => fp1_2 W (ok_pre (H1 := [_, _]) (R1 := []) hS (fun W h => h))) Ap1_3 cp1_3 hcp1_3 (fun W hS => fp1_3 W (ok_pre (H1 := [_, _]) (R1 := []) hS (fun W h => h))) 1 _ hx6) (fun ⟨A7, c8, A10, c11, A13, c14, A16, c17⟩ ⟨hc8, hc11, hc14, hc17⟩ => ?_)
   refine g_sta _ (fun W h => (ok_frontR (t := 2003) (t' := 100303) h rfl)) ?_
   refine g_abs (fun φ19 q19' => ?_)
   have q19 : ∀ W, φ19 W → φ W := fun W h => (q19' W h).1
   have f9 := fun (W : World) (h : φ19 W) => (q19' W h).2.1
   have f12 := fun (W : World) (h : φ19 W) => (q19' W h).2.2.1
   have f15 := fun (W : World) (h : φ19 W) => (q19' W h).2.2.2
   refine g_e rfl (e_alloc 100050 Try.zeroValue26) (fun g20 _ => ?_)
   refine g_storeL (tag := 100050) rfl rfl rfl rfl Try.sizeOf26 rfl rfl <| g_nil <| d_then <| c_seq <| c_region <| g_v rfl (r_field (n := 8) Try.underlying26 rfl Try.sizeOf23 rfl rfl) <| g_storeL (tag := 100050) rfl rfl rfl rfl Try.sizeOf23 rfl rfl <| g_nil <| d_then <| c_seq ?_
   refine c_region <| g_v rfl (r_loadA (tag := 100050) rfl rfl Try.isAgg26 Try.sizeOf26 rfl rfl) <| g_storeL (tag := 100040) rfl rfl rfl rfl Try.sizeOf26 rfl rfl <| g_nil <| d_then <| c_ret <| d_ret_block <| d_ret_then ?_
   cases hm
   refine d_shut (tag := 100303) rfl (fun φ21 q21' => ?_)
   have q21 : ∀ W, φ21 W → φ19 W := fun W h => (q21' W h).1
   have f22 := fun (W : World) (h : φ21 W) => (q21' W h).2
   exact d_retC (none, 0, A10, c11, A13, c14, A16, c17) Try.results9 (res_agg (tag := 100040) rfl rfl Try.isAgg26 Try.sizeOf26 (res_nil rfl)) ⟨(Nat.le_refl 0), hc11, hc14, hc17⟩ (fun W h => ok_pre (H1 := [_, _, _]) (R1 := []) h (fun W hφ => ⟨(q19 _ (q21 _ hφ)), (fun W _ => Cl.nil _ _) W hφ, (fun W h => f12 W (q21 _ h)) W hφ, (fun W h => f15 W (q21 _ h)) W hφ, (fun W h => f22 W h) W hφ⟩)) (.inr rfl)
  replace hm := ite_f hm (of_decide_eq_false h4)
  refine c_seq <| c_region <| g_v rfl (r_field (n := 6) Try.underlying26 rfl Try.sizeOf3 rfl rfl) <| g_v rfl (r_load (tag := 100030) rfl rfl rfl Try.isAgg3) <| g_v rfl (r_neq rfl rfl) <| g_v rfl r_assign <| g_nil <| d_then ?_
  refine c_cond rfl (fun h23 => ?_) (fun h23 => ?_)
  ·
   replace hm := ite_t hm (of_decide_eq_true h23)
   refine c_seq <| c_region <| g_v rfl (r_loadA (tag := 100030) rfl rfl Try.isAgg26 Try.sizeOf26 rfl rfl) ?_
   replace hm := bnd hm
   obtain ⟨x24, hx25, hm⟩ := hm
   refine g_cn ⟨w0, M, _, _, φ⟩ (fun _ h => h) Try.call25 rfl rfl (c_auth_reply p1 Ap1_0 cp1_0 hcp1_0 (fun W hS => fp1_0 W (ok_pre (H1 := [_, _]) (R1 := []) hS (fun W h => h))) Ap1_1 cp1_1 hcp1_1 (fun W hS => fp1_1 W (ok_pre (H1 := [_, _]) (R1 := []) hS (fun W h => h))) Ap1_2 cp1_2 hcp1_2 (fun W hS => fp1_2 W (ok_pre (H1 := [_, _]) (R1 := []) hS (fun W h => h))) Ap1_3 cp1_3 hcp1_3 (fun W hS => fp1_3 W (ok_pre (H1 := [_, _]) (R1 := []) hS (fun W h => h))) 4 _ hx25) (fun ⟨A26, c27, A29, c30, A32, c33, A35, c36⟩ ⟨hc27, hc30, hc33, hc36⟩ => ?_)
   refine g_sta _ (fun W h => (ok_frontR (t := 2003) (t' := 100383) h rfl)) ?_
   refine g_abs (fun φ38 q38' => ?_)
   have q38 : ∀ W, φ38 W → φ W := fun W h => (q38' W h).1
   have f28 := fun (W : World) (h : φ38 W) => (q38' W h).2.1
   have f31 := fun (W : World) (h : φ38 W) => (q38' W h).2.2.1
   have f34 := fun (W : World) (h : φ38 W) => (q38' W h).2.2.2
   refine g_storeL (tag := 100040) rfl rfl rfl rfl Try.sizeOf26 rfl rfl <| g_nil <| d_then <| c_ret <| d_ret_block <| d_ret_then ?_
   cases hm
   refine d_shut (tag := 100383) rfl (fun φ39 q39' => ?_)
   have q39 : ∀ W, φ39 W → φ38 W := fun W h => (q39' W h).1
   have f40 := fun (W : World) (h : φ39 W) => (q39' W h).2
   exact d_retC (A26, c27, A29, c30, A32, c33, A35, c36) Try.results9 (res_agg (tag := 100040) rfl rfl Try.isAgg26 Try.sizeOf26 (res_nil rfl)) ⟨hc27, hc30, hc33, hc36⟩ (fun W h => ok_pre (H1 := [_, _]) (R1 := []) h (fun W hφ => ⟨(q38 _ (q39 _ hφ)), (fun W h => f28 W (q39 _ h)) W hφ, (fun W h => f31 W (q39 _ h)) W hφ, (fun W h => f34 W (q39 _ h)) W hφ, (fun W h => f40 W h) W hφ⟩)) (.inr rfl)
  replace hm := ite_f hm (of_decide_eq_false h23)
  refine c_skip <| d_normal_block <| d_then <| c_seq <| c_region <| g_v rfl (r_field (n := 8) Try.underlying26 rfl Try.sizeOf23 rfl rfl) <| g_v rfl (r_load (tag := 100030) rfl rfl rfl Try.isAgg23) ?_
  replace hm := bnd hm
  obtain ⟨x41, hx41, hm⟩ := hm
  refine g_know _ (fun W hS => cl_at (p := (Sta.mk w0 M H R φ).ok) (sz := 3) (fun _ => rfl) (by decide) (ok_pre (H1 := [_, _]) (R1 := []) hS (fun W h => h)) fp1_0 hx41) ?_
  rintro ⟨ad42, hA44, f43⟩
  refine g_v rfl (r_ix Try.underlying23 Try.sizeOf29 rfl hA44 rfl hx41) <| g_v rfl (r_ldA rfl Try.isAgg29 Try.sizeOf29 (fun W hS => (f43 W (ok_pre (H1 := [_, _]) (R1 := []) hS (fun W h => h))).take 3) rfl) ?_
  refine g_e rfl (e_alloc 100060 Try.zeroValue29) (fun g45 _ => ?_)
  refine g_storeL (tag := 100060) rfl rfl rfl rfl Try.sizeOf29 rfl rfl <| g_nil <| d_then ?_
  refine c_flat [(0, .slice Ap0_0 p0.length cp0_0), (3, .pointer (some ⟨g1, 0, none⟩)), (4, .pointer (some ⟨g2, 0, none⟩)), (6, .pointer (some ⟨g45, 0, none⟩))] ⟨rfl, rfl, rfl, rfl, trivial⟩ (fun u => ?_)
  refine c_sta ⟨w0, M, (100060, g45, .cells #[.string x41.fName, .int .u16 x41.fType, .int .u16 x41.fClass] 29 (0, 0)) :: (100040, g2, .cells #[.int .u16 0, .bool false, .bool false, .bool false, .bool false, .bool false, .int .i64 0, .int .i64 0, .slice none 0 0, .slice none 0 0, .slice none 0 0, .slice none 0 0] 26 (0, 0)) :: (100030, g1, .cells #[.int .u16 p1.fID, .bool p1.fResponse, .bool p1.fAuthoritative, .bool p1.fTruncated, .bool p1.fDesired, .bool p1.fAvailable, .int .i64 p1.fOpcode, .int .i64 p1.fCode, .slice Ap1_0 p1.fQuestions.length cp1_0, .slice Ap1_1 p1.fAnswers.length cp1_1, .slice Ap1_2 p1.fAuthorities.length cp1_2, .slice Ap1_3 p1.fExtras.length cp1_3] 26 (0, 0)) :: H, R, φ⟩ (fun _ h => h) <| c_seq <| c_region <| g_v rfl r_move <| g_v rfl (r_field (n := 0) Try.underlying29 rfl Try.sizeOf9 rfl rfl) <| g_v rfl (r_load (tag := 100060) rfl rfl rfl Try.isAgg9) ?_
  replace hm := bnd hm
  obtain ⟨⟨x46, x47⟩, hx48, hm⟩ := hm
  refine g_cn ⟨w0, M, _, _, φ⟩ (fun _ h => h) Try.call16 rfl rfl (c_auth_Find p0 Ap0_0 cp0_0 psp0_0 ⟨hcp0_0.1, hcp0_0.2⟩ (fun W h => fp0_0 W h) (fun W h => (fop0_0 W h)) x41.fName _ hx48) (fun _ _ => ?_)
  refine g_v rfl r_move <| g_v rfl (r_extract rfl rfl) <| g_v rfl (r_extract rfl rfl) <| g_v rfl r_assign <| g_v rfl r_assign <| g_nil <| d_then ?_
  refine c_flat [(0, .slice Ap0_0 p0.length cp0_0), (3, .pointer (some ⟨g1, 0, none⟩)), (4, .pointer (some ⟨g2, 0, none⟩)), (6, .pointer (some ⟨g45, 0, none⟩)), (7, .int .i64 x46), (8, .bool x47)] ⟨rfl, rfl, rfl, rfl, rfl, rfl, trivial⟩ (fun u => ?_)
  refine c_seq <| c_seq <| c_region <| g_v rfl (r_field (n := 2) Try.underlying29 rfl Try.sizeOf22 rfl rfl) <| g_v rfl (r_load (tag := 100060) rfl rfl rfl Try.isAgg22) <| g_v rfl (r_neq rfl rfl) <| g_v rfl r_move ?_
  refine g_if rfl rfl rfl rfl rfl (fun h50 => ?_) (fun h50 => ?_)
  ·
   replace hm := ite_f hm (of_decide_eq_false h50)
   refine g_v rfl r_move <| g_do rfl rfl rfl rfl rfl h50 <| g_v rfl (r_not rfl) <| g_v rfl (r_pick0 rfl h50) <| g_nil <| d_then ?_
   refine c_cond rfl (fun h51 => ?_) (fun h51 => ?_)
   ·
    have h51' : x47 = false := by revert h51; cases x47 <;> simp
    replace hm := ite_f hm (bool_nt h51')
    refine c_seq <| c_region <| g_v rfl (r_loadA (tag := 100030) rfl rfl Try.isAgg26 Try.sizeOf26 rfl rfl) ?_
    replace hm := bnd hm
    obtain ⟨x52, hx53, hm⟩ := hm
    refine g_cn ⟨w0, M, _, _, φ⟩ (fun _ h => h) Try.call25 rfl rfl (c_auth_reply p1 Ap1_0 cp1_0 hcp1_0 (fun W hS => fp1_0 W (ok_pre (H1 := [_, _, _]) (R1 := []) hS (fun W h => h))) Ap1_1 cp1_1 hcp1_1 (fun W hS => fp1_1 W (ok_pre (H1 := [_, _, _]) (R1 := []) hS (fun W h => h))) Ap1_2 cp1_2 hcp1_2 (fun W hS => fp1_2 W (ok_pre (H1 := [_, _, _]) (R1 := []) hS (fun W h => h))) Ap1_3 cp1_3 hcp1_3 (fun W hS => fp1_3 W (ok_pre (H1 := [_, _, _]) (R1 := []) hS (fun W h => h))) 5 _ hx53) (fun ⟨A54, c55, A57, c58, A60, c61, A63, c64⟩ ⟨hc55, hc58, hc61, hc64⟩ => ?_)
    refine g_sta _ (fun W h => (ok_frontR (t := 2003) (t' := 100583) h rfl)) ?_
    refine g_abs (fun φ66 q66' => ?_)
    have q66 : ∀ W, φ66 W → φ W := fun W h => (q66' W h).1
    have f56 := fun (W : World) (h : φ66 W) => (q66' W h).2.1
    have f59 := fun (W : World) (h : φ66 W) => (q66' W h).2.2.1
    have f62 := fun (W : World) (h : φ66 W) => (q66' W h).2.2.2
    refine g_storeL (tag := 100040) rfl rfl rfl rfl Try.sizeOf26 rfl rfl <| g_nil <| d_then ?_
    refine c_flat [(4, .pointer (some ⟨g2, 0, none⟩))] ⟨rfl, trivial⟩ (fun u => ?_)
    refine c_sta ⟨w0, M, (100060, g45, .cells #[.string x41.fName, .int .u16 x41.fType, .int .u16 x41.fClass] 29 (0, 0)) :: (100040, g2, .cells #[.int .u16 x52.fID, .bool x52.fResponse, .bool x52.fAuthoritative, .bool x52.fTruncated, .bool x52.fDesired, .bool x52.fAvailable, .int .i64 x52.fOpcode, .int .i64 x52.fCode, .slice A54 x52.fQuestions.length c55, .slice A57 x52.fAnswers.length c58, .slice A60 x52.fAuthorities.length c61, .slice A63 x52.fExtras.length c64] 26 (0, 0)) :: (100030, g1, .cells #[.int .u16 p1.fID, .bool p1.fResponse, .bool p1.fAuthoritative, .bool p1.fTruncated, .bool p1.fDesired, .bool p1.fAvailable, .int .i64 p1.fOpcode, .int .i64 p1.fCode, .slice Ap1_0 p1.fQuestions.length cp1_0, .slice Ap1_1 p1.fAnswers.length cp1_1, .slice Ap1_2 p1.fAuthorities.length cp1_2, .slice Ap1_3 p1.fExtras.length cp1_3] 26 (0, 0)) :: H, (100583, ⟨.slice A63 x52.fExtras.length c64, 42, 5, x52.fExtras.length, x52.fExtras.flatMap GRR.enc⟩) :: R, φ66⟩ (fun _ h => h) <| c_ret <| d_ret_then ?_
    cases hm
    refine d_shut (tag := 100583) rfl (fun φ67 q67' => ?_)
    have q67 : ∀ W, φ67 W → φ66 W := fun W h => (q67' W h).1
    have f68 := fun (W : World) (h : φ67 W) => (q67' W h).2
    exact d_retC (A54, c55, A57, c58, A60, c61, A63, c64) Try.results9 (res_agg (tag := 100040) rfl rfl Try.isAgg26 Try.sizeOf26 (res_nil rfl)) ⟨hc55, hc58, hc61, hc64⟩ (fun W h => ok_pre (H1 := [_, _, _]) (R1 := []) h (fun W hφ => ⟨(q66 _ (q67 _ hφ)), (fun W h => f56 W (q67 _ h)) W hφ, (fun W h => f59 W (q67 _ h)) W hφ, (fun W h => f62 W (q67 _ h)) W hφ, (fun W h => f68 W h) W hφ⟩)) (.inr rfl)
   have h51' : x47 = true := by revert h51; cases x47 <;> simp
   replace hm := ite_t hm h51'
   refine c_skip <| d_then <| c_seq <| c_region <| g_v rfl r_move <| g_v rfl r_move ?_
   replace hm := bnd hm
   obtain ⟨x69, hx69, hm⟩ := hm
   obtain ⟨pp73, hv74, hz75, hcp76⟩ := DOk.at_ hcp0_0.1 hx69
   refine g_know _ (fun W hS => cl_at (p := φ) (sz := 2) (fun _ => rfl) (by decide) hS.now fp0_0 hv74) ?_
   rintro ⟨ad70, hA72, f71⟩
   have f77 := fun (W : World) (h : φ W) => (fop0_0 W h _ hz75)
   refine g_v rfl (r_ix Try.underlying35 Try.sizeOf33 rfl hA72 rfl hx69) <| g_v rfl (r_ldA rfl Try.isAgg33 Try.sizeOf33 (fun W hS => (f71 W hS.now).take 2) rfl) <| g_v rfl (r_build _ rfl (bld60_18 _ _ _ _)) ?_
   refine g_e rfl (e_alloc 100090 Try.zeroValue60) (fun g78 _ => ?_)
   refine g_storeL (tag := 100090) rfl rfl rfl rfl Try.sizeOf60 rfl rfl <| g_nil <| d_then ?_
   refine c_flat [(3, .pointer (some ⟨g1, 0, none⟩)), (4, .pointer (some ⟨g2, 0, none⟩)), (6, .pointer (some ⟨g45, 0, none⟩)), (9, .pointer (some ⟨g78, 0, none⟩))] ⟨rfl, rfl, rfl, rfl, trivial⟩ (fun u => ?_)
   refine c_sta ⟨w0, M, (100090, g78, .cells #[.string x69.fApex, .slice pp73.pA0 x69.fRecords.length pp73.pC0] 60 (0, 0)) :: (100060, g45, .cells #[.string x41.fName, .int .u16 x41.fType, .int .u16 x41.fClass] 29 (0, 0)) :: (100040, g2, .cells #[.int .u16 0, .bool false, .bool false, .bool false, .bool false, .bool false, .int .i64 0, .int .i64 0, .slice none 0 0, .slice none 0 0, .slice none 0 0, .slice none 0 0] 26 (0, 0)) :: (100030, g1, .cells #[.int .u16 p1.fID, .bool p1.fResponse, .bool p1.fAuthoritative, .bool p1.fTruncated, .bool p1.fDesired, .bool p1.fAvailable, .int .i64 p1.fOpcode, .int .i64 p1.fCode, .slice Ap1_0 p1.fQuestions.length cp1_0, .slice Ap1_1 p1.fAnswers.length cp1_1, .slice Ap1_2 p1.fAuthorities.length cp1_2, .slice Ap1_3 p1.fExtras.length cp1_3] 26 (0, 0)) :: H, R, φ⟩ (fun _ h => h) <| c_seq <| c_region <| g_v rfl (r_loadA (tag := 100030) rfl rfl Try.isAgg26 Try.sizeOf26 rfl rfl) ?_
   replace hm := bnd hm
   obtain ⟨x79, hx80, hm⟩ := hm
   refine g_cn ⟨w0, M, _, _, φ⟩ (fun _ h => h) Try.call25 rfl rfl (c_auth_reply p1 Ap1_0 cp1_0 hcp1_0 (fun W hS => fp1_0 W (ok_pre (H1 := [_, _, _, _]) (R1 := []) hS (fun W h => h))) Ap1_1 cp1_1 hcp1_1 (fun W hS => fp1_1 W (ok_pre (H1 := [_, _, _, _]) (R1 := []) hS (fun W h => h))) Ap1_2 cp1_2 hcp1_2 (fun W hS => fp1_2 W (ok_pre (H1 := [_, _, _, _]) (R1 := []) hS (fun W h => h))) Ap1_3 cp1_3 hcp1_3 (fun W hS => fp1_3 W (ok_pre (H1 := [_, _, _, _]) (R1 := []) hS (fun W h => h))) 0 _ hx80) (fun ⟨A81, c82, A84, c85, A87, c88, A90, c91⟩ ⟨hc82, hc85, hc88, hc91⟩ => ?_)
   refine g_sta _ (fun W h => (ok_frontR (t := 2003) (t' := 100653) h rfl)) ?_
   refine g_abs (fun φ93 q93' => ?_)
   have q93 : ∀ W, φ93 W → φ W := fun W h => (q93' W h).1
   have f83 := fun (W : World) (h : φ93 W) => (q93' W h).2.1
   have f86 := fun (W : World) (h : φ93 W) => (q93' W h).2.2.1
   have f89 := fun (W : World) (h : φ93 W) => (q93' W h).2.2.2
   refine g_e rfl (e_alloc 100100 Try.zeroValue26) (fun g94 _ => ?_)
   refine g_storeL (tag := 100100) rfl rfl rfl rfl Try.sizeOf26 rfl rfl <| g_nil <| d_then <| c_seq <| c_region <| g_v rfl (r_field (n := 0) Try.underlying60 rfl Try.sizeOf33 rfl rfl) <| g_v rfl (r_loadA (tag := 100090) rfl rfl Try.isAgg33 Try.sizeOf33 rfl rfl) <| g_v rfl (r_field (n := 0) Try.underlying29 rfl Try.sizeOf9 rfl rfl) <| g_v rfl (r_load (tag := 100060) rfl rfl rfl Try.isAgg9) ?_
   replace hm := bnd hm
   obtain ⟨⟨x95, x96⟩, hx97, hm⟩ := hm
   refine g_cn ⟨w0, M, _, _, φ93⟩ (fun _ h => h) Try.call14 rfl rfl (c_auth_Below x69 pp73.pA0 pp73.pC0 hcp76 (fun W hS => f77 W (q93 _ hS.now)) x41.fName _ hx97) (fun _ _ => ?_)
   refine g_v rfl r_move <| g_v rfl (r_extract rfl rfl) <| g_v rfl (r_extract rfl rfl) <| g_v rfl r_assign <| g_v rfl r_assign <| g_nil <| d_then ?_
   refine c_flat [(4, .pointer (some ⟨g2, 0, none⟩)), (6, .pointer (some ⟨g45, 0, none⟩)), (9, .pointer (some ⟨g78, 0, none⟩)), (10, .pointer (some ⟨g94, 0, none⟩)), (11, .string x95), (12, .bool x96)] ⟨rfl, rfl, rfl, rfl, rfl, rfl, trivial⟩ (fun u => ?_)
   refine c_sta ⟨w0, M, (100100, g94, .cells #[.int .u16 x79.fID, .bool x79.fResponse, .bool x79.fAuthoritative, .bool x79.fTruncated, .bool x79.fDesired, .bool x79.fAvailable, .int .i64 x79.fOpcode, .int .i64 x79.fCode, .slice A81 x79.fQuestions.length c82, .slice A84 x79.fAnswers.length c85, .slice A87 x79.fAuthorities.length c88, .slice A90 x79.fExtras.length c91] 26 (0, 0)) :: (100090, g78, .cells #[.string x69.fApex, .slice pp73.pA0 x69.fRecords.length pp73.pC0] 60 (0, 0)) :: (100060, g45, .cells #[.string x41.fName, .int .u16 x41.fType, .int .u16 x41.fClass] 29 (0, 0)) :: (100040, g2, .cells #[.int .u16 0, .bool false, .bool false, .bool false, .bool false, .bool false, .int .i64 0, .int .i64 0, .slice none 0 0, .slice none 0 0, .slice none 0 0, .slice none 0 0] 26 (0, 0)) :: (100030, g1, .cells #[.int .u16 p1.fID, .bool p1.fResponse, .bool p1.fAuthoritative, .bool p1.fTruncated, .bool p1.fDesired, .bool p1.fAvailable, .int .i64 p1.fOpcode, .int .i64 p1.fCode, .slice Ap1_0 p1.fQuestions.length cp1_0, .slice Ap1_1 p1.fAnswers.length cp1_1, .slice Ap1_2 p1.fAuthorities.length cp1_2, .slice Ap1_3 p1.fExtras.length cp1_3] 26 (0, 0)) :: H, (100653, ⟨.slice A90 x79.fExtras.length c91, 42, 5, x79.fExtras.length, x79.fExtras.flatMap GRR.enc⟩) :: R, φ93⟩ (fun _ h => h) <| c_seq <| c_seq <| c_region <| g_v rfl r_move <| g_nil <| d_then ?_
   refine c_cond rfl (fun h99 => ?_) (fun h99 => ?_)
   ·
    replace hm := ite_t hm h99
    refine c_seq <| c_region <| g_v rfl (r_loadA (tag := 100090) rfl rfl Try.isAgg60 Try.sizeOf60 rfl rfl) <| g_v rfl r_move ?_
    replace hm := bnd hm
    obtain ⟨x100, hx101, hm⟩ := hm
    refine g_cn ⟨w0, M, _, _, φ93⟩ (fun _ h => h) Try.call26 rfl rfl (c_auth_zone_of (⟨x69⟩ : Gauth_zone) pp73.pA0 pp73.pC0 hcp76 (fun W hS => f77 W (q93 _ hS.now)) x95 2 _ hx101) (fun ⟨A102, c103⟩ hc103 => ?_)
    refine g_sta _ (fun W h => (ok_frontR (t := 2000) (t' := 100770) h rfl)) <| g_v rfl (r_field (n := 10) Try.underlying26 rfl Try.sizeOf24 rfl rfl) <| g_storeL (tag := 100100) rfl rfl rfl rfl Try.sizeOf24 rfl rfl <| g_nil <| d_then <| c_seq <| c_seq <| c_region <| g_v rfl (r_field (n := 10) Try.underlying26 rfl Try.sizeOf24 rfl rfl) <| g_v rfl (r_load (tag := 100100) rfl rfl rfl Try.isAgg24) ?_
    refine g_v rfl (r_lenL Try.underlying24 rfl) <| g_v rfl r_move <| g_nil <| d_then ?_
    refine c_flat [(4, .pointer (some ⟨g2, 0, none⟩)), (9, .pointer (some ⟨g78, 0, none⟩)), (10, .pointer (some ⟨g94, 0, none⟩)), (80, .slice A102 x100.length c103), (81, .int .i64 (x100.length : Int)), (82, .int .i64 0)] ⟨rfl, rfl, rfl, rfl, rfl, rfl, trivial⟩ (fun u => ?_)
    refine c_sta ⟨w0, M, (100100, g94, .cells #[.int .u16 x79.fID, .bool x79.fResponse, .bool x79.fAuthoritative, .bool x79.fTruncated, .bool x79.fDesired, .bool x79.fAvailable, .int .i64 x79.fOpcode, .int .i64 x79.fCode, .slice A81 x79.fQuestions.length c82, .slice A84 x79.fAnswers.length c85, .slice A102 x100.length c103, .slice A90 x79.fExtras.length c91] 26 (0, 0)) :: (100090, g78, .cells #[.string x69.fApex, .slice pp73.pA0 x69.fRecords.length pp73.pC0] 60 (0, 0)) :: (100060, g45, .cells #[.string x41.fName, .int .u16 x41.fType, .int .u16 x41.fClass] 29 (0, 0)) :: (100040, g2, .cells #[.int .u16 0, .bool false, .bool false, .bool false, .bool false, .bool false, .int .i64 0, .int .i64 0, .slice none 0 0, .slice none 0 0, .slice none 0 0, .slice none 0 0] 26 (0, 0)) :: (100030, g1, .cells #[.int .u16 p1.fID, .bool p1.fResponse, .bool p1.fAuthoritative, .bool p1.fTruncated, .bool p1.fDesired, .bool p1.fAvailable, .int .i64 p1.fOpcode, .int .i64 p1.fCode, .slice Ap1_0 p1.fQuestions.length cp1_0, .slice Ap1_1 p1.fAnswers.length cp1_1, .slice Ap1_2 p1.fAuthorities.length cp1_2, .slice Ap1_3 p1.fExtras.length cp1_3] 26 (0, 0)) :: H, (100770, ⟨.slice A102 x100.length c103, 42, 5, x100.length, x100.flatMap GRR.enc⟩) :: (100653, ⟨.slice A90 x79.fExtras.length c91, 42, 5, x79.fExtras.length, x79.fExtras.flatMap GRR.enc⟩) :: R, φ93⟩ (fun _ h => h) ?_
    refine c_cut (ι := (List GRR) × Option Addr × Nat) [4, 10] (fun ⟨l232, A233, c234⟩ => []) (fun ⟨l232, A233, c234⟩ => ⟨w0, M, (100100, g94, .cells #[.int .u16 x79.fID, .bool x79.fResponse, .bool x79.fAuthoritative, .bool x79.fTruncated, .bool x79.fDesired, .bool x79.fAvailable, .int .i64 x79.fOpcode, .int .i64 x79.fCode, .slice A81 x79.fQuestions.length c82, .slice A84 x79.fAnswers.length c85, .slice A102 x100.length c103, .slice A233 l232.length c234] 26 (0, 0)) :: (100040, g2, .cells #[.int .u16 0, .bool false, .bool false, .bool false, .bool false, .bool false, .int .i64 0, .int .i64 0, .slice none 0 0, .slice none 0 0, .slice none 0 0, .slice none 0 0] 26 (0, 0)) :: H, (100770, ⟨.slice A102 x100.length c103, 42, 5, x100.length, x100.flatMap GRR.enc⟩) :: (100653, ⟨.slice A233 l232.length c234, 42, 5, l232.length, l232.flatMap GRR.enc⟩) :: R, φ93⟩) (fun ⟨l232, A233, c234⟩ => m_auth_Answer_j1 x79 x100 l232 = some r ∧ l232.length ≤ c234) ?_ (fun ⟨l232, A233, c234⟩ u ⟨hm, hc234⟩ => ?_)
    ·
     refine c_block ?_
     replace hm := bnd hm
     obtain ⟨out2, hl2, hr2⟩ := hm
     obtain ⟨n365', hl2⟩ := loop_lp hl2
     refine c_loopU (ι := Nat × (List GRR) × Int × Option Addr × Nat) [4, 9, 10, 80, 81, 82] (fun ⟨n365, l300, i303, A301, c302⟩ => [(82, .int .i64 i303)]) (fun ⟨n365, l300, i303, A301, c302⟩ => ⟨w0, M, (100100, g94, .cells #[.int .u16 x79.fID, .bool x79.fResponse, .bool x79.fAuthoritative, .bool x79.fTruncated, .bool x79.fDesired, .bool x79.fAvailable, .int .i64 x79.fOpcode, .int .i64 x79.fCode, .slice A81 x79.fQuestions.length c82, .slice A84 x79.fAnswers.length c85, .slice A102 x100.length c103, .slice A301 l300.length c302] 26 (0, 0)) :: (100090, g78, .cells #[.string x69.fApex, .slice pp73.pA0 x69.fRecords.length pp73.pC0] 60 (0, 0)) :: (100040, g2, .cells #[.int .u16 0, .bool false, .bool false, .bool false, .bool false, .bool false, .int .i64 0, .int .i64 0, .slice none 0 0, .slice none 0 0, .slice none 0 0, .slice none 0 0] 26 (0, 0)) :: H, (100770, ⟨.slice A102 x100.length c103, 42, 5, x100.length, x100.flatMap GRR.enc⟩) :: (100653, ⟨.slice A301 l300.length c302, 42, 5, l300.length, l300.flatMap GRR.enc⟩) :: R, φ93⟩) (fun ⟨n365, l300, i303, A301, c302⟩ => Lp (fun s => m_auth_Answer_s2 x100 x69 s.1 s.2) n365 (l300, i303) out2 ∧ l300.length ≤ c302) (fun ⟨n365, l300, i303, A301, c302⟩ => n365) (n365', x79.fExtras, 0, A90, c91) ⟨hl2, hc91⟩ ⟨rfl, rfl, rfl, rfl, rfl, rfl, trivial⟩ (fun W h => ((h.dropH (t := 100060) rfl).dropH (t := 100030) rfl).phi (fun W hφ => hφ)) (fun ⟨n365, l300, i303, A301, c302⟩ u ⟨hlp, hc302⟩ => ?_)
     obtain ⟨o2, hm, hnx2⟩ := lp_step hlp
     clear hlp
     replace hm : m_auth_Answer_s2 x100 x69 l300 i303 = some o2 := hm
     unfold m_auth_Answer_s2 at hm
     refine c_flat [(4, .pointer (some ⟨g2, 0, none⟩)), (9, .pointer (some ⟨g78, 0, none⟩)), (10, .pointer (some ⟨g94, 0, none⟩)), (80, .slice A102 x100.length c103), (81, .int .i64 (x100.length : Int)), (82, .int .i64 i303)] ⟨rfl, rfl, rfl, rfl, rfl, rfl, trivial⟩ (fun u => ?_)
     refine c_sta ⟨w0, M, (100100, g94, .cells #[.int .u16 x79.fID, .bool x79.fResponse, .bool x79.fAuthoritative, .bool x79.fTruncated, .bool x79.fDesired, .bool x79.fAvailable, .int .i64 x79.fOpcode, .int .i64 x79.fCode, .slice A81 x79.fQuestions.length c82, .slice A84 x79.fAnswers.length c85, .slice A102 x100.length c103, .slice A301 l300.length c302] 26 (0, 0)) :: (100090, g78, .cells #[.string x69.fApex, .slice pp73.pA0 x69.fRecords.length pp73.pC0] 60 (0, 0)) :: (100040, g2, .cells #[.int .u16 0, .bool false, .bool false, .bool false, .bool false, .bool false, .int .i64 0, .int .i64 0, .slice none 0 0, .slice none 0 0, .slice none 0 0, .slice none 0 0] 26 (0, 0)) :: H, (100770, ⟨.slice A102 x100.length c103, 42, 5, x100.length, x100.flatMap GRR.enc⟩) :: (100653, ⟨.slice A301 l300.length c302, 42, 5, l300.length, l300.flatMap GRR.enc⟩) :: R, φ93⟩ (fun _ h => h) <| c_seq <| c_region <| g_v rfl (r_lss rfl rfl) <| g_nil <| d_then <| c_seq ?_
     refine c_cond rfl (fun h366 => ?_) (fun h366 => ?_)
     ·
      replace hm := ite_t hm (of_decide_eq_true h366)
      refine c_skip <| d_then <| c_seq <| c_block <| c_seq <| c_region ?_
      replace hm := bnd hm
      obtain ⟨x367, hx367, hm⟩ := hm
      refine g_know _ (fun W hS => cl_at (p := (Sta.ok ⟨w0, M, (100100, g94, .cells #[.int .u16 x79.fID, .bool x79.fResponse, .bool x79.fAuthoritative, .bool x79.fTruncated, .bool x79.fDesired, .bool x79.fAvailable, .int .i64 x79.fOpcode, .int .i64 x79.fCode, .slice A81 x79.fQuestions.length c82, .slice A84 x79.fAnswers.length c85, .slice A102 x100.length c103, .slice A301 l300.length c302] 26 (0, 0)) :: (100090, g78, .cells #[.string x69.fApex, .slice pp73.pA0 x69.fRecords.length pp73.pC0] 60 (0, 0)) :: (100040, g2, .cells #[.int .u16 0, .bool false, .bool false, .bool false, .bool false, .bool false, .int .i64 0, .int .i64 0, .slice none 0 0, .slice none 0 0, .slice none 0 0, .slice none 0 0] 26 (0, 0)) :: H, (100770, ⟨.slice A102 x100.length c103, 42, 5, x100.length, x100.flatMap GRR.enc⟩) :: (100653, ⟨.slice A301 l300.length c302, 42, 5, l300.length, l300.flatMap GRR.enc⟩) :: R, φ93⟩)) (sz := 5) (fun _ => rfl) (by decide) hS (fun W hS => rowCl (S := ⟨w0, M, (100100, g94, .cells #[.int .u16 x79.fID, .bool x79.fResponse, .bool x79.fAuthoritative, .bool x79.fTruncated, .bool x79.fDesired, .bool x79.fAvailable, .int .i64 x79.fOpcode, .int .i64 x79.fCode, .slice A81 x79.fQuestions.length c82, .slice A84 x79.fAnswers.length c85, .slice A102 x100.length c103, .slice A301 l300.length c302] 26 (0, 0)) :: (100090, g78, .cells #[.string x69.fApex, .slice pp73.pA0 x69.fRecords.length pp73.pC0] 60 (0, 0)) :: (100040, g2, .cells #[.int .u16 0, .bool false, .bool false, .bool false, .bool false, .bool false, .int .i64 0, .int .i64 0, .slice none 0 0, .slice none 0 0, .slice none 0 0, .slice none 0 0] 26 (0, 0)) :: H, (100770, ⟨.slice A102 x100.length c103, 42, 5, x100.length, x100.flatMap GRR.enc⟩) :: (100653, ⟨.slice A301 l300.length c302, 42, 5, l300.length, l300.flatMap GRR.enc⟩) :: R, φ93⟩) (tag := 100770) rfl W hS) hx367) ?_
      rintro ⟨ad368, hA370, f369⟩
      refine g_v rfl (r_ix Try.underlying24 Try.sizeOf42 rfl hA370 rfl hx367) <| g_v rfl (r_ldA rfl Try.isAgg42 Try.sizeOf42 (fun W hS => (f369 W hS).take 5) rfl) ?_
      refine g_e rfl (e_alloc 100140 Try.zeroValue42) (fun g371 _ => ?_)
      refine g_storeL (tag := 100140) rfl rfl rfl rfl Try.sizeOf42 rfl rfl <| g_nil <| d_then <| c_seq <| c_region <| g_v rfl (r_loadA (tag := 100140) rfl rfl Try.isAgg42 Try.sizeOf42 rfl rfl) ?_
      replace hm := bnd hm
      obtain ⟨⟨x372, x373⟩, hx374, hm⟩ := hm
      refine g_cn ⟨w0, M, _, _, φ93⟩ (fun _ h => h) Try.call27 rfl rfl (c_record_Target x367 _ hx374) (fun _ _ => ?_)
      refine g_v rfl r_move <| g_v rfl (r_extract rfl rfl) <| g_v rfl (r_extract rfl rfl) <| g_v rfl r_assign <| g_v rfl r_assign <| g_nil <| d_then ?_
      refine c_flat [(4, .pointer (some ⟨g2, 0, none⟩)), (9, .pointer (some ⟨g78, 0, none⟩)), (10, .pointer (some ⟨g94, 0, none⟩)), (15, .string x372), (80, .slice A102 x100.length c103), (81, .int .i64 (x100.length : Int)), (82, .int .i64 i303)] ⟨rfl, rfl, rfl, rfl, rfl, rfl, rfl, trivial⟩ (fun u => ?_)
      refine c_sta ⟨w0, M, (100140, g371, .cells #[.string x367.fName, .int .u16 x367.fType, .int .u16 x367.fClass, .int .u32 x367.fTTL, .string x367.fData] 42 (0, 0)) :: (100100, g94, .cells #[.int .u16 x79.fID, .bool x79.fResponse, .bool x79.fAuthoritative, .bool x79.fTruncated, .bool x79.fDesired, .bool x79.fAvailable, .int .i64 x79.fOpcode, .int .i64 x79.fCode, .slice A81 x79.fQuestions.length c82, .slice A84 x79.fAnswers.length c85, .slice A102 x100.length c103, .slice A301 l300.length c302] 26 (0, 0)) :: (100090, g78, .cells #[.string x69.fApex, .slice pp73.pA0 x69.fRecords.length pp73.pC0] 60 (0, 0)) :: (100040, g2, .cells #[.int .u16 0, .bool false, .bool false, .bool false, .bool false, .bool false, .int .i64 0, .int .i64 0, .slice none 0 0, .slice none 0 0, .slice none 0 0, .slice none 0 0] 26 (0, 0)) :: H, (100770, ⟨.slice A102 x100.length c103, 42, 5, x100.length, x100.flatMap GRR.enc⟩) :: (100653, ⟨.slice A301 l300.length c302, 42, 5, l300.length, l300.flatMap GRR.enc⟩) :: R, φ93⟩ (fun _ h => h) <| c_seq <| c_region <| g_v rfl (r_loadA (tag := 100090) rfl rfl Try.isAgg60 Try.sizeOf60 rfl rfl) <| g_v rfl r_move ?_
      replace hm := bnd hm
      obtain ⟨x376, hx377, hm⟩ := hm
      refine g_cn ⟨w0, M, _, _, φ93⟩ (fun _ h => h) Try.call28 rfl rfl (c_auth_zone_addresses (⟨x69⟩ : Gauth_zone) pp73.pA0 pp73.pC0 hcp76 (fun W hS => f77 W (q93 _ hS.now)) x372 _ hx377) (fun ⟨A378, c379⟩ hc379 => ?_)
      refine g_sta _ (fun W h => (ok_frontR (t := 2000) (t' := 100930) h rfl)) <| g_v rfl (r_lenL Try.underlying24 rfl) <| g_v rfl r_move <| g_nil <| d_then ?_
      refine c_cut (ι := (List GRR) × Option Addr × Nat) [4, 9, 10, 80, 81, 82] (fun ⟨l420, A421, c422⟩ => []) (fun ⟨l420, A421, c422⟩ => ⟨w0, M, (100100, g94, .cells #[.int .u16 x79.fID, .bool x79.fResponse, .bool x79.fAuthoritative, .bool x79.fTruncated, .bool x79.fDesired, .bool x79.fAvailable, .int .i64 x79.fOpcode, .int .i64 x79.fCode, .slice A81 x79.fQuestions.length c82, .slice A84 x79.fAnswers.length c85, .slice A102 x100.length c103, .slice A421 l420.length c422] 26 (0, 0)) :: (100090, g78, .cells #[.string x69.fApex, .slice pp73.pA0 x69.fRecords.length pp73.pC0] 60 (0, 0)) :: (100040, g2, .cells #[.int .u16 0, .bool false, .bool false, .bool false, .bool false, .bool false, .int .i64 0, .int .i64 0, .slice none 0 0, .slice none 0 0, .slice none 0 0, .slice none 0 0] 26 (0, 0)) :: H, (100770, ⟨.slice A102 x100.length c103, 42, 5, x100.length, x100.flatMap GRR.enc⟩) :: (100653, ⟨.slice A421 l420.length c422, 42, 5, l420.length, l420.flatMap GRR.enc⟩) :: R, φ93⟩) (fun ⟨l420, A421, c422⟩ => m_auth_Answer_j3 i303 l420 = some o2 ∧ l420.length ≤ c422) ?_ (fun ⟨l420, A421, c422⟩ u ⟨hm, hc422⟩ => ?_)
      ·
       refine c_block ?_
       replace hm := bnd hm
       obtain ⟨out4, hl4, hr4⟩ := hm
       obtain ⟨n462', hl4⟩ := loop_lp hl4
       refine c_loopU (ι := Nat × (List GRR) × Int × Option Addr × Nat) [4, 9, 10, 80, 81, 82, 93, 94, 95] (fun ⟨n462, l441, i444, A442, c443⟩ => [(95, .int .i64 i444)]) (fun ⟨n462, l441, i444, A442, c443⟩ => ⟨w0, M, (100100, g94, .cells #[.int .u16 x79.fID, .bool x79.fResponse, .bool x79.fAuthoritative, .bool x79.fTruncated, .bool x79.fDesired, .bool x79.fAvailable, .int .i64 x79.fOpcode, .int .i64 x79.fCode, .slice A81 x79.fQuestions.length c82, .slice A84 x79.fAnswers.length c85, .slice A102 x100.length c103, .slice A442 l441.length c443] 26 (0, 0)) :: (100090, g78, .cells #[.string x69.fApex, .slice pp73.pA0 x69.fRecords.length pp73.pC0] 60 (0, 0)) :: (100040, g2, .cells #[.int .u16 0, .bool false, .bool false, .bool false, .bool false, .bool false, .int .i64 0, .int .i64 0, .slice none 0 0, .slice none 0 0, .slice none 0 0, .slice none 0 0] 26 (0, 0)) :: H, (100930, ⟨.slice A378 x376.length c379, 42, 5, x376.length, x376.flatMap GRR.enc⟩) :: (100770, ⟨.slice A102 x100.length c103, 42, 5, x100.length, x100.flatMap GRR.enc⟩) :: (100653, ⟨.slice A442 l441.length c443, 42, 5, l441.length, l441.flatMap GRR.enc⟩) :: R, φ93⟩) (fun ⟨n462, l441, i444, A442, c443⟩ => Lp (fun s => m_auth_Answer_s4 x376 s.1 s.2) n462 (l441, i444) out4 ∧ l441.length ≤ c443) (fun ⟨n462, l441, i444, A442, c443⟩ => n462) (n462', l300, 0, A301, c302) ⟨hl4, hc302⟩ ⟨rfl, rfl, rfl, rfl, rfl, rfl, rfl, rfl, rfl, trivial⟩ (fun W h => (h.dropH (t := 100140) rfl).phi (fun W hφ => hφ)) (fun ⟨n462, l441, i444, A442, c443⟩ u ⟨hlp, hc443⟩ => ?_)
       obtain ⟨o4, hm, hnx4⟩ := lp_step hlp
       clear hlp
       replace hm : m_auth_Answer_s4 x376 l441 i444 = some o4 := hm
       unfold m_auth_Answer_s4 at hm
       refine c_flat [(4, .pointer (some ⟨g2, 0, none⟩)), (9, .pointer (some ⟨g78, 0, none⟩)), (10, .pointer (some ⟨g94, 0, none⟩)), (80, .slice A102 x100.length c103), (81, .int .i64 (x100.length : Int)), (82, .int .i64 i303), (93, .slice A378 x376.length c379), (94, .int .i64 (x376.length : Int)), (95, .int .i64 i444)] ⟨rfl, rfl, rfl, rfl, rfl, rfl, rfl, rfl, rfl, trivial⟩ (fun u => ?_)
       refine c_sta ⟨w0, M, (100100, g94, .cells #[.int .u16 x79.fID, .bool x79.fResponse, .bool x79.fAuthoritative, .bool x79.fTruncated, .bool x79.fDesired, .bool x79.fAvailable, .int .i64 x79.fOpcode, .int .i64 x79.fCode, .slice A81 x79.fQuestions.length c82, .slice A84 x79.fAnswers.length c85, .slice A102 x100.length c103, .slice A442 l441.length c443] 26 (0, 0)) :: (100090, g78, .cells #[.string x69.fApex, .slice pp73.pA0 x69.fRecords.length pp73.pC0] 60 (0, 0)) :: (100040, g2, .cells #[.int .u16 0, .bool false, .bool false, .bool false, .bool false, .bool false, .int .i64 0, .int .i64 0, .slice none 0 0, .slice none 0 0, .slice none 0 0, .slice none 0 0] 26 (0, 0)) :: H, (100930, ⟨.slice A378 x376.length c379, 42, 5, x376.length, x376.flatMap GRR.enc⟩) :: (100770, ⟨.slice A102 x100.length c103, 42, 5, x100.length, x100.flatMap GRR.enc⟩) :: (100653, ⟨.slice A442 l441.length c443, 42, 5, l441.length, l441.flatMap GRR.enc⟩) :: R, φ93⟩ (fun _ h => h) <| c_seq <| c_region <| g_v rfl (r_lss rfl rfl) <| g_nil <| d_then <| c_seq ?_
       refine c_cond rfl (fun h463 => ?_) (fun h463 => ?_)
       ·
        replace hm := ite_t hm (of_decide_eq_true h463)
        refine c_skip <| d_then <| c_seq <| c_block <| c_seq <| c_region ?_
        replace hm := bnd hm
        obtain ⟨x464, hx464, hm⟩ := hm
        refine g_know _ (fun W hS => cl_at (p := (Sta.ok ⟨w0, M, (100100, g94, .cells #[.int .u16 x79.fID, .bool x79.fResponse, .bool x79.fAuthoritative, .bool x79.fTruncated, .bool x79.fDesired, .bool x79.fAvailable, .int .i64 x79.fOpcode, .int .i64 x79.fCode, .slice A81 x79.fQuestions.length c82, .slice A84 x79.fAnswers.length c85, .slice A102 x100.length c103, .slice A442 l441.length c443] 26 (0, 0)) :: (100090, g78, .cells #[.string x69.fApex, .slice pp73.pA0 x69.fRecords.length pp73.pC0] 60 (0, 0)) :: (100040, g2, .cells #[.int .u16 0, .bool false, .bool false, .bool false, .bool false, .bool false, .int .i64 0, .int .i64 0, .slice none 0 0, .slice none 0 0, .slice none 0 0, .slice none 0 0] 26 (0, 0)) :: H, (100930, ⟨.slice A378 x376.length c379, 42, 5, x376.length, x376.flatMap GRR.enc⟩) :: (100770, ⟨.slice A102 x100.length c103, 42, 5, x100.length, x100.flatMap GRR.enc⟩) :: (100653, ⟨.slice A442 l441.length c443, 42, 5, l441.length, l441.flatMap GRR.enc⟩) :: R, φ93⟩)) (sz := 5) (fun _ => rfl) (by decide) hS (fun W hS => rowCl (S := ⟨w0, M, (100100, g94, .cells #[.int .u16 x79.fID, .bool x79.fResponse, .bool x79.fAuthoritative, .bool x79.fTruncated, .bool x79.fDesired, .bool x79.fAvailable, .int .i64 x79.fOpcode, .int .i64 x79.fCode, .slice A81 x79.fQuestions.length c82, .slice A84 x79.fAnswers.length c85, .slice A102 x100.length c103, .slice A442 l441.length c443] 26 (0, 0)) :: (100090, g78, .cells #[.string x69.fApex, .slice pp73.pA0 x69.fRecords.length pp73.pC0] 60 (0, 0)) :: (100040, g2, .cells #[.int .u16 0, .bool false, .bool false, .bool false, .bool false, .bool false, .int .i64 0, .int .i64 0, .slice none 0 0, .slice none 0 0, .slice none 0 0, .slice none 0 0] 26 (0, 0)) :: H, (100930, ⟨.slice A378 x376.length c379, 42, 5, x376.length, x376.flatMap GRR.enc⟩) :: (100770, ⟨.slice A102 x100.length c103, 42, 5, x100.length, x100.flatMap GRR.enc⟩) :: (100653, ⟨.slice A442 l441.length c443, 42, 5, l441.length, l441.flatMap GRR.enc⟩) :: R, φ93⟩) (tag := 100930) rfl W hS) hx464) ?_
        rintro ⟨ad465, hA467, f466⟩
        refine g_v rfl (r_ix Try.underlying24 Try.sizeOf42 rfl hA467 rfl hx464) <| g_v rfl (r_ldA rfl Try.isAgg42 Try.sizeOf42 (fun W hS => (f466 W hS).take 5) rfl) ?_
        refine g_e rfl (e_alloc 100180 Try.zeroValue42) (fun g468 _ => ?_)
        refine g_storeL (tag := 100180) rfl rfl rfl rfl Try.sizeOf42 rfl rfl <| g_nil <| d_then <| c_seq <| c_region <| g_v rfl (r_field (n := 11) Try.underlying26 rfl Try.sizeOf24 rfl rfl) <| g_v rfl (r_load (tag := 100100) rfl rfl rfl Try.isAgg24) <| g_v rfl (r_loadA (tag := 100180) rfl rfl Try.isAgg42 Try.sizeOf42 rfl rfl) ?_
        replace hm := bnd hm
        obtain ⟨x469, hx470, hm⟩ := hm
        refine g_cn ⟨w0, M, _, _, φ93⟩ (fun _ h => h) Try.call29 rfl rfl (c_slices_Contains_29 l441 A442 c443 hc443 (fun W hS => rowCl (tag := 100653) rfl W hS) x464 _ hx470) (fun _ _ => ?_)
        refine g_v rfl (r_not rfl) <| g_nil <| d_then ?_
        refine c_flat [(4, .pointer (some ⟨g2, 0, none⟩)), (9, .pointer (some ⟨g78, 0, none⟩)), (10, .pointer (some ⟨g94, 0, none⟩)), (18, .pointer (some ⟨g468, 0, none⟩)), (80, .slice A102 x100.length c103), (81, .int .i64 (x100.length : Int)), (82, .int .i64 i303), (93, .slice A378 x376.length c379), (94, .int .i64 (x376.length : Int)), (95, .int .i64 i444), (103, .bool (!x469))] ⟨rfl, rfl, rfl, rfl, rfl, rfl, rfl, rfl, rfl, rfl, rfl, trivial⟩ (fun u => ?_)
        refine c_sta ⟨w0, M, (100180, g468, .cells #[.string x464.fName, .int .u16 x464.fType, .int .u16 x464.fClass, .int .u32 x464.fTTL, .string x464.fData] 42 (0, 0)) :: (100100, g94, .cells #[.int .u16 x79.fID, .bool x79.fResponse, .bool x79.fAuthoritative, .bool x79.fTruncated, .bool x79.fDesired, .bool x79.fAvailable, .int .i64 x79.fOpcode, .int .i64 x79.fCode, .slice A81 x79.fQuestions.length c82, .slice A84 x79.fAnswers.length c85, .slice A102 x100.length c103, .slice A442 l441.length c443] 26 (0, 0)) :: (100090, g78, .cells #[.string x69.fApex, .slice pp73.pA0 x69.fRecords.length pp73.pC0] 60 (0, 0)) :: (100040, g2, .cells #[.int .u16 0, .bool false, .bool false, .bool false, .bool false, .bool false, .int .i64 0, .int .i64 0, .slice none 0 0, .slice none 0 0, .slice none 0 0, .slice none 0 0] 26 (0, 0)) :: H, (100930, ⟨.slice A378 x376.length c379, 42, 5, x376.length, x376.flatMap GRR.enc⟩) :: (100770, ⟨.slice A102 x100.length c103, 42, 5, x100.length, x100.flatMap GRR.enc⟩) :: (100653, ⟨.slice A442 l441.length c443, 42, 5, l441.length, l441.flatMap GRR.enc⟩) :: R, φ93⟩ (fun _ h => h) ?_
        refine c_cond rfl (fun h471 => ?_) (fun h471 => ?_)
        ·
         have h471' : x469 = false := by revert h471; cases x469 <;> simp
         replace hm := ite_f hm (bool_nt h471')
         refine c_region <| g_v rfl (r_field (n := 11) Try.underlying26 rfl Try.sizeOf24 rfl rfl) <| g_v rfl (r_load (tag := 100100) rfl rfl rfl Try.isAgg24) <| g_v rfl (r_loadA (tag := 100180) rfl rfl Try.isAgg42 Try.sizeOf42 rfl rfl) ?_
         refine g_e rfl (e_lit (tag := 101070) (l := [x464]) (enc := GRR.enc) (sz := 5) rfl Try.underlying24 (lit42_16 _ _ _ _ _) rfl rfl (fun _ => rfl)) (fun g472 _ => ?_)
         replace hm := bnd hm
         obtain ⟨l473, hl473, hm⟩ := hm
         refine g_e rfl (e_appR (enc := GRR.enc) (l := l441) (l1 := [x464]) (l2 := l473) (tag := 100653) Try.underlying24 inf42_17 rfl (by decide) (by decide) (fun _ => rfl) (fun _ => rfl) rfl hc443 rfl rfl (fun W hS => rowCl (tag := 101070) rfl W hS) hl473) (fun ⟨A474, c475⟩ hc475 => ?_)
         refine g_v rfl (r_field (n := 11) Try.underlying26 rfl Try.sizeOf24 rfl rfl) <| g_storeL (tag := 100100) rfl rfl rfl rfl Try.sizeOf24 rfl rfl <| g_nil <| d_normal_block <| d_then <| c_region <| g_v rfl (r_add rfl rfl rfl) <| g_v rfl r_move <| g_nil ?_
         obtain ⟨n476, hn476, hlp⟩ := nx_inl hm hnx4
         exact d_round (n476, l473, w64 (i444 + 1), A474, c475) ⟨hlp, hc475⟩ hn476 ⟨rfl, rfl, rfl, rfl, rfl, rfl, rfl, rfl, rfl, trivial⟩ (fun W h => ((h.dropR (t := 101070) rfl).dropH (t := 100180) rfl).phi (fun W hφ => hφ))
        have h471' : x469 = true := by revert h471; cases x469 <;> simp
        replace hm := ite_t hm h471'
        refine c_skip <| d_normal_block <| d_then <| c_region <| g_v rfl (r_add rfl rfl rfl) <| g_v rfl r_move <| g_nil ?_
        obtain ⟨n477, hn477, hlp⟩ := nx_inl hm hnx4
        exact d_round (n477, l441, w64 (i444 + 1), A442, c443) ⟨hlp, hc443⟩ hn477 ⟨rfl, rfl, rfl, rfl, rfl, rfl, rfl, rfl, rfl, trivial⟩ (fun W h => (h.dropH (t := 100180) rfl).phi (fun W hφ => hφ))
       replace hm := ite_f hm (of_decide_eq_false h463)
       refine c_exit <| d_exit_then <| d_exit_then <| d_exit_block ?_
       replace hm := nx_out (C := (fun e : (List GRR) => m_auth_Answer_j3 i303 e = some o2)) hm hnx4 hr4
       exact d_round (l441, A442, c443) ⟨hm, hc443⟩ Nat.zero_lt_one ⟨rfl, rfl, rfl, rfl, rfl, rfl, trivial⟩ (fun W h => (h.dropR (t := 100930) rfl).phi (fun W hφ => hφ))
      unfold m_auth_Answer_j3 at hm
      refine d_flat [(4, .pointer (some ⟨g2, 0, none⟩)), (9, .pointer (some ⟨g78, 0, none⟩)), (10, .pointer (some ⟨g94, 0, none⟩)), (80, .slice A102 x100.length c103), (81, .int .i64 (x100.length : Int)), (82, .int .i64 i303)] ⟨rfl, rfl, rfl, rfl, rfl, rfl, trivial⟩ (fun u => ?_)
      refine d_sta ⟨w0, M, (100100, g94, .cells #[.int .u16 x79.fID, .bool x79.fResponse, .bool x79.fAuthoritative, .bool x79.fTruncated, .bool x79.fDesired, .bool x79.fAvailable, .int .i64 x79.fOpcode, .int .i64 x79.fCode, .slice A81 x79.fQuestions.length c82, .slice A84 x79.fAnswers.length c85, .slice A102 x100.length c103, .slice A421 l420.length c422] 26 (0, 0)) :: (100090, g78, .cells #[.string x69.fApex, .slice pp73.pA0 x69.fRecords.length pp73.pC0] 60 (0, 0)) :: (100040, g2, .cells #[.int .u16 0, .bool false, .bool false, .bool false, .bool false, .bool false, .int .i64 0, .int .i64 0, .slice none 0 0, .slice none 0 0, .slice none 0 0, .slice none 0 0] 26 (0, 0)) :: H, (100770, ⟨.slice A102 x100.length c103, 42, 5, x100.length, x100.flatMap GRR.enc⟩) :: (100653, ⟨.slice A421 l420.length c422, 42, 5, l420.length, l420.flatMap GRR.enc⟩) :: R, φ93⟩ (fun _ h => h) <| d_normal_block <| d_then <| c_region <| g_v rfl (r_add rfl rfl rfl) <| g_v rfl r_move <| g_nil ?_
      obtain ⟨n423, hn423, hlp⟩ := nx_inl hm hnx2
      exact d_round (n423, l420, w64 (i303 + 1), A421, c422) ⟨hlp, hc422⟩ hn423 ⟨rfl, rfl, rfl, rfl, rfl, rfl, trivial⟩ (fun W h => h.phi (fun W hφ => hφ))
     replace hm := ite_f hm (of_decide_eq_false h366)
     refine c_exit <| d_exit_then <| d_exit_then <| d_exit_block ?_
     replace hm := nx_out (C := (fun e : (List GRR) => m_auth_Answer_j1 x79 x100 e = some r)) hm hnx2 hr2
     exact d_round (l300, A301, c302) ⟨hm, hc302⟩ Nat.zero_lt_one ⟨rfl, rfl, trivial⟩ (fun W h => (h.dropH (t := 100090) rfl).phi (fun W hφ => hφ))
    unfold m_auth_Answer_j1 at hm
    refine d_flat [(4, .pointer (some ⟨g2, 0, none⟩)), (10, .pointer (some ⟨g94, 0, none⟩))] ⟨rfl, rfl, trivial⟩ (fun u => ?_)
    refine d_sta ⟨w0, M, (100100, g94, .cells #[.int .u16 x79.fID, .bool x79.fResponse, .bool x79.fAuthoritative, .bool x79.fTruncated, .bool x79.fDesired, .bool x79.fAvailable, .int .i64 x79.fOpcode, .int .i64 x79.fCode, .slice A81 x79.fQuestions.length c82, .slice A84 x79.fAnswers.length c85, .slice A102 x100.length c103, .slice A233 l232.length c234] 26 (0, 0)) :: (100040, g2, .cells #[.int .u16 0, .bool false, .bool false, .bool false, .bool false, .bool false, .int .i64 0, .int .i64 0, .slice none 0 0, .slice none 0 0, .slice none 0 0, .slice none 0 0] 26 (0, 0)) :: H, (100770, ⟨.slice A102 x100.length c103, 42, 5, x100.length, x100.flatMap GRR.enc⟩) :: (100653, ⟨.slice A233 l232.length c234, 42, 5, l232.length, l232.flatMap GRR.enc⟩) :: R, φ93⟩ (fun _ h => h) <| d_then <| c_seq <| c_region <| g_v rfl (r_loadA (tag := 100100) rfl rfl Try.isAgg26 Try.sizeOf26 rfl rfl) <| g_storeL (tag := 100040) rfl rfl rfl rfl Try.sizeOf26 rfl rfl <| g_nil <| d_then <| c_ret <| d_ret_then ?_
    cases hm
    refine d_shut (tag := 100770) rfl (fun φ235 q235' => ?_)
    have q235 : ∀ W, φ235 W → φ93 W := fun W h => (q235' W h).1
    have f236 := fun (W : World) (h : φ235 W) => (q235' W h).2
    refine d_shut (tag := 100653) rfl (fun φ237 q237' => ?_)
    have q237 : ∀ W, φ237 W → φ235 W := fun W h => (q237' W h).1
    have f238 := fun (W : World) (h : φ237 W) => (q237' W h).2
    exact d_retC (A81, c82, A84, c85, A102, c103, A233, c234) Try.results9 (res_agg (tag := 100040) rfl rfl Try.isAgg26 Try.sizeOf26 (res_nil rfl)) ⟨hc82, hc85, hc103, hc234⟩ (fun W h => ok_pre (H1 := [_, _]) (R1 := []) h (fun W hφ => ⟨(q93 _ (q235 _ (q237 _ hφ))), (fun W h => f83 W (q235 _ (q237 _ h))) W hφ, (fun W h => f86 W (q235 _ (q237 _ h))) W hφ, (fun W h => f236 W (q237 _ h)) W hφ, (fun W h => f238 W h) W hφ⟩)) (.inr rfl)
   replace hm := ite_f hm (bool_nt h99)
   refine c_skip <| d_then <| c_seq <| c_region <| g_v rfl (r_field (n := 2) Try.underlying26 rfl Try.sizeOf4 rfl rfl) <| g_storeL (tag := 100100) rfl rfl rfl rfl Try.sizeOf4 rfl rfl <| g_nil <| d_then <| c_seq <| c_region ?_
   refine g_v rfl (r_loadA (tag := 100090) rfl rfl Try.isAgg60 Try.sizeOf60 rfl rfl) <| g_v rfl (r_field (n := 0) Try.underlying29 rfl Try.sizeOf9 rfl rfl) <| g_v rfl (r_load (tag := 100060) rfl rfl rfl Try.isAgg9) <| g_v rfl (r_field (n := 1) Try.underlying29 rfl Try.sizeOf22 rfl rfl) <| g_v rfl (r_load (tag := 100060) rfl rfl rfl Try.isAgg22) ?_
   replace hm := bnd hm
   obtain ⟨x478, hx479, hm⟩ := hm
   refine g_cn ⟨w0, M, _, _, φ93⟩ (fun _ h => h) Try.call26 rfl rfl (c_auth_zone_of (⟨x69⟩ : Gauth_zone) pp73.pA0 pp73.pC0 hcp76 (fun W hS => f77 W (q93 _ hS.now)) x41.fName x41.fType _ hx479) (fun ⟨A480, c481⟩ hc481 => ?_)
   refine g_sta _ (fun W h => (ok_frontR (t := 2000) (t' := 101190) h rfl)) <| g_v rfl (r_field (n := 9) Try.underlying26 rfl Try.sizeOf24 rfl rfl) <| g_storeL (tag := 100100) rfl rfl rfl rfl Try.sizeOf24 rfl rfl <| g_nil <| d_then ?_
   refine c_flat [(4, .pointer (some ⟨g2, 0, none⟩)), (6, .pointer (some ⟨g45, 0, none⟩)), (9, .pointer (some ⟨g78, 0, none⟩)), (10, .pointer (some ⟨g94, 0, none⟩))] ⟨rfl, rfl, rfl, rfl, trivial⟩ (fun u => ?_)
   refine c_sta ⟨w0, M, (100100, g94, .cells #[.int .u16 x79.fID, .bool x79.fResponse, .bool true, .bool x79.fTruncated, .bool x79.fDesired, .bool x79.fAvailable, .int .i64 x79.fOpcode, .int .i64 x79.fCode, .slice A81 x79.fQuestions.length c82, .slice A480 x478.length c481, .slice A87 x79.fAuthorities.length c88, .slice A90 x79.fExtras.length c91] 26 (0, 0)) :: (100090, g78, .cells #[.string x69.fApex, .slice pp73.pA0 x69.fRecords.length pp73.pC0] 60 (0, 0)) :: (100060, g45, .cells #[.string x41.fName, .int .u16 x41.fType, .int .u16 x41.fClass] 29 (0, 0)) :: (100040, g2, .cells #[.int .u16 0, .bool false, .bool false, .bool false, .bool false, .bool false, .int .i64 0, .int .i64 0, .slice none 0 0, .slice none 0 0, .slice none 0 0, .slice none 0 0] 26 (0, 0)) :: (100030, g1, .cells #[.int .u16 p1.fID, .bool p1.fResponse, .bool p1.fAuthoritative, .bool p1.fTruncated, .bool p1.fDesired, .bool p1.fAvailable, .int .i64 p1.fOpcode, .int .i64 p1.fCode, .slice Ap1_0 p1.fQuestions.length cp1_0, .slice Ap1_1 p1.fAnswers.length cp1_1, .slice Ap1_2 p1.fAuthorities.length cp1_2, .slice Ap1_3 p1.fExtras.length cp1_3] 26 (0, 0)) :: H, (101190, ⟨.slice A480 x478.length c481, 42, 5, x478.length, x478.flatMap GRR.enc⟩) :: (100653, ⟨.slice A90 x79.fExtras.length c91, 42, 5, x79.fExtras.length, x79.fExtras.flatMap GRR.enc⟩) :: R, φ93⟩ (fun _ h => h) <| c_seq ?_
   refine c_cut (ι := (List GRR) × Option Addr × Nat) [4, 6, 9, 10] (fun ⟨l497, A498, c499⟩ => []) (fun ⟨l497, A498, c499⟩ => ⟨w0, M, (100100, g94, .cells #[.int .u16 x79.fID, .bool x79.fResponse, .bool true, .bool x79.fTruncated, .bool x79.fDesired, .bool x79.fAvailable, .int .i64 x79.fOpcode, .int .i64 x79.fCode, .slice A81 x79.fQuestions.length c82, .slice A498 l497.length c499, .slice A87 x79.fAuthorities.length c88, .slice A90 x79.fExtras.length c91] 26 (0, 0)) :: (100090, g78, .cells #[.string x69.fApex, .slice pp73.pA0 x69.fRecords.length pp73.pC0] 60 (0, 0)) :: (100060, g45, .cells #[.string x41.fName, .int .u16 x41.fType, .int .u16 x41.fClass] 29 (0, 0)) :: (100040, g2, .cells #[.int .u16 0, .bool false, .bool false, .bool false, .bool false, .bool false, .int .i64 0, .int .i64 0, .slice none 0 0, .slice none 0 0, .slice none 0 0, .slice none 0 0] 26 (0, 0)) :: H, (100653, ⟨.slice A90 x79.fExtras.length c91, 42, 5, x79.fExtras.length, x79.fExtras.flatMap GRR.enc⟩) :: R, fun W => φ93 W ∧ Cl W A498 (l497.flatMap GRR.enc)⟩) (fun ⟨l497, A498, c499⟩ => m_auth_Answer_j5 x69 x41 x79 l497 = some r ∧ l497.length ≤ c499) ?_ (fun ⟨l497, A498, c499⟩ u ⟨hm, hc499⟩ => ?_)
   ·
    refine c_seq <| c_region <| g_v rfl (r_field (n := 9) Try.underlying26 rfl Try.sizeOf24 rfl rfl) <| g_v rfl (r_load (tag := 100100) rfl rfl rfl Try.isAgg24) <| g_v rfl (r_lenL Try.underlying24 rfl) <| g_v rfl (r_eql rfl rfl) <| g_nil <| d_then ?_
    refine c_cond rfl (fun h536 => ?_) (fun h536 => ?_)
    ·
     replace hm := ite_t hm (of_decide_eq_true h536)
     refine c_seq <| c_region <| g_v rfl (r_loadA (tag := 100090) rfl rfl Try.isAgg60 Try.sizeOf60 rfl rfl) <| g_v rfl (r_field (n := 0) Try.underlying29 rfl Try.sizeOf9 rfl rfl) <| g_v rfl (r_load (tag := 100060) rfl rfl rfl Try.isAgg9) ?_
     replace hm := bnd hm
     obtain ⟨x537, hx538, hm⟩ := hm
     refine g_cn ⟨w0, M, _, _, φ93⟩ (fun _ h => h) Try.call26 rfl rfl (c_auth_zone_of (⟨x69⟩ : Gauth_zone) pp73.pA0 pp73.pC0 hcp76 (fun W hS => f77 W (q93 _ hS.now)) x41.fName 5 _ hx538) (fun ⟨A539, c540⟩ hc540 => ?_)
     refine g_sta _ (fun W h => (ok_frontR (t := 2000) (t' := 101280) h rfl)) <| g_v rfl r_assign <| g_nil <| d_then ?_
     refine c_flat [(4, .pointer (some ⟨g2, 0, none⟩)), (6, .pointer (some ⟨g45, 0, none⟩)), (9, .pointer (some ⟨g78, 0, none⟩)), (10, .pointer (some ⟨g94, 0, none⟩)), (19, .slice A539 x537.length c540)] ⟨rfl, rfl, rfl, rfl, rfl, trivial⟩ (fun u => ?_)
     refine c_sta ⟨w0, M, (100100, g94, .cells #[.int .u16 x79.fID, .bool x79.fResponse, .bool true, .bool x79.fTruncated, .bool x79.fDesired, .bool x79.fAvailable, .int .i64 x79.fOpcode, .int .i64 x79.fCode, .slice A81 x79.fQuestions.length c82, .slice A480 x478.length c481, .slice A87 x79.fAuthorities.length c88, .slice A90 x79.fExtras.length c91] 26 (0, 0)) :: (100090, g78, .cells #[.string x69.fApex, .slice pp73.pA0 x69.fRecords.length pp73.pC0] 60 (0, 0)) :: (100060, g45, .cells #[.string x41.fName, .int .u16 x41.fType, .int .u16 x41.fClass] 29 (0, 0)) :: (100040, g2, .cells #[.int .u16 0, .bool false, .bool false, .bool false, .bool false, .bool false, .int .i64 0, .int .i64 0, .slice none 0 0, .slice none 0 0, .slice none 0 0, .slice none 0 0] 26 (0, 0)) :: (100030, g1, .cells #[.int .u16 p1.fID, .bool p1.fResponse, .bool p1.fAuthoritative, .bool p1.fTruncated, .bool p1.fDesired, .bool p1.fAvailable, .int .i64 p1.fOpcode, .int .i64 p1.fCode, .slice Ap1_0 p1.fQuestions.length cp1_0, .slice Ap1_1 p1.fAnswers.length cp1_1, .slice Ap1_2 p1.fAuthorities.length cp1_2, .slice Ap1_3 p1.fExtras.length cp1_3] 26 (0, 0)) :: H, (101280, ⟨.slice A539 x537.length c540, 42, 5, x537.length, x537.flatMap GRR.enc⟩) :: (101190, ⟨.slice A480 x478.length c481, 42, 5, x478.length, x478.flatMap GRR.enc⟩) :: (100653, ⟨.slice A90 x79.fExtras.length c91, 42, 5, x79.fExtras.length, x79.fExtras.flatMap GRR.enc⟩) :: R, φ93⟩ (fun _ h => h) <| c_region <| g_v rfl r_move <| g_v rfl r_move <| g_v rfl (r_lenL Try.underlying24 rfl) <| g_v rfl (r_min rfl rfl) ?_
     refine g_shut (tag := 101280) rfl (fun φ542 q542' => ?_)
     have q542 : ∀ W, φ542 W → φ93 W := fun W h => (q542' W h).1
     have f543 := fun (W : World) (h : φ542 W) => (q542' W h).2
     replace hm := bnd hm
     obtain ⟨l545, hl545, hm⟩ := hm
     have f544 := fun (W : World) (h : φ542 W) => cl_cutHi (enc := GRR.enc) (sz := 5) (fun _ => rfl) hl545 (f543 W h)
     refine g_v rfl (r_lcutHi Try.underlying24 Try.sizeOf42 rfl hc540 rfl hl545) <| g_v rfl (r_field (n := 9) Try.underlying26 rfl Try.sizeOf24 rfl rfl) <| g_storeL (tag := 100100) rfl rfl rfl rfl Try.sizeOf24 rfl rfl <| g_nil ?_
     exact d_round (l545, A539, c540) ⟨hm, (cutHi_len hc540 hl545)⟩ Nat.zero_lt_one ⟨rfl, rfl, rfl, rfl, trivial⟩ (fun W h => ((h.dropR (t := 101190) rfl).dropH (t := 100030) rfl).phi (fun W hφ => ⟨(q542 _ hφ), (fun W h => f544 W h) W hφ⟩))
    replace hm := ite_f hm (of_decide_eq_false h536)
    refine c_skip ?_
    refine d_shut (tag := 101190) rfl (fun φ546 q546' => ?_)
    have q546 : ∀ W, φ546 W → φ93 W := fun W h => (q546' W h).1
    have f547 := fun (W : World) (h : φ546 W) => (q546' W h).2
    exact d_round (x478, A480, c481) ⟨hm, hc481⟩ Nat.zero_lt_one ⟨rfl, rfl, rfl, rfl, trivial⟩ (fun W h => (h.dropH (t := 100030) rfl).phi (fun W hφ => ⟨(q546 _ hφ), (fun W h => f547 W h) W hφ⟩))
   unfold m_auth_Answer_j5 at hm
   refine d_abs (fun φ501 q501' => ?_)
   have q501 : ∀ W, φ501 W → φ93 W := fun W h => (q501' W h).1
   have f500 := fun (W : World) (h : φ501 W) => (q501' W h).2
   refine d_flat [(4, .pointer (some ⟨g2, 0, none⟩)), (6, .pointer (some ⟨g45, 0, none⟩)), (9, .pointer (some ⟨g78, 0, none⟩)), (10, .pointer (some ⟨g94, 0, none⟩))] ⟨rfl, rfl, rfl, rfl, trivial⟩ (fun u => ?_)
   refine d_sta ⟨w0, M, (100100, g94, .cells #[.int .u16 x79.fID, .bool x79.fResponse, .bool true, .bool x79.fTruncated, .bool x79.fDesired, .bool x79.fAvailable, .int .i64 x79.fOpcode, .int .i64 x79.fCode, .slice A81 x79.fQuestions.length c82, .slice A498 l497.length c499, .slice A87 x79.fAuthorities.length c88, .slice A90 x79.fExtras.length c91] 26 (0, 0)) :: (100090, g78, .cells #[.string x69.fApex, .slice pp73.pA0 x69.fRecords.length pp73.pC0] 60 (0, 0)) :: (100060, g45, .cells #[.string x41.fName, .int .u16 x41.fType, .int .u16 x41.fClass] 29 (0, 0)) :: (100040, g2, .cells #[.int .u16 0, .bool false, .bool false, .bool false, .bool false, .bool false, .int .i64 0, .int .i64 0, .slice none 0 0, .slice none 0 0, .slice none 0 0, .slice none 0 0] 26 (0, 0)) :: H, (100653, ⟨.slice A90 x79.fExtras.length c91, 42, 5, x79.fExtras.length, x79.fExtras.flatMap GRR.enc⟩) :: R, φ501⟩ (fun _ h => h) <| d_then <| c_seq ?_
   refine c_cut (ι := Int × (List GRR) × (List GRR) × Option Addr × Nat × Option Addr × Nat) [4, 10] (fun ⟨i511, l512, l516, A513, c514, A517, c518⟩ => []) (fun ⟨i511, l512, l516, A513, c514, A517, c518⟩ => ⟨w0, M, (100100, g94, .cells #[.int .u16 x79.fID, .bool x79.fResponse, .bool true, .bool x79.fTruncated, .bool x79.fDesired, .bool x79.fAvailable, .int .i64 x79.fOpcode, .int .i64 i511, .slice A81 x79.fQuestions.length c82, .slice A513 l512.length c514, .slice A517 l516.length c518, .slice A90 x79.fExtras.length c91] 26 (0, 0)) :: (100040, g2, .cells #[.int .u16 0, .bool false, .bool false, .bool false, .bool false, .bool false, .int .i64 0, .int .i64 0, .slice none 0 0, .slice none 0 0, .slice none 0 0, .slice none 0 0] 26 (0, 0)) :: H, (100653, ⟨.slice A90 x79.fExtras.length c91, 42, 5, x79.fExtras.length, x79.fExtras.flatMap GRR.enc⟩) :: R, fun W => φ501 W ∧ Cl W A513 (l512.flatMap GRR.enc) ∧ Cl W A517 (l516.flatMap GRR.enc)⟩) (fun ⟨i511, l512, l516, A513, c514, A517, c518⟩ => m_auth_Answer_j6 x79 i511 l512 l516 = some r ∧ l512.length ≤ c514 ∧ l516.length ≤ c518) ?_ (fun ⟨i511, l512, l516, A513, c514, A517, c518⟩ u ⟨hm, hc514, hc518⟩ => ?_)
   ·
    refine c_seq <| c_region <| g_v rfl (r_field (n := 9) Try.underlying26 rfl Try.sizeOf24 rfl rfl) <| g_v rfl (r_load (tag := 100100) rfl rfl rfl Try.isAgg24) <| g_v rfl (r_lenL Try.underlying24 rfl) <| g_v rfl (r_eql rfl rfl) <| g_nil <| d_then ?_
    refine c_cond rfl (fun h523 => ?_) (fun h523 => ?_)
    ·
     replace hm := ite_t hm (of_decide_eq_true h523)
     refine c_seq <| c_region <| g_v rfl (r_loadA (tag := 100090) rfl rfl Try.isAgg60 Try.sizeOf60 rfl rfl) <| g_v rfl (r_field (n := 0) Try.underlying60 rfl Try.sizeOf33 rfl rfl) <| g_v rfl (r_field (n := 0) Try.underlying33 rfl Try.sizeOf9 rfl rfl) <| g_v rfl (r_load (tag := 100090) rfl rfl rfl Try.isAgg9) ?_
     replace hm := bnd hm
     obtain ⟨x524, hx525, hm⟩ := hm
     refine g_cn ⟨w0, M, _, _, φ501⟩ (fun _ h => h) Try.call26 rfl rfl (c_auth_zone_of (⟨x69⟩ : Gauth_zone) pp73.pA0 pp73.pC0 hcp76 (fun W hS => f77 W (q93 _ (q501 _ hS.now))) x69.fApex 6 _ hx525) (fun ⟨A526, c527⟩ hc527 => ?_)
     refine g_sta _ (fun W h => (ok_frontR (t := 2000) (t' := 101430) h rfl)) <| g_v rfl (r_field (n := 9) Try.underlying26 rfl Try.sizeOf24 rfl rfl) <| g_storeL (tag := 100100) rfl rfl rfl rfl Try.sizeOf24 rfl rfl <| g_v rfl (r_field (n := 10) Try.underlying26 rfl Try.sizeOf24 rfl rfl) <| g_storeL (tag := 100100) rfl rfl rfl rfl Try.sizeOf24 rfl rfl <| g_nil <| d_then ?_
     refine c_flat [(4, .pointer (some ⟨g2, 0, none⟩)), (6, .pointer (some ⟨g45, 0, none⟩)), (9, .pointer (some ⟨g78, 0, none⟩)), (10, .pointer (some ⟨g94, 0, none⟩))] ⟨rfl, rfl, rfl, rfl, trivial⟩ (fun u => ?_)
     refine c_sta ⟨w0, M, (100100, g94, .cells #[.int .u16 x79.fID, .bool x79.fResponse, .bool true, .bool x79.fTruncated, .bool x79.fDesired, .bool x79.fAvailable, .int .i64 x79.fOpcode, .int .i64 x79.fCode, .slice A81 x79.fQuestions.length c82, .slice none 0 0, .slice A526 x524.length c527, .slice A90 x79.fExtras.length c91] 26 (0, 0)) :: (100090, g78, .cells #[.string x69.fApex, .slice pp73.pA0 x69.fRecords.length pp73.pC0] 60 (0, 0)) :: (100060, g45, .cells #[.string x41.fName, .int .u16 x41.fType, .int .u16 x41.fClass] 29 (0, 0)) :: (100040, g2, .cells #[.int .u16 0, .bool false, .bool false, .bool false, .bool false, .bool false, .int .i64 0, .int .i64 0, .slice none 0 0, .slice none 0 0, .slice none 0 0, .slice none 0 0] 26 (0, 0)) :: H, (101430, ⟨.slice A526 x524.length c527, 42, 5, x524.length, x524.flatMap GRR.enc⟩) :: (100653, ⟨.slice A90 x79.fExtras.length c91, 42, 5, x79.fExtras.length, x79.fExtras.flatMap GRR.enc⟩) :: R, φ501⟩ (fun _ h => h) <| c_seq <| c_region <| g_v rfl (r_field (n := 0) Try.underlying60 rfl Try.sizeOf33 rfl rfl) <| g_v rfl (r_loadA (tag := 100090) rfl rfl Try.isAgg33 Try.sizeOf33 rfl rfl) <| g_v rfl (r_field (n := 0) Try.underlying29 rfl Try.sizeOf9 rfl rfl) <| g_v rfl (r_load (tag := 100060) rfl rfl rfl Try.isAgg9) ?_
     replace hm := bnd hm
     obtain ⟨x529, hx530, hm⟩ := hm
     refine g_cn ⟨w0, M, _, _, φ501⟩ (fun _ h => h) Try.call30 rfl rfl (c_auth_There x69 pp73.pA0 pp73.pC0 hcp76 (fun W hS => f77 W (q93 _ (q501 _ hS.now))) x41.fName _ hx530) (fun _ _ => ?_)
     refine g_v rfl (r_not rfl) <| g_nil <| d_then ?_
     refine c_cond rfl (fun h531 => ?_) (fun h531 => ?_)
     ·
      have h531' : x529 = false := by revert h531; cases x529 <;> simp
      replace hm := ite_f hm (bool_nt h531')
      refine c_region <| g_v rfl (r_field (n := 7) Try.underlying26 rfl Try.sizeOf3 rfl rfl) <| g_storeL (tag := 100100) rfl rfl rfl rfl Try.sizeOf3 rfl rfl <| g_nil ?_
      refine d_shut (tag := 101430) rfl (fun φ532 q532' => ?_)
      have q532 : ∀ W, φ532 W → φ501 W := fun W h => (q532' W h).1
      have f533 := fun (W : World) (h : φ532 W) => (q532' W h).2
      exact d_round (3, ([] : List GRR), x524, none, 0, A526, c527) ⟨hm, (Nat.le_refl 0), hc527⟩ Nat.zero_lt_one ⟨rfl, rfl, trivial⟩ (fun W h => ((h.dropH (t := 100090) rfl).dropH (t := 100060) rfl).phi (fun W hφ => ⟨(q532 _ hφ), (fun W _ => Cl.nil _ _) W hφ, (fun W h => f533 W h) W hφ⟩))
     have h531' : x529 = true := by revert h531; cases x529 <;> simp
     replace hm := ite_t hm h531'
     refine c_skip ?_
     refine d_shut (tag := 101430) rfl (fun φ534 q534' => ?_)
     have q534 : ∀ W, φ534 W → φ501 W := fun W h => (q534' W h).1
     have f535 := fun (W : World) (h : φ534 W) => (q534' W h).2
     exact d_round (x79.fCode, ([] : List GRR), x524, none, 0, A526, c527) ⟨hm, (Nat.le_refl 0), hc527⟩ Nat.zero_lt_one ⟨rfl, rfl, trivial⟩ (fun W h => ((h.dropH (t := 100090) rfl).dropH (t := 100060) rfl).phi (fun W hφ => ⟨(q534 _ hφ), (fun W _ => Cl.nil _ _) W hφ, (fun W h => f535 W h) W hφ⟩))
    replace hm := ite_f hm (of_decide_eq_false h523)
    refine c_skip ?_
    exact d_round (x79.fCode, l497, x79.fAuthorities, A498, c499, A87, c88) ⟨hm, hc499, hc88⟩ Nat.zero_lt_one ⟨rfl, rfl, trivial⟩ (fun W h => ((h.dropH (t := 100090) rfl).dropH (t := 100060) rfl).phi (fun W hφ => ⟨hφ, (fun W h => f500 W h) W hφ, (fun W h => f89 W (q501 _ h)) W hφ⟩))
   unfold m_auth_Answer_j6 at hm
   refine d_abs (fun φ520 q520' => ?_)
   have q520 : ∀ W, φ520 W → φ501 W := fun W h => (q520' W h).1
   have f515 := fun (W : World) (h : φ520 W) => (q520' W h).2.1
   have f519 := fun (W : World) (h : φ520 W) => (q520' W h).2.2
   refine d_flat [(4, .pointer (some ⟨g2, 0, none⟩)), (10, .pointer (some ⟨g94, 0, none⟩))] ⟨rfl, rfl, trivial⟩ (fun u => ?_)
   refine d_sta ⟨w0, M, (100100, g94, .cells #[.int .u16 x79.fID, .bool x79.fResponse, .bool true, .bool x79.fTruncated, .bool x79.fDesired, .bool x79.fAvailable, .int .i64 x79.fOpcode, .int .i64 i511, .slice A81 x79.fQuestions.length c82, .slice A513 l512.length c514, .slice A517 l516.length c518, .slice A90 x79.fExtras.length c91] 26 (0, 0)) :: (100040, g2, .cells #[.int .u16 0, .bool false, .bool false, .bool false, .bool false, .bool false, .int .i64 0, .int .i64 0, .slice none 0 0, .slice none 0 0, .slice none 0 0, .slice none 0 0] 26 (0, 0)) :: H, (100653, ⟨.slice A90 x79.fExtras.length c91, 42, 5, x79.fExtras.length, x79.fExtras.flatMap GRR.enc⟩) :: R, φ520⟩ (fun _ h => h) <| d_then <| c_seq <| c_region <| g_v rfl (r_loadA (tag := 100100) rfl rfl Try.isAgg26 Try.sizeOf26 rfl rfl) <| g_storeL (tag := 100040) rfl rfl rfl rfl Try.sizeOf26 rfl rfl <| g_nil <| d_then <| c_ret ?_
   cases hm
   refine d_shut (tag := 100653) rfl (fun φ521 q521' => ?_)
   have q521 : ∀ W, φ521 W → φ520 W := fun W h => (q521' W h).1
   have f522 := fun (W : World) (h : φ521 W) => (q521' W h).2
   exact d_retC (A81, c82, A513, c514, A517, c518, A90, c91) Try.results9 (res_agg (tag := 100040) rfl rfl Try.isAgg26 Try.sizeOf26 (res_nil rfl)) ⟨hc82, hc514, hc518, hc91⟩ (fun W h => ok_pre (H1 := [_, _]) (R1 := []) h (fun W hφ => ⟨(q93 _ (q501 _ (q520 _ (q521 _ hφ)))), (fun W h => f83 W (q501 _ (q520 _ (q521 _ h)))) W hφ, (fun W h => f515 W (q521 _ h)) W hφ, (fun W h => f519 W (q521 _ h)) W hφ, (fun W h => f522 W h) W hφ⟩)) (.inr rfl)
  replace hm := ite_t hm (of_decide_eq_true h50)
  refine g_no rfl rfl rfl rfl rfl h50 <| g_v rfl (r_pick1 rfl h50) <| g_nil <| d_then <| c_cond1 rfl rfl <| c_seq <| c_region <| g_v rfl (r_loadA (tag := 100030) rfl rfl Try.isAgg26 Try.sizeOf26 rfl rfl) ?_
  replace hm := bnd hm
  obtain ⟨x548, hx549, hm⟩ := hm
  refine g_cn ⟨w0, M, _, _, φ⟩ (fun _ h => h) Try.call25 rfl rfl (c_auth_reply p1 Ap1_0 cp1_0 hcp1_0 (fun W hS => fp1_0 W (ok_pre (H1 := [_, _, _]) (R1 := []) hS (fun W h => h))) Ap1_1 cp1_1 hcp1_1 (fun W hS => fp1_1 W (ok_pre (H1 := [_, _, _]) (R1 := []) hS (fun W h => h))) Ap1_2 cp1_2 hcp1_2 (fun W hS => fp1_2 W (ok_pre (H1 := [_, _, _]) (R1 := []) hS (fun W h => h))) Ap1_3 cp1_3 hcp1_3 (fun W hS => fp1_3 W (ok_pre (H1 := [_, _, _]) (R1 := []) hS (fun W h => h))) 5 _ hx549) (fun ⟨A550, c551, A553, c554, A556, c557, A559, c560⟩ ⟨hc551, hc554, hc557, hc560⟩ => ?_)
  refine g_sta _ (fun W h => (ok_frontR (t := 2003) (t' := 100583) h rfl)) ?_
  refine g_abs (fun φ562 q562' => ?_)
  have q562 : ∀ W, φ562 W → φ W := fun W h => (q562' W h).1
  have f552 := fun (W : World) (h : φ562 W) => (q562' W h).2.1
  have f555 := fun (W : World) (h : φ562 W) => (q562' W h).2.2.1
  have f558 := fun (W : World) (h : φ562 W) => (q562' W h).2.2.2
  refine g_storeL (tag := 100040) rfl rfl rfl rfl Try.sizeOf26 rfl rfl <| g_nil <| d_then <| c_ret <| d_ret_then ?_
  cases hm
  refine d_shut (tag := 100583) rfl (fun φ563 q563' => ?_)
  have q563 : ∀ W, φ563 W → φ562 W := fun W h => (q563' W h).1
  have f564 := fun (W : World) (h : φ563 W) => (q563' W h).2
  exact d_retC (A550, c551, A553, c554, A556, c557, A559, c560) Try.results9 (res_agg (tag := 100040) rfl rfl Try.isAgg26 Try.sizeOf26 (res_nil rfl)) ⟨hc551, hc554, hc557, hc560⟩ (fun W h => ok_pre (H1 := [_, _, _]) (R1 := []) h (fun W hφ => ⟨(q562 _ (q563 _ hφ)), (fun W h => f552 W (q563 _ h)) W hφ, (fun W h => f555 W (q563 _ h)) W hφ, (fun W h => f558 W (q563 _ h)) W hφ, (fun W h => f564 W h) W hφ⟩)) (.inr rfl)
 replace hm := ite_t hm h3
 iterate 3 refine g_no rfl rfl rfl rfl rfl h3 ?_
 refine g_v rfl (r_pick1 rfl h3) <| g_v rfl r_assign <| g_nil <| d_then <| c_cond1 rfl rfl <| c_seq <| c_region <| g_v rfl (r_loadA (tag := 100030) rfl rfl Try.isAgg26 Try.sizeOf26 rfl rfl) ?_
 replace hm := bnd hm
 obtain ⟨x565, hx566, hm⟩ := hm
 refine g_cn ⟨w0, M, _, _, φ⟩ (fun _ h => h) Try.call25 rfl rfl (c_auth_reply p1 Ap1_0 cp1_0 hcp1_0 (fun W hS => fp1_0 W (ok_pre (H1 := [_, _]) (R1 := []) hS (fun W h => h))) Ap1_1 cp1_1 hcp1_1 (fun W hS => fp1_1 W (ok_pre (H1 := [_, _]) (R1 := []) hS (fun W h => h))) Ap1_2 cp1_2 hcp1_2 (fun W hS => fp1_2 W (ok_pre (H1 := [_, _]) (R1 := []) hS (fun W h => h))) Ap1_3 cp1_3 hcp1_3 (fun W hS => fp1_3 W (ok_pre (H1 := [_, _]) (R1 := []) hS (fun W h => h))) 1 _ hx566) (fun ⟨A567, c568, A570, c571, A573, c574, A576, c577⟩ ⟨hc568, hc571, hc574, hc577⟩ => ?_)
 refine g_sta _ (fun W h => (ok_frontR (t := 2003) (t' := 100303) h rfl)) ?_
 refine g_abs (fun φ579 q579' => ?_)
 have q579 : ∀ W, φ579 W → φ W := fun W h => (q579' W h).1
 have f569 := fun (W : World) (h : φ579 W) => (q579' W h).2.1
 have f572 := fun (W : World) (h : φ579 W) => (q579' W h).2.2.1
 have f575 := fun (W : World) (h : φ579 W) => (q579' W h).2.2.2
 refine g_e rfl (e_alloc 100050 Try.zeroValue26) (fun g580 _ => ?_)
 refine g_storeL (tag := 100050) rfl rfl rfl rfl Try.sizeOf26 rfl rfl <| g_nil <| d_then ?_
 refine c_flat [(4, .pointer (some ⟨g2, 0, none⟩)), (5, .pointer (some ⟨g580, 0, none⟩))] ⟨rfl, rfl, trivial⟩ (fun u => ?_)
 refine c_sta ⟨w0, M, (100050, g580, .cells #[.int .u16 x565.fID, .bool x565.fResponse, .bool x565.fAuthoritative, .bool x565.fTruncated, .bool x565.fDesired, .bool x565.fAvailable, .int .i64 x565.fOpcode, .int .i64 x565.fCode, .slice A567 x565.fQuestions.length c568, .slice A570 x565.fAnswers.length c571, .slice A573 x565.fAuthorities.length c574, .slice A576 x565.fExtras.length c577] 26 (0, 0)) :: (100040, g2, .cells #[.int .u16 0, .bool false, .bool false, .bool false, .bool false, .bool false, .int .i64 0, .int .i64 0, .slice none 0 0, .slice none 0 0, .slice none 0 0, .slice none 0 0] 26 (0, 0)) :: (100030, g1, .cells #[.int .u16 p1.fID, .bool p1.fResponse, .bool p1.fAuthoritative, .bool p1.fTruncated, .bool p1.fDesired, .bool p1.fAvailable, .int .i64 p1.fOpcode, .int .i64 p1.fCode, .slice Ap1_0 p1.fQuestions.length cp1_0, .slice Ap1_1 p1.fAnswers.length cp1_1, .slice Ap1_2 p1.fAuthorities.length cp1_2, .slice Ap1_3 p1.fExtras.length cp1_3] 26 (0, 0)) :: H, (100303, ⟨.slice A576 x565.fExtras.length c577, 42, 5, x565.fExtras.length, x565.fExtras.flatMap GRR.enc⟩) :: R, φ579⟩ (fun _ h => h) <| c_seq <| c_region <| g_v rfl (r_field (n := 8) Try.underlying26 rfl Try.sizeOf23 rfl rfl) <| g_storeL (tag := 100050) rfl rfl rfl rfl Try.sizeOf23 rfl rfl <| g_nil <| d_then <| c_seq <| c_region <| g_v rfl (r_loadA (tag := 100050) rfl rfl Try.isAgg26 Try.sizeOf26 rfl rfl) ?_
 refine g_storeL (tag := 100040) rfl rfl rfl rfl Try.sizeOf26 rfl rfl <| g_nil <| d_then <| c_ret <| d_ret_block <| d_ret_then ?_
 cases hm
 refine d_shut (tag := 100303) rfl (fun φ581 q581' => ?_)
 have q581 : ∀ W, φ581 W → φ579 W := fun W h => (q581' W h).1
 have f582 := fun (W : World) (h : φ581 W) => (q581' W h).2
 exact d_retC (none, 0, A570, c571, A573, c574, A576, c577) Try.results9 (res_agg (tag := 100040) rfl rfl Try.isAgg26 Try.sizeOf26 (res_nil rfl)) ⟨(Nat.le_refl 0), hc571, hc574, hc577⟩ (fun W h => ok_pre (H1 := [_, _, _]) (R1 := []) h (fun W hφ => ⟨(q579 _ (q581 _ hφ)), (fun W _ => Cl.nil _ _) W hφ, (fun W h => f572 W (q581 _ h)) W hφ, (fun W h => f575 W (q581 _ h)) W hφ, (fun W h => f582 W h) W hφ⟩)) (.inr rfl)
noncomputable def m_law18_asked (p0 : ByteArray) (p1 : Int) : Option GMessage :=
  (m_law18_example).bind fun x2 =>
  (m_message_Query 7 (⟨p0, p1, 1⟩ : GQuestion)).bind fun x11 =>
  (m_auth_Answer [x2] x11).bind fun x28 =>
  some x28
theorem c_law18_asked {w0 : World} {M : Nat → Prop} {H : List (Nat × Nat × Obj)} {R : List (Nat × Row)} {φ : World → Prop} (p0 : ByteArray) (p1 : Int) (r : GMessage) (hm : m_law18_asked p0 p1 = some r) :
    Cn Try.prog 24 #[.string p0, .int .u16 p1] ⟨w0, M, H, R, φ⟩ (fun x : Option Addr × Nat × Option Addr × Nat × Option Addr × Nat × Option Addr × Nat => .agg #[.int .u16 r.fID, .bool r.fResponse, .bool r.fAuthoritative, .bool r.fTruncated, .bool r.fDesired, .bool r.fAvailable, .int .i64 r.fOpcode, .int .i64 r.fCode, .slice x.1 r.fQuestions.length x.2.1, .slice x.2.2.1 r.fAnswers.length x.2.2.2.1, .slice x.2.2.2.2.1 r.fAuthorities.length x.2.2.2.2.2.1, .slice x.2.2.2.2.2.2.1 r.fExtras.length x.2.2.2.2.2.2.2]) (fun x => r.fQuestions.length ≤ x.2.1 ∧ r.fAnswers.length ≤ x.2.2.2.1 ∧ r.fAuthorities.length ≤ x.2.2.2.2.2.1 ∧ r.fExtras.length ≤ x.2.2.2.2.2.2.2) (fun x => ⟨w0, M, H, R, fun W => φ W ∧ Cl W x.1 (r.fQuestions.flatMap GQuestion.enc) ∧ Cl W x.2.2.1 (r.fAnswers.flatMap GRR.enc) ∧ Cl W x.2.2.2.2.1 (r.fAuthorities.flatMap GRR.enc) ∧ Cl W x.2.2.2.2.2.2.1 (r.fExtras.flatMap GRR.enc)⟩) := by
 unfold m_law18_asked at hm
 refine cn_intro (fn := Try.f24) (N := 12) Try.func24 rfl Try.ntmps24 rfl <| c_seq <| c_region ?_
 refine g_e rfl (e_alloc 100040 Try.zeroValue26) (fun g1 _ => ?_)
 refine g_nil <| d_then <| c_seq <| c_region ?_
 replace hm := bnd hm
 obtain ⟨x2, hx3, hm⟩ := hm
 refine g_cn ⟨w0, M, _, _, φ⟩ (fun _ h => h) Try.call10 rfl rfl (c_law18_example  _ hx3) (fun ⟨A4, c5⟩ hc5 => ?_)
 refine g_abs (fun φ7 q7' => ?_)
 have q7 : ∀ W, φ7 W → φ W := fun W h => (q7' W h).1
 have f6 := fun (W : World) (h : φ7 W) => (q7' W h).2
 have hk9 := (DOk.cons (cap := GZone.capP) (x := x2) (p := (⟨A4, c5⟩ : GZoneP)) (hc5) DOk.nil)
 have f10 := fun (W : World) (h : φ7 W) => (DOwn.cons (own := GZone.ownP) (x := x2) (p := (⟨A4, c5⟩ : GZoneP)) (f6 W h) DOwn.nil)
 refine g_e rfl (e_litD (tag := 100060) (enc := GZone.encP) (sz := 2) hk9 rfl Try.underlying35 (lit33_4 _ _ _ _) rfl rfl (fun _ => rfl)) (fun g8 _ => ?_)
 refine g_v rfl r_move <| g_v rfl r_move <| g_v rfl (r_build _ rfl (bld29_5 _ _ _)) ?_
 replace hm := bnd hm
 obtain ⟨x11, hx12, hm⟩ := hm
 refine g_cn ⟨w0, M, _, _, φ7⟩ (fun _ h => h) Try.call13 rfl rfl (c_message_Query 7 (⟨p0, p1, 1⟩ : GQuestion) _ hx12) (fun ⟨A13, c14, A16, c17, A19, c20, A22, c23⟩ ⟨hc14, hc17, hc20, hc23⟩ => ?_)
 refine g_abs (fun φ25 q25' => ?_)
 have q25 : ∀ W, φ25 W → φ7 W := fun W h => (q25' W h).1
 have f15 := fun (W : World) (h : φ25 W) => (q25' W h).2.1
 have f18 := fun (W : World) (h : φ25 W) => (q25' W h).2.2.1
 have f21 := fun (W : World) (h : φ25 W) => (q25' W h).2.2.2.1
 have f24 := fun (W : World) (h : φ25 W) => (q25' W h).2.2.2.2
 refine g_shut (tag := 100060) rfl (fun φ26 q26' => ?_)
 have q26 : ∀ W, φ26 W → φ25 W := fun W h => (q26' W h).1
 have f27 := fun (W : World) (h : φ26 W) => (q26' W h).2
 replace hm := bnd hm
 obtain ⟨x28, hx29, hm⟩ := hm
 refine g_cn ⟨w0, M, _, _, φ26⟩ (fun _ h => h) Try.call9 rfl rfl (c_auth_Answer [x2] (some ⟨g8, 0, none⟩) 1 [(⟨A4, c5⟩ : GZoneP)] ⟨hk9, (Nat.le_refl _)⟩ (fun W h => f27 W h) (fun W h => (f10 W (q25 _ (q26 _ h)))) x11 A13 c14 hc14 (fun W hS => f15 W (q26 _ hS.now)) A16 c17 hc17 (fun W hS => f18 W (q26 _ hS.now)) A19 c20 hc20 (fun W hS => f21 W (q26 _ hS.now)) A22 c23 hc23 (fun W hS => f24 W (q26 _ hS.now)) _ hx29) (fun ⟨A30, c31, A33, c34, A36, c37, A39, c40⟩ ⟨hc31, hc34, hc37, hc40⟩ => ?_)
 refine g_abs (fun φ42 q42' => ?_)
 have q42 : ∀ W, φ42 W → φ26 W := fun W h => (q42' W h).1
 have f32 := fun (W : World) (h : φ42 W) => (q42' W h).2.1
 have f35 := fun (W : World) (h : φ42 W) => (q42' W h).2.2.1
 have f38 := fun (W : World) (h : φ42 W) => (q42' W h).2.2.2.1
 have f41 := fun (W : World) (h : φ42 W) => (q42' W h).2.2.2.2
 refine g_storeL (tag := 100040) rfl rfl rfl rfl Try.sizeOf26 rfl rfl <| g_nil <| d_then ?_
 refine c_flat [(4, .pointer (some ⟨g1, 0, none⟩))] ⟨rfl, trivial⟩ (fun u => ?_)
 refine c_sta ⟨w0, M, (100040, g1, .cells #[.int .u16 x28.fID, .bool x28.fResponse, .bool x28.fAuthoritative, .bool x28.fTruncated, .bool x28.fDesired, .bool x28.fAvailable, .int .i64 x28.fOpcode, .int .i64 x28.fCode, .slice A30 x28.fQuestions.length c31, .slice A33 x28.fAnswers.length c34, .slice A36 x28.fAuthorities.length c37, .slice A39 x28.fExtras.length c40] 26 (0, 0)) :: H, R, φ42⟩ (fun _ h => h) <| c_ret ?_
 cases hm
 exact d_retC (A30, c31, A33, c34, A36, c37, A39, c40) Try.results24 (res_agg (tag := 100040) rfl rfl Try.isAgg26 Try.sizeOf26 (res_nil rfl)) ⟨hc31, hc34, hc37, hc40⟩ (fun W h => ok_pre (H1 := [_]) (R1 := []) h (fun W hφ => ⟨(q7 _ (q25 _ (q26 _ (q42 _ hφ)))), (fun W h => f32 W h) W hφ, (fun W h => f35 W h) W hφ, (fun W h => f38 W h) W hφ, (fun W h => f41 W h) W hφ⟩)) (.inr rfl)
noncomputable def m_law18_awake  : Option Bool :=
  (m_law18_asked (⟨#[3, 87, 87, 87, 1, 65, 0]⟩ : ByteArray) 1).bind fun x1 =>
  (m_law18_asked (⟨#[1, 120, 1, 98, 1, 97, 0]⟩ : ByteArray) 1).bind fun x17 =>
  (m_law18_asked (⟨#[3, 119, 119, 119, 1, 97, 0]⟩ : ByteArray) 15).bind fun x33 =>
  (m_law18_asked (⟨#[1, 113, 1, 97, 0]⟩ : ByteArray) 1).bind fun x49 =>
  (m_law18_example).bind fun x65 =>
  (m_auth_Check x65).bind fun x71 =>
  if x71 = 0 then
    if (x1.fAnswers.length : Int) = 1 then
      if x1.fAuthoritative = true then
        if x1.fID = 7 then
          if (x17.fAuthorities.length : Int) = 1 then
            if (x17.fExtras.length : Int) = 1 then
              if x17.fAuthoritative = true then
                some false
              else
                if (x33.fAuthorities.length : Int) = 1 then
                  if x33.fCode = 0 then
                    if (x49.fAuthorities.length : Int) = 1 then
                      some (decide (x49.fCode = 3))
                    else
                      some false
                  else
                    some false
                else
                  some false
            else
              some false
          else
            some false
        else
          some false
      else
        some false
    else
      some false
  else
    some false
theorem c_law18_awake {w0 : World} {M : Nat → Prop} {H : List (Nat × Nat × Obj)} {R : List (Nat × Row)} {φ : World → Prop}  (r : Bool) (hm : m_law18_awake = some r) :
    Cn Try.prog 7 #[] ⟨w0, M, H, R, φ⟩ (fun x : Unit => .bool r) (fun x => True) (fun x => ⟨w0, M, H, R, φ⟩) := by
 unfold m_law18_awake at hm
 refine cn_intro (fn := Try.f7) (N := 66) Try.func7 rfl Try.ntmps7 rfl <| c_seq <| c_region <| g_v rfl r_assign <| g_nil <| d_then <| c_seq <| c_region ?_
 replace hm := bnd hm
 obtain ⟨x1, hx2, hm⟩ := hm
 refine g_cn ⟨w0, M, _, _, φ⟩ (fun _ h => h) Try.call24 rfl rfl (c_law18_asked (⟨#[3, 87, 87, 87, 1, 65, 0]⟩ : ByteArray) 1 _ hx2) (fun ⟨A3, c4, A6, c7, A9, c10, A12, c13⟩ ⟨hc4, hc7, hc10, hc13⟩ => ?_)
 refine g_abs (fun φ15 q15' => ?_)
 have q15 : ∀ W, φ15 W → φ W := fun W h => (q15' W h).1
 have f5 := fun (W : World) (h : φ15 W) => (q15' W h).2.1
 have f8 := fun (W : World) (h : φ15 W) => (q15' W h).2.2.1
 have f11 := fun (W : World) (h : φ15 W) => (q15' W h).2.2.2.1
 have f14 := fun (W : World) (h : φ15 W) => (q15' W h).2.2.2.2
 refine g_e rfl (e_alloc 100010 Try.zeroValue26) (fun g16 _ => ?_)
 refine g_storeL (tag := 100010) rfl rfl rfl rfl Try.sizeOf26 rfl rfl <| g_nil <| d_then <| c_seq <| c_region ?_
 replace hm := bnd hm
 obtain ⟨x17, hx18, hm⟩ := hm
 refine g_cn ⟨w0, M, _, _, φ15⟩ (fun _ h => h) Try.call24 rfl rfl (c_law18_asked (⟨#[1, 120, 1, 98, 1, 97, 0]⟩ : ByteArray) 1 _ hx18) (fun ⟨A19, c20, A22, c23, A25, c26, A28, c29⟩ ⟨hc20, hc23, hc26, hc29⟩ => ?_)
 refine g_abs (fun φ31 q31' => ?_)
 have q31 : ∀ W, φ31 W → φ15 W := fun W h => (q31' W h).1
 have f21 := fun (W : World) (h : φ31 W) => (q31' W h).2.1
 have f24 := fun (W : World) (h : φ31 W) => (q31' W h).2.2.1
 have f27 := fun (W : World) (h : φ31 W) => (q31' W h).2.2.2.1
 have f30 := fun (W : World) (h : φ31 W) => (q31' W h).2.2.2.2
 refine g_e rfl (e_alloc 100020 Try.zeroValue26) (fun g32 _ => ?_)
 refine g_storeL (tag := 100020) rfl rfl rfl rfl Try.sizeOf26 rfl rfl <| g_nil <| d_then <| c_seq <| c_region ?_
 replace hm := bnd hm
 obtain ⟨x33, hx34, hm⟩ := hm
 refine g_cn ⟨w0, M, _, _, φ31⟩ (fun _ h => h) Try.call24 rfl rfl (c_law18_asked (⟨#[3, 119, 119, 119, 1, 97, 0]⟩ : ByteArray) 15 _ hx34) (fun ⟨A35, c36, A38, c39, A41, c42, A44, c45⟩ ⟨hc36, hc39, hc42, hc45⟩ => ?_)
 refine g_abs (fun φ47 q47' => ?_)
 have q47 : ∀ W, φ47 W → φ31 W := fun W h => (q47' W h).1
 have f37 := fun (W : World) (h : φ47 W) => (q47' W h).2.1
 have f40 := fun (W : World) (h : φ47 W) => (q47' W h).2.2.1
 have f43 := fun (W : World) (h : φ47 W) => (q47' W h).2.2.2.1
 have f46 := fun (W : World) (h : φ47 W) => (q47' W h).2.2.2.2
 refine g_e rfl (e_alloc 100030 Try.zeroValue26) (fun g48 _ => ?_)
 refine g_storeL (tag := 100030) rfl rfl rfl rfl Try.sizeOf26 rfl rfl <| g_nil <| d_then ?_
 refine c_flat [(1, .pointer (some ⟨g16, 0, none⟩)), (2, .pointer (some ⟨g32, 0, none⟩)), (3, .pointer (some ⟨g48, 0, none⟩))] ⟨rfl, rfl, rfl, trivial⟩ (fun u => ?_)
 refine c_sta ⟨w0, M, (100030, g48, .cells #[.int .u16 x33.fID, .bool x33.fResponse, .bool x33.fAuthoritative, .bool x33.fTruncated, .bool x33.fDesired, .bool x33.fAvailable, .int .i64 x33.fOpcode, .int .i64 x33.fCode, .slice A35 x33.fQuestions.length c36, .slice A38 x33.fAnswers.length c39, .slice A41 x33.fAuthorities.length c42, .slice A44 x33.fExtras.length c45] 26 (0, 0)) :: (100020, g32, .cells #[.int .u16 x17.fID, .bool x17.fResponse, .bool x17.fAuthoritative, .bool x17.fTruncated, .bool x17.fDesired, .bool x17.fAvailable, .int .i64 x17.fOpcode, .int .i64 x17.fCode, .slice A19 x17.fQuestions.length c20, .slice A22 x17.fAnswers.length c23, .slice A25 x17.fAuthorities.length c26, .slice A28 x17.fExtras.length c29] 26 (0, 0)) :: (100010, g16, .cells #[.int .u16 x1.fID, .bool x1.fResponse, .bool x1.fAuthoritative, .bool x1.fTruncated, .bool x1.fDesired, .bool x1.fAvailable, .int .i64 x1.fOpcode, .int .i64 x1.fCode, .slice A3 x1.fQuestions.length c4, .slice A6 x1.fAnswers.length c7, .slice A9 x1.fAuthorities.length c10, .slice A12 x1.fExtras.length c13] 26 (0, 0)) :: H, R, φ47⟩ (fun _ h => h) <| c_seq <| c_region ?_
 replace hm := bnd hm
 obtain ⟨x49, hx50, hm⟩ := hm
 refine g_cn ⟨w0, M, _, _, φ47⟩ (fun _ h => h) Try.call24 rfl rfl (c_law18_asked (⟨#[1, 113, 1, 97, 0]⟩ : ByteArray) 1 _ hx50) (fun ⟨A51, c52, A54, c55, A57, c58, A60, c61⟩ ⟨hc52, hc55, hc58, hc61⟩ => ?_)
 refine g_abs (fun φ63 q63' => ?_)
 have q63 : ∀ W, φ63 W → φ47 W := fun W h => (q63' W h).1
 have f53 := fun (W : World) (h : φ63 W) => (q63' W h).2.1
 have f56 := fun (W : World) (h : φ63 W) => (q63' W h).2.2.1
 have f59 := fun (W : World) (h : φ63 W) => (q63' W h).2.2.2.1
 have f62 := fun (W : World) (h : φ63 W) => (q63' W h).2.2.2.2
 refine g_e rfl (e_alloc 100040 Try.zeroValue26) (fun g64 _ => ?_)
 refine g_storeL (tag := 100040) rfl rfl rfl rfl Try.sizeOf26 rfl rfl <| g_nil <| d_then <| c_seq <| c_region ?_
 replace hm := bnd hm
 obtain ⟨x65, hx66, hm⟩ := hm
 refine g_cn ⟨w0, M, _, _, φ63⟩ (fun _ h => h) Try.call10 rfl rfl (c_law18_example  _ hx66) (fun ⟨A67, c68⟩ hc68 => ?_)
 refine g_abs (fun φ70 q70' => ?_)
 have q70 : ∀ W, φ70 W → φ63 W := fun W h => (q70' W h).1
 have f69 := fun (W : World) (h : φ70 W) => (q70' W h).2
 replace hm := bnd hm
 obtain ⟨x71, hx72, hm⟩ := hm
 refine g_cn ⟨w0, M, _, _, φ70⟩ (fun _ h => h) Try.call12 rfl rfl (c_auth_Check x65 A67 c68 hc68 (fun W h => f69 W h) _ hx72) (fun _ _ => ?_)
 refine g_v rfl (r_eql rfl rfl) <| g_v rfl r_move <| g_sta ⟨w0, M, (100040, g64, .cells #[.int .u16 x49.fID, .bool x49.fResponse, .bool x49.fAuthoritative, .bool x49.fTruncated, .bool x49.fDesired, .bool x49.fAvailable, .int .i64 x49.fOpcode, .int .i64 x49.fCode, .slice A51 x49.fQuestions.length c52, .slice A54 x49.fAnswers.length c55, .slice A57 x49.fAuthorities.length c58, .slice A60 x49.fExtras.length c61] 26 (0, 0)) :: (100030, g48, .cells #[.int .u16 x33.fID, .bool x33.fResponse, .bool x33.fAuthoritative, .bool x33.fTruncated, .bool x33.fDesired, .bool x33.fAvailable, .int .i64 x33.fOpcode, .int .i64 x33.fCode, .slice A35 x33.fQuestions.length c36, .slice A38 x33.fAnswers.length c39, .slice A41 x33.fAuthorities.length c42, .slice A44 x33.fExtras.length c45] 26 (0, 0)) :: (100020, g32, .cells #[.int .u16 x17.fID, .bool x17.fResponse, .bool x17.fAuthoritative, .bool x17.fTruncated, .bool x17.fDesired, .bool x17.fAvailable, .int .i64 x17.fOpcode, .int .i64 x17.fCode, .slice A19 x17.fQuestions.length c20, .slice A22 x17.fAnswers.length c23, .slice A25 x17.fAuthorities.length c26, .slice A28 x17.fExtras.length c29] 26 (0, 0)) :: (100010, g16, .cells #[.int .u16 x1.fID, .bool x1.fResponse, .bool x1.fAuthoritative, .bool x1.fTruncated, .bool x1.fDesired, .bool x1.fAvailable, .int .i64 x1.fOpcode, .int .i64 x1.fCode, .slice A3 x1.fQuestions.length c4, .slice A6 x1.fAnswers.length c7, .slice A9 x1.fAuthorities.length c10, .slice A12 x1.fExtras.length c13] 26 (0, 0)) :: H, R, φ70⟩ (fun _ h => h) ?_
 refine g_if rfl rfl rfl rfl rfl (fun h73 => ?_) (fun h73 => ?_)
 ·
  replace hm := ite_t hm (of_decide_eq_true h73)
  refine g_v rfl (r_field (n := 9) Try.underlying26 rfl Try.sizeOf24 rfl rfl) <| g_do rfl rfl rfl rfl rfl h73 <| g_v rfl (r_load (tag := 100010) rfl rfl rfl Try.isAgg24) <| g_do rfl rfl rfl rfl rfl h73 <| g_v rfl (r_lenL Try.underlying24 rfl) <| g_do rfl rfl rfl rfl rfl h73 <| g_v rfl (r_eql rfl rfl) <| g_v rfl (r_pick1 rfl h73) <| g_v rfl r_move ?_
  refine g_if rfl rfl rfl rfl rfl (fun h74 => ?_) (fun h74 => ?_)
  ·
   replace hm := ite_t hm (of_decide_eq_true h74)
   refine g_v rfl (r_field (n := 2) Try.underlying26 rfl Try.sizeOf4 rfl rfl) <| g_do rfl rfl rfl rfl rfl h74 <| g_v rfl (r_load (tag := 100010) rfl rfl rfl Try.isAgg4) <| g_v rfl (r_pick1 rfl h74) <| g_v rfl r_move ?_
   refine g_if rfl rfl rfl rfl rfl (fun h75 => ?_) (fun h75 => ?_)
   ·
    replace hm := ite_t hm h75
    refine g_v rfl (r_field (n := 0) Try.underlying26 rfl Try.sizeOf22 rfl rfl) <| g_do rfl rfl rfl rfl rfl h75 <| g_v rfl (r_load (tag := 100010) rfl rfl rfl Try.isAgg22) <| g_do rfl rfl rfl rfl rfl h75 <| g_v rfl (r_eql rfl rfl) <| g_v rfl (r_pick1 rfl h75) <| g_v rfl r_move ?_
    refine g_if rfl rfl rfl rfl rfl (fun h76 => ?_) (fun h76 => ?_)
    ·
     replace hm := ite_t hm (of_decide_eq_true h76)
     refine g_v rfl (r_field (n := 10) Try.underlying26 rfl Try.sizeOf24 rfl rfl) <| g_do rfl rfl rfl rfl rfl h76 <| g_v rfl (r_load (tag := 100020) rfl rfl rfl Try.isAgg24) <| g_do rfl rfl rfl rfl rfl h76 <| g_v rfl (r_lenL Try.underlying24 rfl) <| g_do rfl rfl rfl rfl rfl h76 <| g_v rfl (r_eql rfl rfl) <| g_v rfl (r_pick1 rfl h76) <| g_v rfl r_move ?_
     refine g_if rfl rfl rfl rfl rfl (fun h77 => ?_) (fun h77 => ?_)
     ·
      replace hm := ite_t hm (of_decide_eq_true h77)
      refine g_v rfl (r_field (n := 11) Try.underlying26 rfl Try.sizeOf24 rfl rfl) <| g_do rfl rfl rfl rfl rfl h77 <| g_v rfl (r_load (tag := 100020) rfl rfl rfl Try.isAgg24) <| g_do rfl rfl rfl rfl rfl h77 <| g_v rfl (r_lenL Try.underlying24 rfl) <| g_do rfl rfl rfl rfl rfl h77 <| g_v rfl (r_eql rfl rfl) <| g_v rfl (r_pick1 rfl h77) <| g_v rfl r_move ?_
      refine g_if rfl rfl rfl rfl rfl (fun h78 => ?_) (fun h78 => ?_)
      ·
       replace hm := ite_t hm (of_decide_eq_true h78)
       refine g_v rfl (r_field (n := 2) Try.underlying26 rfl Try.sizeOf4 rfl rfl) <| g_do rfl rfl rfl rfl rfl h78 <| g_v rfl (r_load (tag := 100020) rfl rfl rfl Try.isAgg4) <| g_do rfl rfl rfl rfl rfl h78 <| g_v rfl (r_not rfl) <| g_v rfl (r_pick1 rfl h78) <| g_v rfl r_move ?_
       refine g_if rfl rfl rfl rfl rfl (fun h79 => ?_) (fun h79 => ?_)
       ·
        have h79' : x17.fAuthoritative = false := by revert h79; cases x17.fAuthoritative <;> simp
        replace hm := ite_f hm (bool_nt h79')
        refine g_v rfl (r_field (n := 10) Try.underlying26 rfl Try.sizeOf24 rfl rfl) <| g_do rfl rfl rfl rfl rfl h79 <| g_v rfl (r_load (tag := 100030) rfl rfl rfl Try.isAgg24) <| g_do rfl rfl rfl rfl rfl h79 <| g_v rfl (r_lenL Try.underlying24 rfl) <| g_do rfl rfl rfl rfl rfl h79 <| g_v rfl (r_eql rfl rfl) <| g_v rfl (r_pick1 rfl h79) <| g_v rfl r_move ?_
        refine g_if rfl rfl rfl rfl rfl (fun h80 => ?_) (fun h80 => ?_)
        ·
         replace hm := ite_t hm (of_decide_eq_true h80)
         refine g_v rfl (r_field (n := 7) Try.underlying26 rfl Try.sizeOf3 rfl rfl) <| g_do rfl rfl rfl rfl rfl h80 <| g_v rfl (r_load (tag := 100030) rfl rfl rfl Try.isAgg3) <| g_do rfl rfl rfl rfl rfl h80 <| g_v rfl (r_eql rfl rfl) <| g_v rfl (r_pick1 rfl h80) <| g_v rfl r_move ?_
         refine g_if rfl rfl rfl rfl rfl (fun h81 => ?_) (fun h81 => ?_)
         ·
          replace hm := ite_t hm (of_decide_eq_true h81)
          refine g_v rfl (r_field (n := 10) Try.underlying26 rfl Try.sizeOf24 rfl rfl) <| g_do rfl rfl rfl rfl rfl h81 <| g_v rfl (r_load (tag := 100040) rfl rfl rfl Try.isAgg24) <| g_do rfl rfl rfl rfl rfl h81 <| g_v rfl (r_lenL Try.underlying24 rfl) <| g_do rfl rfl rfl rfl rfl h81 <| g_v rfl (r_eql rfl rfl) <| g_v rfl (r_pick1 rfl h81) <| g_v rfl r_move ?_
          refine g_if rfl rfl rfl rfl rfl (fun h82 => ?_) (fun h82 => ?_)
          ·
           replace hm := ite_t hm (of_decide_eq_true h82)
           refine g_v rfl (r_field (n := 7) Try.underlying26 rfl Try.sizeOf3 rfl rfl) <| g_do rfl rfl rfl rfl rfl h82 <| g_v rfl (r_load (tag := 100040) rfl rfl rfl Try.isAgg3) <| g_do rfl rfl rfl rfl rfl h82 <| g_v rfl (r_eql rfl rfl) <| g_v rfl (r_pick1 rfl h82) <| g_v rfl r_assign <| g_nil <| d_then ?_
           refine c_flat [(0, .bool (decide (x49.fCode = 3)))] ⟨rfl, trivial⟩ (fun u => ?_)
           refine c_ret ?_
           cases hm
           exact d_retC () Try.results7 (res_tmp (res_nil rfl)) trivial (fun W h => ok_pre (H1 := [_, _, _, _]) (R1 := []) h (fun W hφ => (q15 _ (q31 _ (q47 _ (q63 _ (q70 _ hφ))))))) (.inr rfl)
          replace hm := ite_f hm (of_decide_eq_false h82)
          refine g_no rfl rfl rfl rfl rfl h82 <| g_no rfl rfl rfl rfl rfl h82 <| g_v rfl (r_pick0 rfl h82) <| g_v rfl r_assign <| g_nil <| d_then ?_
          refine c_flat [(0, .bool false)] ⟨rfl, trivial⟩ (fun u => ?_)
          refine c_ret ?_
          cases hm
          exact d_retC () Try.results7 (res_tmp (res_nil rfl)) trivial (fun W h => ok_pre (H1 := [_, _, _, _]) (R1 := []) h (fun W hφ => (q15 _ (q31 _ (q47 _ (q63 _ (q70 _ hφ))))))) (.inr rfl)
         replace hm := ite_f hm (of_decide_eq_false h81)
         iterate 3 refine g_no rfl rfl rfl rfl rfl h81 ?_
         refine g_v rfl (r_pick0 rfl h81) <| g_v rfl r_move ?_
         iterate 3 refine g_no rfl rfl rfl rfl rfl rfl ?_
         refine g_v rfl (r_pick0 rfl rfl) <| g_v rfl r_assign <| g_nil <| d_then ?_
         refine c_flat [(0, .bool false)] ⟨rfl, trivial⟩ (fun u => ?_)
         refine c_ret ?_
         cases hm
         exact d_retC () Try.results7 (res_tmp (res_nil rfl)) trivial (fun W h => ok_pre (H1 := [_, _, _, _]) (R1 := []) h (fun W hφ => (q15 _ (q31 _ (q47 _ (q63 _ (q70 _ hφ))))))) (.inr rfl)
        replace hm := ite_f hm (of_decide_eq_false h80)
        refine g_no rfl rfl rfl rfl rfl h80 <| g_no rfl rfl rfl rfl rfl h80 <| g_v rfl (r_pick0 rfl h80) <| g_v rfl r_move ?_
        iterate 4 refine g_no rfl rfl rfl rfl rfl rfl ?_
        refine g_v rfl (r_pick0 rfl rfl) <| g_v rfl r_move ?_
        iterate 3 refine g_no rfl rfl rfl rfl rfl rfl ?_
        refine g_v rfl (r_pick0 rfl rfl) <| g_v rfl r_assign <| g_nil <| d_then ?_
        refine c_flat [(0, .bool false)] ⟨rfl, trivial⟩ (fun u => ?_)
        refine c_ret ?_
        cases hm
        exact d_retC () Try.results7 (res_tmp (res_nil rfl)) trivial (fun W h => ok_pre (H1 := [_, _, _, _]) (R1 := []) h (fun W hφ => (q15 _ (q31 _ (q47 _ (q63 _ (q70 _ hφ))))))) (.inr rfl)
       have h79' : x17.fAuthoritative = true := by revert h79; cases x17.fAuthoritative <;> simp
       replace hm := ite_t hm h79'
       iterate 3 refine g_no rfl rfl rfl rfl rfl h79 ?_
       refine g_v rfl (r_pick0 rfl h79) <| g_v rfl r_move ?_
       iterate 3 refine g_no rfl rfl rfl rfl rfl rfl ?_
       refine g_v rfl (r_pick0 rfl rfl) <| g_v rfl r_move ?_
       iterate 4 refine g_no rfl rfl rfl rfl rfl rfl ?_
       refine g_v rfl (r_pick0 rfl rfl) <| g_v rfl r_move ?_
       iterate 3 refine g_no rfl rfl rfl rfl rfl rfl ?_
       refine g_v rfl (r_pick0 rfl rfl) <| g_v rfl r_assign <| g_nil <| d_then ?_
       refine c_flat [(0, .bool false)] ⟨rfl, trivial⟩ (fun u => ?_)
       refine c_ret ?_
       cases hm
       exact d_retC () Try.results7 (res_tmp (res_nil rfl)) trivial (fun W h => ok_pre (H1 := [_, _, _, _]) (R1 := []) h (fun W hφ => (q15 _ (q31 _ (q47 _ (q63 _ (q70 _ hφ))))))) (.inr rfl)
      replace hm := ite_f hm (of_decide_eq_false h78)
      refine g_no rfl rfl rfl rfl rfl h78 <| g_no rfl rfl rfl rfl rfl h78 <| g_v rfl (r_pick0 rfl h78) <| g_v rfl r_move ?_
      iterate 4 refine g_no rfl rfl rfl rfl rfl rfl ?_
      refine g_v rfl (r_pick0 rfl rfl) <| g_v rfl r_move ?_
      iterate 3 refine g_no rfl rfl rfl rfl rfl rfl ?_
      refine g_v rfl (r_pick0 rfl rfl) <| g_v rfl r_move ?_
      iterate 4 refine g_no rfl rfl rfl rfl rfl rfl ?_
      refine g_v rfl (r_pick0 rfl rfl) <| g_v rfl r_move ?_
      iterate 3 refine g_no rfl rfl rfl rfl rfl rfl ?_
      refine g_v rfl (r_pick0 rfl rfl) <| g_v rfl r_assign <| g_nil <| d_then ?_
      refine c_flat [(0, .bool false)] ⟨rfl, trivial⟩ (fun u => ?_)
      refine c_ret ?_
      cases hm
      exact d_retC () Try.results7 (res_tmp (res_nil rfl)) trivial (fun W h => ok_pre (H1 := [_, _, _, _]) (R1 := []) h (fun W hφ => (q15 _ (q31 _ (q47 _ (q63 _ (q70 _ hφ))))))) (.inr rfl)
     replace hm := ite_f hm (of_decide_eq_false h77)
     iterate 3 refine g_no rfl rfl rfl rfl rfl h77 ?_
     refine g_v rfl (r_pick0 rfl h77) <| g_v rfl r_move ?_
     iterate 3 refine g_no rfl rfl rfl rfl rfl rfl ?_
     refine g_v rfl (r_pick0 rfl rfl) <| g_v rfl r_move ?_
     iterate 4 refine g_no rfl rfl rfl rfl rfl rfl ?_
     refine g_v rfl (r_pick0 rfl rfl) <| g_v rfl r_move ?_
     iterate 3 refine g_no rfl rfl rfl rfl rfl rfl ?_
     refine g_v rfl (r_pick0 rfl rfl) <| g_v rfl r_move ?_
     iterate 4 refine g_no rfl rfl rfl rfl rfl rfl ?_
     refine g_v rfl (r_pick0 rfl rfl) <| g_v rfl r_move ?_
     iterate 3 refine g_no rfl rfl rfl rfl rfl rfl ?_
     refine g_v rfl (r_pick0 rfl rfl) <| g_v rfl r_assign <| g_nil <| d_then ?_
     refine c_flat [(0, .bool false)] ⟨rfl, trivial⟩ (fun u => ?_)
     refine c_ret ?_
     cases hm
     exact d_retC () Try.results7 (res_tmp (res_nil rfl)) trivial (fun W h => ok_pre (H1 := [_, _, _, _]) (R1 := []) h (fun W hφ => (q15 _ (q31 _ (q47 _ (q63 _ (q70 _ hφ))))))) (.inr rfl)
    replace hm := ite_f hm (of_decide_eq_false h76)
    iterate 3 refine g_no rfl rfl rfl rfl rfl h76 ?_
    refine g_v rfl (r_pick0 rfl h76) <| g_v rfl r_move ?_
    iterate 4 refine g_no rfl rfl rfl rfl rfl rfl ?_
    refine g_v rfl (r_pick0 rfl rfl) <| g_v rfl r_move ?_
    iterate 3 refine g_no rfl rfl rfl rfl rfl rfl ?_
    refine g_v rfl (r_pick0 rfl rfl) <| g_v rfl r_move ?_
    iterate 4 refine g_no rfl rfl rfl rfl rfl rfl ?_
    refine g_v rfl (r_pick0 rfl rfl) <| g_v rfl r_move ?_
    iterate 3 refine g_no rfl rfl rfl rfl rfl rfl ?_
    refine g_v rfl (r_pick0 rfl rfl) <| g_v rfl r_move ?_
    iterate 4 refine g_no rfl rfl rfl rfl rfl rfl ?_
    refine g_v rfl (r_pick0 rfl rfl) <| g_v rfl r_move ?_
    iterate 3 refine g_no rfl rfl rfl rfl rfl rfl ?_
    refine g_v rfl (r_pick0 rfl rfl) <| g_v rfl r_assign <| g_nil <| d_then ?_
    refine c_flat [(0, .bool false)] ⟨rfl, trivial⟩ (fun u => ?_)
    refine c_ret ?_
    cases hm
    exact d_retC () Try.results7 (res_tmp (res_nil rfl)) trivial (fun W h => ok_pre (H1 := [_, _, _, _]) (R1 := []) h (fun W hφ => (q15 _ (q31 _ (q47 _ (q63 _ (q70 _ hφ))))))) (.inr rfl)
   replace hm := ite_f hm (bool_nt h75)
   refine g_no rfl rfl rfl rfl rfl h75 <| g_no rfl rfl rfl rfl rfl h75 <| g_v rfl (r_pick0 rfl h75) <| g_v rfl r_move ?_
   iterate 4 refine g_no rfl rfl rfl rfl rfl rfl ?_
   refine g_v rfl (r_pick0 rfl rfl) <| g_v rfl r_move ?_
   iterate 4 refine g_no rfl rfl rfl rfl rfl rfl ?_
   refine g_v rfl (r_pick0 rfl rfl) <| g_v rfl r_move ?_
   iterate 3 refine g_no rfl rfl rfl rfl rfl rfl ?_
   refine g_v rfl (r_pick0 rfl rfl) <| g_v rfl r_move ?_
   iterate 4 refine g_no rfl rfl rfl rfl rfl rfl ?_
   refine g_v rfl (r_pick0 rfl rfl) <| g_v rfl r_move ?_
   iterate 3 refine g_no rfl rfl rfl rfl rfl rfl ?_
   refine g_v rfl (r_pick0 rfl rfl) <| g_v rfl r_move ?_
   iterate 4 refine g_no rfl rfl rfl rfl rfl rfl ?_
   refine g_v rfl (r_pick0 rfl rfl) <| g_v rfl r_move ?_
   iterate 3 refine g_no rfl rfl rfl rfl rfl rfl ?_
   refine g_v rfl (r_pick0 rfl rfl) <| g_v rfl r_assign <| g_nil <| d_then ?_
   refine c_flat [(0, .bool false)] ⟨rfl, trivial⟩ (fun u => ?_)
   refine c_ret ?_
   cases hm
   exact d_retC () Try.results7 (res_tmp (res_nil rfl)) trivial (fun W h => ok_pre (H1 := [_, _, _, _]) (R1 := []) h (fun W hφ => (q15 _ (q31 _ (q47 _ (q63 _ (q70 _ hφ))))))) (.inr rfl)
  replace hm := ite_f hm (of_decide_eq_false h74)
  refine g_no rfl rfl rfl rfl rfl h74 <| g_v rfl (r_pick0 rfl h74) <| g_v rfl r_move ?_
  iterate 3 refine g_no rfl rfl rfl rfl rfl rfl ?_
  refine g_v rfl (r_pick0 rfl rfl) <| g_v rfl r_move ?_
  iterate 4 refine g_no rfl rfl rfl rfl rfl rfl ?_
  refine g_v rfl (r_pick0 rfl rfl) <| g_v rfl r_move ?_
  iterate 4 refine g_no rfl rfl rfl rfl rfl rfl ?_
  refine g_v rfl (r_pick0 rfl rfl) <| g_v rfl r_move ?_
  iterate 3 refine g_no rfl rfl rfl rfl rfl rfl ?_
  refine g_v rfl (r_pick0 rfl rfl) <| g_v rfl r_move ?_
  iterate 4 refine g_no rfl rfl rfl rfl rfl rfl ?_
  refine g_v rfl (r_pick0 rfl rfl) <| g_v rfl r_move ?_
  iterate 3 refine g_no rfl rfl rfl rfl rfl rfl ?_
  refine g_v rfl (r_pick0 rfl rfl) <| g_v rfl r_move ?_
  iterate 4 refine g_no rfl rfl rfl rfl rfl rfl ?_
  refine g_v rfl (r_pick0 rfl rfl) <| g_v rfl r_move ?_
  iterate 3 refine g_no rfl rfl rfl rfl rfl rfl ?_
  refine g_v rfl (r_pick0 rfl rfl) <| g_v rfl r_assign <| g_nil <| d_then ?_
  refine c_flat [(0, .bool false)] ⟨rfl, trivial⟩ (fun u => ?_)
  refine c_ret ?_
  cases hm
  exact d_retC () Try.results7 (res_tmp (res_nil rfl)) trivial (fun W h => ok_pre (H1 := [_, _, _, _]) (R1 := []) h (fun W hφ => (q15 _ (q31 _ (q47 _ (q63 _ (q70 _ hφ))))))) (.inr rfl)
 replace hm := ite_f hm (of_decide_eq_false h73)
 iterate 3 refine g_no rfl rfl rfl rfl rfl h73 ?_
 refine g_v rfl (r_pick0 rfl h73) <| g_v rfl r_move <| g_no rfl rfl rfl rfl rfl rfl <| g_no rfl rfl rfl rfl rfl rfl <| g_v rfl (r_pick0 rfl rfl) <| g_v rfl r_move ?_
 iterate 3 refine g_no rfl rfl rfl rfl rfl rfl ?_
 refine g_v rfl (r_pick0 rfl rfl) <| g_v rfl r_move ?_
 iterate 4 refine g_no rfl rfl rfl rfl rfl rfl ?_
 refine g_v rfl (r_pick0 rfl rfl) <| g_v rfl r_move ?_
 iterate 4 refine g_no rfl rfl rfl rfl rfl rfl ?_
 refine g_v rfl (r_pick0 rfl rfl) <| g_v rfl r_move ?_
 iterate 3 refine g_no rfl rfl rfl rfl rfl rfl ?_
 refine g_v rfl (r_pick0 rfl rfl) <| g_v rfl r_move ?_
 iterate 4 refine g_no rfl rfl rfl rfl rfl rfl ?_
 refine g_v rfl (r_pick0 rfl rfl) <| g_v rfl r_move ?_
 iterate 3 refine g_no rfl rfl rfl rfl rfl rfl ?_
 refine g_v rfl (r_pick0 rfl rfl) <| g_v rfl r_move ?_
 iterate 4 refine g_no rfl rfl rfl rfl rfl rfl ?_
 refine g_v rfl (r_pick0 rfl rfl) <| g_v rfl r_move ?_
 iterate 3 refine g_no rfl rfl rfl rfl rfl rfl ?_
 refine g_v rfl (r_pick0 rfl rfl) <| g_v rfl r_assign <| g_nil <| d_then ?_
 refine c_flat [(0, .bool false)] ⟨rfl, trivial⟩ (fun u => ?_)
 refine c_ret ?_
 cases hm
 exact d_retC () Try.results7 (res_tmp (res_nil rfl)) trivial (fun W h => ok_pre (H1 := [_, _, _, _]) (R1 := []) h (fun W hφ => (q15 _ (q31 _ (q47 _ (q63 _ (q70 _ hφ))))))) (.inr rfl)
noncomputable def m_law18_short (p0 : ByteArray) (p1 : Int) : Option ByteArray :=
  if p1 < (p0.size : Int) then
    (scutHi p0 p1).bind fun s2 =>
    some s2
  else
    some p0
theorem c_law18_short {w0 : World} {M : Nat → Prop} {H : List (Nat × Nat × Obj)} {R : List (Nat × Row)} {φ : World → Prop} (p0 : ByteArray) (p1 : Int) (r : ByteArray) (hm : m_law18_short p0 p1 = some r) :
    Cn Try.prog 8 #[.string p0, .int .i64 p1] ⟨w0, M, H, R, φ⟩ (fun x : Unit => .string r) (fun x => True) (fun x => ⟨w0, M, H, R, φ⟩) := by
 unfold m_law18_short at hm
 refine cn_intro (fn := Try.f8) (N := 13) Try.func8 rfl Try.ntmps8 rfl <| c_seq <| c_region <| g_v rfl r_assign <| g_nil <| d_then <| c_seq <| c_seq <| c_region <| g_v rfl r_move ?_
 refine g_v rfl (r_len Try.underlying9 rfl) <| g_v rfl r_move <| g_v rfl (r_gtr rfl rfl) <| g_nil <| d_then ?_
 refine c_cond rfl (fun h1 => ?_) (fun h1 => ?_)
 ·
  replace hm := ite_t hm (of_decide_eq_true h1)
  refine c_seq <| c_region <| g_v rfl r_move <| g_v rfl r_move ?_
  replace hm := bnd hm
  obtain ⟨s2, hs2, hm⟩ := hm
  refine g_v rfl (r_scutHi Try.underlying9 rfl rfl hs2) <| g_v rfl r_assign <| g_nil <| d_then ?_
  refine c_flat [(4, .string s2)] ⟨rfl, trivial⟩ (fun u => ?_)
  refine c_sta ⟨w0, M, H, R, φ⟩ (fun _ h => h) <| c_ret <| d_ret_then ?_
  cases hm
  exact d_retC () Try.results8 (res_tmp (res_nil rfl)) trivial (fun W h => ok_pre (H1 := []) (R1 := []) h (fun W hφ => hφ)) (.inr rfl)
 replace hm := ite_f hm (of_decide_eq_false h1)
 refine c_skip <| d_then <| c_seq <| c_region <| g_v rfl r_move <| g_v rfl r_assign <| g_nil <| d_then <| c_ret ?_
 cases hm
 exact d_retC () Try.results8 (res_tmp (res_nil rfl)) trivial (fun W h => ok_pre (H1 := []) (R1 := []) h (fun W hφ => hφ)) (.inr rfl)
theorem bld33_21 (z0 : ByteArray) : ∀ W, (Instr.build 33 #[(0, .string z0)]).run Try.prog W = .ok (.agg #[.string z0, .slice none 0 0]) W := fun _ => by kernel_rfl
theorem inf33_22  : (Try.prog.info? 33).map (fun i => (i.zero, i.size, i.bytes)) = some (some (.agg #[.string (⟨#[]⟩ : ByteArray), .slice none 0 0]), 2, 40) := by kernel_rfl
noncomputable def m_law18_small_j1  (l1171 : List GZone) : Option (List GZone) :=
  some l1171
noncomputable def m_law18_small_j3 (l1409 : List GZone) (x1662 : ByteArray) (i1414 : Int) (l1864 : List GRR) : Option (((List GZone) × Int) ⊕ (List GZone)) :=
  (app 40 l1409 [(⟨x1662, l1864⟩ : GZone)]).bind fun l1872 =>
  some (.inl (l1872, w64 (i1414 + 1)))
noncomputable def m_law18_small_s4 (p0 : List GZone) (i1414 : Int) (l1916 : List GRR) (i1919 : Int) : Option (((List GRR) × Int) ⊕ (List GRR)) :=
  (at_ p0 i1414).bind fun x1960 =>
  if i1919 < (x1960.fRecords.length : Int) then
    if i1919 < 40 then
      (at_ p0 i1414).bind fun x1972 =>
      (at_ x1972.fRecords i1919).bind fun x1982 =>
      (m_law18_short x1982.fName 300).bind fun x1987 =>
      (m_law18_short x1982.fData 300).bind fun x1989 =>
      (app 40 l1916 [(⟨x1987, x1982.fType, x1982.fClass, x1982.fTTL, x1989⟩ : GRR)]).bind fun l1992 =>
      some (.inl (l1992, w64 (i1919 + 1)))
    else
      some (.inr l1916)
  else
    some (.inr l1916)
noncomputable def m_law18_small_s2 (p0 : List GZone) (l1409 : List GZone) (i1414 : Int) : Option (((List GZone) × Int) ⊕ (List GZone)) :=
  if i1414 < (p0.length : Int) then
    if i1414 < 6 then
      (at_ p0 i1414).bind fun x1652 =>
      (m_law18_short x1652.fApex 300).bind fun x1662 =>
      (loop (fun s => m_law18_small_s4 p0 i1414 s.1 s.2) (([] : List GRR), 0)).bind fun e => m_law18_small_j3 l1409 x1662 i1414 e
    else
      some (.inr l1409)
  else
    some (.inr l1409)
noncomputable def m_law18_small (p0 : List GZone) : Option (List GZone) :=
  (loop (fun s => m_law18_small_s2 p0 s.1 s.2) (([] : List GZone), 0)).bind fun e => m_law18_small_j1 e
theorem c_law18_small {w0 : World} {M : Nat → Prop} {H : List (Nat × Nat × Obj)} {R : List (Nat × Row)} {φ : World → Prop} (p0 : List GZone) (Ap0_0 : Option Addr) (cp0_0 : Nat) (psp0_0 : List GZoneP) (hcp0_0 : (DOk GZone.capP p0 psp0_0 ∧ p0.length ≤ cp0_0)) (fp0_0 : ∀ W, (Sta.mk w0 M H R φ).ok W → Cl W Ap0_0 ((p0.zip psp0_0).flatMap GZone.encP)) (fop0_0 : ∀ W, (Sta.mk w0 M H R φ).ok W → DOwn GZone.ownP p0 psp0_0 W) (r : (List GZone)) (hm : m_law18_small p0 = some r) :
    Cn Try.prog 11 #[.slice Ap0_0 p0.length cp0_0] ⟨w0, M, H, R, φ⟩ (fun x : Option Addr × Nat × List GZoneP => .slice x.1 r.length x.2.1) (fun x => (DOk GZone.capP r x.2.2 ∧ r.length ≤ x.2.1)) (fun x => ⟨w0, M, H, (2000, ⟨.slice x.1 r.length x.2.1, 33, 2, r.length, (r.zip x.2.2).flatMap GZone.encP⟩) :: R, fun W => φ W ∧ DOwn GZone.ownP r x.2.2 W⟩) := by
 unfold m_law18_small at hm
 refine cn_intro (fn := Try.f11) (N := 66) Try.func11 rfl Try.ntmps11 rfl <| c_seq <| c_region <| g_v rfl r_assign <| g_nil <| d_then <| c_seq <| c_region <| g_v rfl r_assign <| g_nil ?_
 refine d_then <| c_seq <| c_sta _ (fun W h => nilR h 22 33 2) ?_
 refine c_cut (ι := (List GZone) × Option Addr × Nat × List GZoneP) [3] (fun ⟨l1171, A1172, c1173, ps1174⟩ => [(3, .slice A1172 l1171.length c1173)]) (fun ⟨l1171, A1172, c1173, ps1174⟩ => ⟨w0, M, H, (22, ⟨.slice A1172 l1171.length c1173, 33, 2, l1171.length, (l1171.zip ps1174).flatMap GZone.encP⟩) :: R, fun W => φ W ∧ DOwn GZone.ownP l1171 ps1174 W⟩) (fun ⟨l1171, A1172, c1173, ps1174⟩ => m_law18_small_j1 l1171 = some r ∧ (DOk GZone.capP l1171 ps1174 ∧ l1171.length ≤ c1173)) ?_ (fun ⟨l1171, A1172, c1173, ps1174⟩ u ⟨hm, hc1173⟩ => ?_)
 ·
  refine c_seq <| c_region <| g_v rfl r_assign <| g_nil <| d_then <| c_block ?_
  replace hm := bnd hm
  obtain ⟨out2, hl2, hr2⟩ := hm
  obtain ⟨n1648', hl2⟩ := loop_lp hl2
  refine c_loopU (ι := Nat × (List GZone) × Int × Option Addr × Nat × List GZoneP) [0, 3, 4] (fun ⟨n1648, l1409, i1414, A1410, c1411, ps1412⟩ => [(3, .slice A1410 l1409.length c1411), (4, .int .i64 i1414)]) (fun ⟨n1648, l1409, i1414, A1410, c1411, ps1412⟩ => ⟨w0, M, H, (22, ⟨.slice A1410 l1409.length c1411, 33, 2, l1409.length, (l1409.zip ps1412).flatMap GZone.encP⟩) :: R, fun W => φ W ∧ DOwn GZone.ownP l1409 ps1412 W⟩) (fun ⟨n1648, l1409, i1414, A1410, c1411, ps1412⟩ => Lp (fun s => m_law18_small_s2 p0 s.1 s.2) n1648 (l1409, i1414) out2 ∧ (DOk GZone.capP l1409 ps1412 ∧ l1409.length ≤ c1411)) (fun ⟨n1648, l1409, i1414, A1410, c1411, ps1412⟩ => n1648) (n1648', ([] : List GZone), 0, none, 0, ([] : List GZoneP)) ⟨hl2, ⟨DOk.nil, (Nat.le_refl 0)⟩⟩ ⟨rfl, rfl, rfl, trivial⟩ (fun W h => h.phi (fun W hφ => ⟨hφ, (fun W h => DOwn.nil) W hφ⟩)) (fun ⟨n1648, l1409, i1414, A1410, c1411, ps1412⟩ u ⟨hlp, hc1411⟩ => ?_)
  obtain ⟨o2, hm, hnx2⟩ := lp_step hlp
  clear hlp
  replace hm : m_law18_small_s2 p0 l1409 i1414 = some o2 := hm
  unfold m_law18_small_s2 at hm
  refine c_abs (fun φ1649 q1649' => ?_)
  have q1649 : ∀ W, φ1649 W → φ W := fun W h => (q1649' W h).1
  have f1413 := fun (W : World) (h : φ1649 W) => (q1649' W h).2
  refine c_flat [(0, .slice Ap0_0 p0.length cp0_0), (3, .slice A1410 l1409.length c1411), (4, .int .i64 i1414)] ⟨rfl, rfl, rfl, trivial⟩ (fun u => ?_)
  refine c_sta ⟨w0, M, H, (22, ⟨.slice A1410 l1409.length c1411, 33, 2, l1409.length, (l1409.zip ps1412).flatMap GZone.encP⟩) :: R, φ1649⟩ (fun _ h => h) <| c_seq <| c_seq <| c_region <| g_v rfl r_move <| g_v rfl r_move <| g_v rfl (r_lenL Try.underlying35 rfl) <| g_v rfl (r_lss rfl rfl) <| g_v rfl r_move ?_
  refine g_if rfl rfl rfl rfl rfl (fun h1650 => ?_) (fun h1650 => ?_)
  ·
   replace hm := ite_t hm (of_decide_eq_true h1650)
   refine g_v rfl r_move <| g_do rfl rfl rfl rfl rfl h1650 <| g_v rfl (r_lss rfl rfl) <| g_v rfl (r_pick1 rfl h1650) <| g_nil <| d_then ?_
   refine c_cond rfl (fun h1651 => ?_) (fun h1651 => ?_)
   ·
    replace hm := ite_t hm (of_decide_eq_true h1651)
    refine c_skip <| d_then <| c_seq <| c_block <| c_seq <| c_region <| g_v rfl r_move <| g_v rfl r_move ?_
    replace hm := bnd hm
    obtain ⟨x1652, hx1652, hm⟩ := hm
    obtain ⟨pp1656, hv1657, hz1658, hcp1659⟩ := DOk.at_ hcp0_0.1 hx1652
    refine g_know _ (fun W hS => cl_at (p := (Sta.mk w0 M H R φ).ok) (sz := 2) (fun _ => rfl) (by decide) (ok_pre (H1 := []) (R1 := [_]) hS (fun W h => (q1649 _ h))) fp0_0 hv1657) ?_
    rintro ⟨ad1653, hA1655, f1654⟩
    have f1660 := fun (W : World) (h : (Sta.mk w0 M H R φ).ok W) => (fop0_0 W h _ hz1658)
    refine g_v rfl (r_ix Try.underlying35 Try.sizeOf33 rfl hA1655 rfl hx1652) ?_
    have f1661 := fun (W : World) (h : (Sta.mk w0 M H R φ).ok W) => Cl.drop (f1654 W h) 0
    refine g_v rfl (r_fieldF Try.underlying33 rfl Try.sizeOf9 rfl) <| g_v rfl (r_ld rfl Try.isAgg9 (fun W hS => Cl.head (f1661 W (ok_pre (H1 := []) (R1 := [_]) hS (fun W h => (q1649 _ h)))))) ?_
    replace hm := bnd hm
    obtain ⟨x1662, hx1663, hm⟩ := hm
    refine g_cn ⟨w0, M, _, _, φ1649⟩ (fun _ h => h) Try.call8 rfl rfl (c_law18_short x1652.fApex 300 _ hx1663) (fun _ _ => ?_)
    refine g_v rfl (r_build _ rfl (bld33_21 _)) ?_
    refine g_e rfl (e_alloc 100050 Try.zeroValue33) (fun g1664 _ => ?_)
    refine g_storeL (tag := 100050) rfl rfl rfl rfl Try.sizeOf33 rfl rfl <| g_nil <| d_then ?_
    refine c_flat [(0, .slice Ap0_0 p0.length cp0_0), (3, .slice A1410 l1409.length c1411), (4, .int .i64 i1414), (5, .pointer (some ⟨g1664, 0, none⟩))] ⟨rfl, rfl, rfl, rfl, trivial⟩ (fun u => ?_)
    refine c_sta ⟨w0, M, (100050, g1664, .cells #[.string x1662, .slice none 0 0] 33 (0, 0)) :: H, (22, ⟨.slice A1410 l1409.length c1411, 33, 2, l1409.length, (l1409.zip ps1412).flatMap GZone.encP⟩) :: R, φ1649⟩ (fun _ h => h) <| c_seq <| c_sta _ (fun W h => nilR h 37 42 5) ?_
    refine c_cut (ι := (List GRR) × Option Addr × Nat) [0, 3, 4, 5] (fun ⟨l1864, A1865, c1866⟩ => []) (fun ⟨l1864, A1865, c1866⟩ => ⟨w0, M, (100050, g1664, .cells #[.string x1662, .slice A1865 l1864.length c1866] 33 (0, 0)) :: H, (37, ⟨.slice A1865 l1864.length c1866, 42, 5, l1864.length, l1864.flatMap GRR.enc⟩) :: (22, ⟨.slice A1410 l1409.length c1411, 33, 2, l1409.length, (l1409.zip ps1412).flatMap GZone.encP⟩) :: R, φ1649⟩) (fun ⟨l1864, A1865, c1866⟩ => m_law18_small_j3 l1409 x1662 i1414 l1864 = some o2 ∧ l1864.length ≤ c1866) ?_ (fun ⟨l1864, A1865, c1866⟩ u ⟨hm, hc1866⟩ => ?_)
    ·
     refine c_seq <| c_region <| g_v rfl r_assign <| g_nil <| d_then <| c_block ?_
     replace hm := bnd hm
     obtain ⟨out4, hl4, hr4⟩ := hm
     obtain ⟨n1959', hl4⟩ := loop_lp hl4
     refine c_loopU (ι := Nat × (List GRR) × Int × Option Addr × Nat) [0, 3, 4, 5, 6] (fun ⟨n1959, l1916, i1919, A1917, c1918⟩ => [(6, .int .i64 i1919)]) (fun ⟨n1959, l1916, i1919, A1917, c1918⟩ => ⟨w0, M, (100050, g1664, .cells #[.string x1662, .slice A1917 l1916.length c1918] 33 (0, 0)) :: H, (37, ⟨.slice A1917 l1916.length c1918, 42, 5, l1916.length, l1916.flatMap GRR.enc⟩) :: (22, ⟨.slice A1410 l1409.length c1411, 33, 2, l1409.length, (l1409.zip ps1412).flatMap GZone.encP⟩) :: R, φ1649⟩) (fun ⟨n1959, l1916, i1919, A1917, c1918⟩ => Lp (fun s => m_law18_small_s4 p0 i1414 s.1 s.2) n1959 (l1916, i1919) out4 ∧ l1916.length ≤ c1918) (fun ⟨n1959, l1916, i1919, A1917, c1918⟩ => n1959) (n1959', ([] : List GRR), 0, none, 0) ⟨hl4, (Nat.le_refl 0)⟩ ⟨rfl, rfl, rfl, rfl, rfl, trivial⟩ (fun W h => h.phi (fun W hφ => hφ)) (fun ⟨n1959, l1916, i1919, A1917, c1918⟩ u ⟨hlp, hc1918⟩ => ?_)
     obtain ⟨o4, hm, hnx4⟩ := lp_step hlp
     clear hlp
     replace hm : m_law18_small_s4 p0 i1414 l1916 i1919 = some o4 := hm
     unfold m_law18_small_s4 at hm
     refine c_flat [(0, .slice Ap0_0 p0.length cp0_0), (3, .slice A1410 l1409.length c1411), (4, .int .i64 i1414), (5, .pointer (some ⟨g1664, 0, none⟩)), (6, .int .i64 i1919)] ⟨rfl, rfl, rfl, rfl, rfl, trivial⟩ (fun u => ?_)
     refine c_sta ⟨w0, M, (100050, g1664, .cells #[.string x1662, .slice A1917 l1916.length c1918] 33 (0, 0)) :: H, (37, ⟨.slice A1917 l1916.length c1918, 42, 5, l1916.length, l1916.flatMap GRR.enc⟩) :: (22, ⟨.slice A1410 l1409.length c1411, 33, 2, l1409.length, (l1409.zip ps1412).flatMap GZone.encP⟩) :: R, φ1649⟩ (fun _ h => h) <| c_seq <| c_seq <| c_region ?_
     iterate 3 refine g_v rfl r_move ?_
     replace hm := bnd hm
     obtain ⟨x1960, hx1960, hm⟩ := hm
     obtain ⟨pp1964, hv1965, hz1966, hcp1967⟩ := DOk.at_ hcp0_0.1 hx1960
     refine g_know _ (fun W hS => cl_at (p := (Sta.mk w0 M H R φ).ok) (sz := 2) (fun _ => rfl) (by decide) (ok_pre (H1 := [_]) (R1 := [_, _]) hS (fun W h => (q1649 _ h))) fp0_0 hv1965) ?_
     rintro ⟨ad1961, hA1963, f1962⟩
     have f1968 := fun (W : World) (h : (Sta.mk w0 M H R φ).ok W) => (fop0_0 W h _ hz1966)
     refine g_v rfl (r_ix Try.underlying35 Try.sizeOf33 rfl hA1963 rfl hx1960) ?_
     have f1969 := fun (W : World) (h : (Sta.mk w0 M H R φ).ok W) => Cl.drop (f1962 W h) 1
     refine g_v rfl (r_fieldF Try.underlying33 rfl Try.sizeOf24 rfl) <| g_v rfl (r_ld rfl Try.isAgg24 (fun W hS => Cl.head (f1969 W (ok_pre (H1 := [_]) (R1 := [_, _]) hS (fun W h => (q1649 _ h)))))) <| g_v rfl (r_lenL Try.underlying24 rfl) <| g_v rfl (r_lss rfl rfl) <| g_v rfl r_move ?_
     refine g_if rfl rfl rfl rfl rfl (fun h1970 => ?_) (fun h1970 => ?_)
     ·
      replace hm := ite_t hm (of_decide_eq_true h1970)
      refine g_v rfl r_move <| g_do rfl rfl rfl rfl rfl h1970 <| g_v rfl (r_lss rfl rfl) <| g_v rfl (r_pick1 rfl h1970) <| g_nil <| d_then ?_
      refine c_flat [(0, .slice Ap0_0 p0.length cp0_0), (3, .slice A1410 l1409.length c1411), (4, .int .i64 i1414), (5, .pointer (some ⟨g1664, 0, none⟩)), (6, .int .i64 i1919), (36, .bool (decide (i1919 < 40)))] ⟨rfl, rfl, rfl, rfl, rfl, rfl, trivial⟩ (fun u => ?_)
      refine c_cond rfl (fun h1971 => ?_) (fun h1971 => ?_)
      ·
       replace hm := ite_t hm (of_decide_eq_true h1971)
       refine c_skip <| d_then <| c_seq <| c_block <| c_seq <| c_region <| g_v rfl r_move <| g_v rfl r_move ?_
       replace hm := bnd hm
       obtain ⟨x1972, hx1972, hm⟩ := hm
       obtain ⟨pp1976, hv1977, hz1978, hcp1979⟩ := DOk.at_ hcp0_0.1 hx1972
       refine g_know _ (fun W hS => cl_at (p := (Sta.mk w0 M H R φ).ok) (sz := 2) (fun _ => rfl) (by decide) (ok_pre (H1 := [_]) (R1 := [_, _]) hS (fun W h => (q1649 _ h))) fp0_0 hv1977) ?_
       rintro ⟨ad1973, hA1975, f1974⟩
       have f1980 := fun (W : World) (h : (Sta.mk w0 M H R φ).ok W) => (fop0_0 W h _ hz1978)
       refine g_v rfl (r_ix Try.underlying35 Try.sizeOf33 rfl hA1975 rfl hx1972) ?_
       have f1981 := fun (W : World) (h : (Sta.mk w0 M H R φ).ok W) => Cl.drop (f1974 W h) 1
       refine g_v rfl (r_fieldF Try.underlying33 rfl Try.sizeOf24 rfl) <| g_v rfl (r_ld rfl Try.isAgg24 (fun W hS => Cl.head (f1981 W (ok_pre (H1 := [_]) (R1 := [_, _]) hS (fun W h => (q1649 _ h)))))) <| g_v rfl r_move ?_
       replace hm := bnd hm
       obtain ⟨x1982, hx1982, hm⟩ := hm
       refine g_know _ (fun W hS => cl_at (p := (Sta.mk w0 M H R φ).ok) (sz := 5) (fun _ => rfl) (by decide) (ok_pre (H1 := [_]) (R1 := [_, _]) hS (fun W h => (q1649 _ h))) f1980 hx1982) ?_
       rintro ⟨ad1983, hA1985, f1984⟩
       refine g_v rfl (r_ix Try.underlying24 Try.sizeOf42 rfl hA1985 rfl hx1982) <| g_v rfl (r_ldA rfl Try.isAgg42 Try.sizeOf42 (fun W hS => (f1984 W (ok_pre (H1 := [_]) (R1 := [_, _]) hS (fun W h => (q1649 _ h)))).take 5) rfl) ?_
       refine g_e rfl (e_alloc 100070 Try.zeroValue42) (fun g1986 _ => ?_)
       refine g_storeL (tag := 100070) rfl rfl rfl rfl Try.sizeOf42 rfl rfl <| g_nil <| d_then ?_
       refine c_flat [(0, .slice Ap0_0 p0.length cp0_0), (3, .slice A1410 l1409.length c1411), (4, .int .i64 i1414), (5, .pointer (some ⟨g1664, 0, none⟩)), (6, .int .i64 i1919), (7, .pointer (some ⟨g1986, 0, none⟩))] ⟨rfl, rfl, rfl, rfl, rfl, rfl, trivial⟩ (fun u => ?_)
       refine c_sta ⟨w0, M, (100070, g1986, .cells #[.string x1982.fName, .int .u16 x1982.fType, .int .u16 x1982.fClass, .int .u32 x1982.fTTL, .string x1982.fData] 42 (0, 0)) :: (100050, g1664, .cells #[.string x1662, .slice A1917 l1916.length c1918] 33 (0, 0)) :: H, (37, ⟨.slice A1917 l1916.length c1918, 42, 5, l1916.length, l1916.flatMap GRR.enc⟩) :: (22, ⟨.slice A1410 l1409.length c1411, 33, 2, l1409.length, (l1409.zip ps1412).flatMap GZone.encP⟩) :: R, φ1649⟩ (fun _ h => h) <| c_seq <| c_region <| g_v rfl (r_field (n := 0) Try.underlying42 rfl Try.sizeOf9 rfl rfl) <| g_v rfl (r_load (tag := 100070) rfl rfl rfl Try.isAgg9) ?_
       replace hm := bnd hm
       obtain ⟨x1987, hx1988, hm⟩ := hm
       refine g_cn ⟨w0, M, _, _, φ1649⟩ (fun _ h => h) Try.call8 rfl rfl (c_law18_short x1982.fName 300 _ hx1988) (fun _ _ => ?_)
       refine g_v rfl (r_field (n := 0) Try.underlying42 rfl Try.sizeOf9 rfl rfl) <| g_storeL (tag := 100070) rfl rfl rfl rfl Try.sizeOf9 rfl rfl <| g_nil <| d_then <| c_seq <| c_region <| g_v rfl (r_field (n := 4) Try.underlying42 rfl Try.sizeOf9 rfl rfl) <| g_v rfl (r_load (tag := 100070) rfl rfl rfl Try.isAgg9) ?_
       replace hm := bnd hm
       obtain ⟨x1989, hx1990, hm⟩ := hm
       refine g_cn ⟨w0, M, _, _, φ1649⟩ (fun _ h => h) Try.call8 rfl rfl (c_law18_short x1982.fData 300 _ hx1990) (fun _ _ => ?_)
       refine g_v rfl (r_field (n := 4) Try.underlying42 rfl Try.sizeOf9 rfl rfl) <| g_storeL (tag := 100070) rfl rfl rfl rfl Try.sizeOf9 rfl rfl <| g_nil <| d_then ?_
       refine c_flat [(0, .slice Ap0_0 p0.length cp0_0), (3, .slice A1410 l1409.length c1411), (4, .int .i64 i1414), (5, .pointer (some ⟨g1664, 0, none⟩)), (6, .int .i64 i1919), (7, .pointer (some ⟨g1986, 0, none⟩))] ⟨rfl, rfl, rfl, rfl, rfl, rfl, trivial⟩ (fun u => ?_)
       refine c_sta ⟨w0, M, (100070, g1986, .cells #[.string x1987, .int .u16 x1982.fType, .int .u16 x1982.fClass, .int .u32 x1982.fTTL, .string x1989] 42 (0, 0)) :: (100050, g1664, .cells #[.string x1662, .slice A1917 l1916.length c1918] 33 (0, 0)) :: H, (37, ⟨.slice A1917 l1916.length c1918, 42, 5, l1916.length, l1916.flatMap GRR.enc⟩) :: (22, ⟨.slice A1410 l1409.length c1411, 33, 2, l1409.length, (l1409.zip ps1412).flatMap GZone.encP⟩) :: R, φ1649⟩ (fun _ h => h) <| c_region <| g_v rfl (r_field (n := 1) Try.underlying33 rfl Try.sizeOf24 rfl rfl) <| g_v rfl (r_load (tag := 100050) rfl rfl rfl Try.isAgg24) <| g_v rfl (r_loadA (tag := 100070) rfl rfl Try.isAgg42 Try.sizeOf42 rfl rfl) ?_
       refine g_e rfl (e_lit (tag := 100580) (l := [(⟨x1987, x1982.fType, x1982.fClass, x1982.fTTL, x1989⟩ : GRR)]) (enc := GRR.enc) (sz := 5) rfl Try.underlying24 (lit42_16 _ _ _ _ _) rfl rfl (fun _ => rfl)) (fun g1991 _ => ?_)
       replace hm := bnd hm
       obtain ⟨l1992, hl1992, hm⟩ := hm
       refine g_e rfl (e_appR (enc := GRR.enc) (l := l1916) (l1 := [(⟨x1987, x1982.fType, x1982.fClass, x1982.fTTL, x1989⟩ : GRR)]) (l2 := l1992) (tag := 37) Try.underlying24 inf42_17 rfl (by decide) (by decide) (fun _ => rfl) (fun _ => rfl) rfl hc1918 rfl rfl (fun W hS => rowCl (tag := 100580) rfl W hS) hl1992) (fun ⟨A1993, c1994⟩ hc1994 => ?_)
       refine g_v rfl (r_field (n := 1) Try.underlying33 rfl Try.sizeOf24 rfl rfl) <| g_storeL (tag := 100050) rfl rfl rfl rfl Try.sizeOf24 rfl rfl <| g_nil <| d_normal_block <| d_then <| c_region <| g_v rfl r_move <| g_v rfl (r_add rfl rfl rfl) <| g_v rfl r_assign <| g_nil ?_
       obtain ⟨n1995, hn1995, hlp⟩ := nx_inl hm hnx4
       exact d_round (n1995, l1992, w64 (i1919 + 1), A1993, c1994) ⟨hlp, hc1994⟩ hn1995 ⟨rfl, rfl, rfl, rfl, rfl, trivial⟩ (fun W h => ((h.dropR (t := 100580) rfl).dropH (t := 100070) rfl).phi (fun W hφ => hφ))
      replace hm := ite_f hm (of_decide_eq_false h1971)
      refine c_exit <| d_exit_then <| d_exit_then <| d_exit_block ?_
      replace hm := nx_out (C := (fun e : (List GRR) => m_law18_small_j3 l1409 x1662 i1414 e = some o2)) hm hnx4 hr4
      exact d_round (l1916, A1917, c1918) ⟨hm, hc1918⟩ Nat.zero_lt_one ⟨rfl, rfl, rfl, rfl, trivial⟩ (fun W h => h.phi (fun W hφ => hφ))
     replace hm := ite_f hm (of_decide_eq_false h1970)
     refine g_no rfl rfl rfl rfl rfl h1970 <| g_v rfl (r_pick0 rfl h1970) <| g_nil <| d_then ?_
     refine c_flat [(0, .slice Ap0_0 p0.length cp0_0), (3, .slice A1410 l1409.length c1411), (4, .int .i64 i1414), (5, .pointer (some ⟨g1664, 0, none⟩)), (6, .int .i64 i1919), (36, .bool false)] ⟨rfl, rfl, rfl, rfl, rfl, rfl, trivial⟩ (fun u => ?_)
     refine c_cond0 rfl rfl <| c_exit <| d_exit_then <| d_exit_then <| d_exit_block ?_
     replace hm := nx_out (C := (fun e : (List GRR) => m_law18_small_j3 l1409 x1662 i1414 e = some o2)) hm hnx4 hr4
     exact d_round (l1916, A1917, c1918) ⟨hm, hc1918⟩ Nat.zero_lt_one ⟨rfl, rfl, rfl, rfl, trivial⟩ (fun W h => h.phi (fun W hφ => hφ))
    unfold m_law18_small_j3 at hm
    refine d_flat [(0, .slice Ap0_0 p0.length cp0_0), (3, .slice A1410 l1409.length c1411), (4, .int .i64 i1414), (5, .pointer (some ⟨g1664, 0, none⟩))] ⟨rfl, rfl, rfl, rfl, trivial⟩ (fun u => ?_)
    refine d_sta ⟨w0, M, (100050, g1664, .cells #[.string x1662, .slice A1865 l1864.length c1866] 33 (0, 0)) :: H, (37, ⟨.slice A1865 l1864.length c1866, 42, 5, l1864.length, l1864.flatMap GRR.enc⟩) :: (22, ⟨.slice A1410 l1409.length c1411, 33, 2, l1409.length, (l1409.zip ps1412).flatMap GZone.encP⟩) :: R, φ1649⟩ (fun _ h => h) <| d_then <| c_region <| g_v rfl r_move <| g_v rfl (r_loadA (tag := 100050) rfl rfl Try.isAgg33 Try.sizeOf33 rfl rfl) ?_
    refine g_shut (tag := 37) rfl (fun φ1867 q1867' => ?_)
    have q1867 : ∀ W, φ1867 W → φ1649 W := fun W h => (q1867' W h).1
    have f1868 := fun (W : World) (h : φ1867 W) => (q1867' W h).2
    have hk1870 := (DOk.cons (cap := GZone.capP) (x := (⟨x1662, l1864⟩ : GZone)) (p := (⟨A1865, c1866⟩ : GZoneP)) (hc1866) DOk.nil)
    have f1871 := fun (W : World) (h : φ1867 W) => (DOwn.cons (own := GZone.ownP) (x := (⟨x1662, l1864⟩ : GZone)) (p := (⟨A1865, c1866⟩ : GZoneP)) (f1868 W h) DOwn.nil)
    refine g_e rfl (e_litD (tag := 100630) (enc := GZone.encP) (sz := 2) hk1870 rfl Try.underlying35 (lit33_4 _ _ _ _) rfl rfl (fun _ => rfl)) (fun g1869 _ => ?_)
    replace hm := bnd hm
    obtain ⟨l1872, hl1872, hm⟩ := hm
    have hk1875 := DOk.app (cap := GZone.capP) hc1411.1 hk1870 hl1872
    have f1876 := fun (W : World) (h : φ1867 W) => DOwn.app (own := GZone.ownP) (cap := GZone.capP) hc1411.1 hl1872 (f1413 W (q1867 _ h)) (f1871 W h)
    refine g_e rfl (e_appRD (enc := GZone.encP) (l := l1409) (l1 := [(⟨x1662, l1864⟩ : GZone)]) (l2 := l1872) (tag := 22) hc1411.1 hk1870 Try.underlying35 inf33_22 rfl (by decide) (by decide) (fun _ => rfl) (fun _ => rfl) rfl hc1411.2 rfl rfl (fun W hS => rowCl (tag := 100630) rfl W hS) hl1872) (fun ⟨A1873, c1874⟩ hc1874 => ?_)
    refine g_v rfl r_assign <| g_nil <| d_normal_block <| d_then <| c_region <| g_v rfl r_move <| g_v rfl (r_add rfl rfl rfl) <| g_v rfl r_assign <| g_nil ?_
    obtain ⟨n1877, hn1877, hlp⟩ := nx_inl hm hnx2
    exact d_round (n1877, l1872, w64 (i1414 + 1), A1873, c1874, (ps1412 ++ [(⟨A1865, c1866⟩ : GZoneP)])) ⟨hlp, ⟨hk1875, hc1874⟩⟩ hn1877 ⟨rfl, rfl, rfl, trivial⟩ (fun W h => ((h.dropR (t := 100630) rfl).dropH (t := 100050) rfl).phi (fun W hφ => ⟨(q1649 _ (q1867 _ hφ)), (fun W h => (f1876 W h)) W hφ⟩))
   replace hm := ite_f hm (of_decide_eq_false h1651)
   refine c_exit <| d_exit_then <| d_exit_then <| d_exit_block ?_
   replace hm := nx_out (C := (fun e : (List GZone) => m_law18_small_j1 e = some r)) hm hnx2 hr2
   exact d_round (l1409, A1410, c1411, ps1412) ⟨hm, ⟨hc1411.1, hc1411.2⟩⟩ Nat.zero_lt_one ⟨rfl, trivial⟩ (fun W h => h.phi (fun W hφ => ⟨(q1649 _ hφ), (fun W h => (f1413 W h)) W hφ⟩))
  replace hm := ite_f hm (of_decide_eq_false h1650)
  refine g_no rfl rfl rfl rfl rfl h1650 <| g_v rfl (r_pick0 rfl h1650) <| g_nil <| d_then <| c_cond0 rfl rfl <| c_exit <| d_exit_then <| d_exit_then <| d_exit_block ?_
  replace hm := nx_out (C := (fun e : (List GZone) => m_law18_small_j1 e = some r)) hm hnx2 hr2
  exact d_round (l1409, A1410, c1411, ps1412) ⟨hm, ⟨hc1411.1, hc1411.2⟩⟩ Nat.zero_lt_one ⟨rfl, trivial⟩ (fun W h => h.phi (fun W hφ => ⟨(q1649 _ hφ), (fun W h => (f1413 W h)) W hφ⟩))
 unfold m_law18_small_j1 at hm
 refine d_abs (fun φ1176 q1176' => ?_)
 have q1176 : ∀ W, φ1176 W → φ W := fun W h => (q1176' W h).1
 have f1175 := fun (W : World) (h : φ1176 W) => (q1176' W h).2
 refine d_flat [(3, .slice A1172 l1171.length c1173)] ⟨rfl, trivial⟩ (fun u => ?_)
 refine d_sta ⟨w0, M, H, (22, ⟨.slice A1172 l1171.length c1173, 33, 2, l1171.length, (l1171.zip ps1174).flatMap GZone.encP⟩) :: R, φ1176⟩ (fun _ h => h) <| d_then <| c_seq <| c_region <| g_v rfl r_move <| g_v rfl r_assign <| g_nil <| d_then <| c_ret ?_
 cases hm
 refine d_sta _ (fun W h => ok_frontR (t := 22) (t' := 2000) h rfl) ?_
 exact d_retC (A1172, c1173, ps1174) Try.results11 (res_tmp (res_nil rfl)) ⟨hc1173.1, hc1173.2⟩ (fun W h => h.phi (fun W hφ => ⟨(q1176 _ hφ), (fun W h => (f1175 W h)) W hφ⟩)) (.inr rfl)
noncomputable def m_ref03_row_j1 (p0 : ByteArray) (l82 : List ByteArray) (i85 : Int) : Option ((List ByteArray) × Bool) :=
  some (l82, decide (i85 = w64 ((p0.size : Int) - 1)))
noncomputable def m_ref03_row_s2 (p0 : ByteArray) (l101 : List ByteArray) (i104 : Int) : Option (((List ByteArray) × Int) ⊕ (((List ByteArray) × Int) ⊕ ((List ByteArray) × Bool))) :=
  if i104 < (p0.size : Int) then
    (sat_ p0 i104).bind fun b122 =>
    if b122 ≠ 0 then
      (sat_ p0 i104).bind fun b124 =>
      if 63 < w64 b124 then
        some (.inr (.inr (([] : List ByteArray), false)))
      else
        if (p0.size : Int) < w64 ((w64 (i104 + 1)) + (w64 b124)) then
          some (.inr (.inr (([] : List ByteArray), false)))
        else
          (scutMid p0 (w64 (i104 + 1)) (w64 ((w64 (i104 + 1)) + (w64 b124)))).bind fun s127 =>
          (app 16 l101 [s127]).bind fun l129 =>
          some (.inl (l129, w64 ((w64 (i104 + 1)) + (w64 b124))))
    else
      some (.inr (.inl (l101, i104)))
  else
    some (.inr (.inl (l101, i104)))
noncomputable def m_ref03_row (p0 : ByteArray) : Option ((List ByteArray) × Bool) :=
  (loop (fun s => m_ref03_row_s2 p0 s.1 s.2) (([] : List ByteArray), 0)).bind fun e => Sum.elim (fun e => m_ref03_row_j1 p0 e.1 e.2) (fun x => some x) e
theorem c_ref03_row {w0 : World} {M : Nat → Prop} {H : List (Nat × Nat × Obj)} {R : List (Nat × Row)} {φ : World → Prop} (p0 : ByteArray) (r : (List ByteArray) × Bool) (hm : m_ref03_row p0 = some r) :
    Cn Try.prog 41 #[.string p0] ⟨w0, M, H, R, φ⟩ (fun x : Option Addr × Nat => .tuple #[.slice x.1 r.1.length x.2, .bool r.2]) (fun x => r.1.length ≤ x.2) (fun x => ⟨w0, M, H, (2000, ⟨.slice x.1 r.1.length x.2, 9, 1, r.1.length, r.1.flatMap (fun x : ByteArray => [Value.string x])⟩) :: R, φ⟩) := by
 unfold m_ref03_row at hm
 refine cn_intro (fn := Try.f41) (N := 53) Try.func41 rfl Try.ntmps41 rfl <| c_seq <| c_region <| g_v rfl r_assign <| g_v rfl r_assign <| g_nil <| d_then <| c_seq <| c_region <| g_v rfl r_assign ?_
 refine g_nil <| d_then <| c_seq <| c_region <| g_v rfl r_assign <| g_nil <| d_then <| c_seq <| c_sta _ (fun W h => nilR h 19 9 1) ?_
 refine c_cut (ι := (List ByteArray) × Int × Option Addr × Nat) [0, 4, 5] (fun ⟨l82, i85, A83, c84⟩ => [(4, .slice A83 l82.length c84), (5, .int .i64 i85)]) (fun ⟨l82, i85, A83, c84⟩ => ⟨w0, M, H, (19, ⟨.slice A83 l82.length c84, 9, 1, l82.length, l82.flatMap (fun x : ByteArray => [Value.string x])⟩) :: R, φ⟩) (fun ⟨l82, i85, A83, c84⟩ => m_ref03_row_j1 p0 l82 i85 = some r ∧ l82.length ≤ c84) ?_ (fun ⟨l82, i85, A83, c84⟩ u ⟨hm, hc84⟩ => ?_)
 ·
  refine c_block ?_
  replace hm := bnd hm
  obtain ⟨out2, hl2, hr2⟩ := hm
  obtain ⟨n120', hl2⟩ := loop_lp hl2
  refine c_loopU (ι := Nat × (List ByteArray) × Int × Option Addr × Nat) [0, 4, 5] (fun ⟨n120, l101, i104, A102, c103⟩ => [(4, .slice A102 l101.length c103), (5, .int .i64 i104)]) (fun ⟨n120, l101, i104, A102, c103⟩ => ⟨w0, M, H, (19, ⟨.slice A102 l101.length c103, 9, 1, l101.length, l101.flatMap (fun x : ByteArray => [Value.string x])⟩) :: R, φ⟩) (fun ⟨n120, l101, i104, A102, c103⟩ => Lp (fun s => m_ref03_row_s2 p0 s.1 s.2) n120 (l101, i104) out2 ∧ l101.length ≤ c103) (fun ⟨n120, l101, i104, A102, c103⟩ => n120) (n120', ([] : List ByteArray), 0, none, 0) ⟨hl2, (Nat.le_refl 0)⟩ ⟨rfl, rfl, rfl, trivial⟩ (fun W h => h.phi (fun W hφ => hφ)) (fun ⟨n120, l101, i104, A102, c103⟩ u ⟨hlp, hc103⟩ => ?_)
  obtain ⟨o2, hm, hnx2⟩ := lp_step hlp
  clear hlp
  replace hm : m_ref03_row_s2 p0 l101 i104 = some o2 := hm
  unfold m_ref03_row_s2 at hm
  refine c_flat [(0, .string p0), (4, .slice A102 l101.length c103), (5, .int .i64 i104)] ⟨rfl, rfl, rfl, trivial⟩ (fun u => ?_)
  refine c_sta ⟨w0, M, H, (19, ⟨.slice A102 l101.length c103, 9, 1, l101.length, l101.flatMap (fun x : ByteArray => [Value.string x])⟩) :: R, φ⟩ (fun _ h => h) <| c_seq <| c_seq <| c_region <| g_v rfl r_move <| g_v rfl r_move <| g_v rfl (r_len Try.underlying9 rfl) <| g_v rfl (r_lss rfl rfl) <| g_v rfl r_move ?_
  refine g_if rfl rfl rfl rfl rfl (fun h121 => ?_) (fun h121 => ?_)
  ·
   replace hm := ite_t hm (of_decide_eq_true h121)
   refine g_v rfl r_move <| g_do rfl rfl rfl rfl rfl h121 <| g_v rfl r_move <| g_do rfl rfl rfl rfl rfl h121 ?_
   replace hm := bnd hm
   obtain ⟨b122, hb122, hm⟩ := hm
   refine g_v rfl (r_sat Try.underlying9 rfl rfl hb122) <| g_do rfl rfl rfl rfl rfl h121 <| g_v rfl (r_neq rfl rfl) <| g_v rfl (r_pick1 rfl h121) <| g_nil <| d_then ?_
   refine c_flat [(0, .string p0), (4, .slice A102 l101.length c103), (5, .int .i64 i104), (16, .bool (decide (b122 ≠ 0)))] ⟨rfl, rfl, rfl, rfl, trivial⟩ (fun u => ?_)
   refine c_cond rfl (fun h123 => ?_) (fun h123 => ?_)
   ·
    replace hm := ite_t hm (of_decide_eq_true h123)
    refine c_skip <| d_then <| c_block <| c_seq <| c_region <| g_v rfl r_move <| g_v rfl r_move ?_
    replace hm := bnd hm
    obtain ⟨b124, hb124, hm⟩ := hm
    refine g_v rfl (r_sat Try.underlying9 rfl rfl hb124) <| g_v rfl (r_conv Try.underlying5 Try.underlying3 rfl rfl) <| g_v rfl r_assign <| g_nil <| d_then <| c_seq <| c_seq <| c_region <| g_v rfl r_move <| g_v rfl (r_gtr rfl rfl) ?_
    refine g_v rfl r_move ?_
    refine g_if rfl rfl rfl rfl rfl (fun h125 => ?_) (fun h125 => ?_)
    ·
     replace hm := ite_f hm (of_decide_eq_false h125)
     refine g_v rfl r_move <| g_do rfl rfl rfl rfl rfl h125 <| g_v rfl (r_add rfl rfl rfl) <| g_do rfl rfl rfl rfl rfl h125 <| g_v rfl r_move <| g_do rfl rfl rfl rfl rfl h125 <| g_v rfl (r_add rfl rfl rfl) <| g_do rfl rfl rfl rfl rfl h125 <| g_v rfl r_move <| g_do rfl rfl rfl rfl rfl h125 ?_
     refine g_v rfl (r_len Try.underlying9 rfl) <| g_do rfl rfl rfl rfl rfl h125 <| g_v rfl (r_gtr rfl rfl) <| g_v rfl (r_pick0 rfl h125) <| g_nil <| d_then ?_
     refine c_flat [(0, .string p0), (4, .slice A102 l101.length c103), (5, .int .i64 i104), (6, .int .i64 (w64 b124)), (31, .bool (decide ((p0.size : Int) < w64 ((w64 (i104 + 1)) + (w64 b124)))))] ⟨rfl, rfl, rfl, rfl, rfl, trivial⟩ (fun u => ?_)
     refine c_cond rfl (fun h126 => ?_) (fun h126 => ?_)
     ·
      replace hm := ite_t hm (of_decide_eq_true h126)
      refine c_seq <| c_region <| g_v rfl r_assign <| g_v rfl r_assign <| g_nil <| d_then <| c_ret <| d_ret_then <| d_ret_block <| d_ret_then ?_
      refine d_ret_block <| d_ret_then <| d_ret_then ?_
      replace hm := nx_out (C := (fun e : ((List ByteArray) × Int) ⊕ ((List ByteArray) × Bool) => Sum.elim (fun e => m_ref03_row_j1 p0 e.1 e.2) (fun x => some x) e = some r)) hm hnx2 hr2
      replace hm : some (([] : List ByteArray), false) = some r := hm
      cases hm
      refine d_sta _ (fun W h => nilR h 28 9 1) <| d_sta _ (fun W h => ok_frontR (t := 28) (t' := 2000) h rfl) ?_
      exact d_retC (none, 0) Try.results41 (res_tmp (res_tmp (res_nil rfl))) (Nat.le_refl 0) (fun W h => (h.dropR (t := 19) rfl).phi (fun W hφ => hφ)) (.inr rfl)
     replace hm := ite_f hm (of_decide_eq_false h126)
     refine c_skip <| d_then <| c_seq <| c_region ?_
     iterate 3 refine g_v rfl r_move ?_
     refine g_v rfl (r_add rfl rfl rfl) <| g_v rfl r_move <| g_v rfl (r_add rfl rfl rfl) <| g_v rfl r_move <| g_v rfl (r_add rfl rfl rfl) ?_
     replace hm := bnd hm
     obtain ⟨s127, hs127, hm⟩ := hm
     refine g_v rfl (r_scutMid Try.underlying9 rfl rfl rfl hs127) ?_
     refine g_e rfl (e_lit (tag := 100410) (l := [s127]) (enc := (fun x : ByteArray => [Value.string x])) (sz := 1) rfl Try.underlying73 (lit9_10 _) rfl rfl (fun _ => rfl)) (fun g128 _ => ?_)
     replace hm := bnd hm
     obtain ⟨l129, hl129, hm⟩ := hm
     refine g_e rfl (e_appR (enc := (fun x : ByteArray => [Value.string x])) (l := l101) (l1 := [s127]) (l2 := l129) (tag := 19) Try.underlying73 inf9_11 rfl (by decide) (by decide) (fun _ => rfl) (fun _ => rfl) rfl hc103 rfl rfl (fun W hS => rowCl (tag := 100410) rfl W hS) hl129) (fun ⟨A130, c131⟩ hc131 => ?_)
     refine g_v rfl r_assign <| g_nil <| d_then ?_
     refine c_flat [(0, .string p0), (4, .slice A130 l129.length c131), (5, .int .i64 i104), (6, .int .i64 (w64 b124))] ⟨rfl, rfl, rfl, rfl, trivial⟩ (fun u => ?_)
     refine c_sta ⟨w0, M, H, (100410, ⟨.slice (some ⟨g128, 0, none⟩) [s127].length 1, 9, 1, [s127].length, [s127].flatMap (fun x : ByteArray => [Value.string x])⟩) :: (19, ⟨.slice A130 l129.length c131, 9, 1, l129.length, l129.flatMap (fun x : ByteArray => [Value.string x])⟩) :: R, φ⟩ (fun _ h => h) <| c_region <| g_v rfl r_move <| g_v rfl (r_add rfl rfl rfl) <| g_v rfl r_move <| g_v rfl (r_add rfl rfl rfl) <| g_v rfl r_assign <| g_nil <| d_normal_block ?_
     obtain ⟨n132, hn132, hlp⟩ := nx_inl hm hnx2
     exact d_round (n132, l129, w64 ((w64 (i104 + 1)) + (w64 b124)), A130, c131) ⟨hlp, hc131⟩ hn132 ⟨rfl, rfl, rfl, trivial⟩ (fun W h => (h.dropR (t := 100410) rfl).phi (fun W hφ => hφ))
    replace hm := ite_t hm (of_decide_eq_true h125)
    iterate 6 refine g_no rfl rfl rfl rfl rfl h125 ?_
    refine g_v rfl (r_pick1 rfl h125) <| g_nil <| d_then ?_
    refine c_flat [(0, .string p0), (4, .slice A102 l101.length c103), (5, .int .i64 i104), (6, .int .i64 (w64 b124)), (31, .bool true)] ⟨rfl, rfl, rfl, rfl, rfl, trivial⟩ (fun u => ?_)
    refine c_cond1 rfl rfl <| c_seq <| c_region <| g_v rfl r_assign <| g_v rfl r_assign <| g_nil <| d_then <| c_ret <| d_ret_then <| d_ret_block ?_
    refine d_ret_then <| d_ret_block <| d_ret_then <| d_ret_then ?_
    replace hm := nx_out (C := (fun e : ((List ByteArray) × Int) ⊕ ((List ByteArray) × Bool) => Sum.elim (fun e => m_ref03_row_j1 p0 e.1 e.2) (fun x => some x) e = some r)) hm hnx2 hr2
    replace hm : some (([] : List ByteArray), false) = some r := hm
    cases hm
    refine d_sta _ (fun W h => nilR h 29 9 1) <| d_sta _ (fun W h => ok_frontR (t := 29) (t' := 2000) h rfl) ?_
    exact d_retC (none, 0) Try.results41 (res_tmp (res_tmp (res_nil rfl))) (Nat.le_refl 0) (fun W h => (h.dropR (t := 19) rfl).phi (fun W hφ => hφ)) (.inr rfl)
   replace hm := ite_f hm (of_decide_eq_false h123)
   refine c_exit <| d_exit_then <| d_exit_then <| d_exit_block ?_
   replace hm := nx_out (C := (fun e : ((List ByteArray) × Int) ⊕ ((List ByteArray) × Bool) => Sum.elim (fun e => m_ref03_row_j1 p0 e.1 e.2) (fun x => some x) e = some r)) hm hnx2 hr2
   exact d_round (l101, i104, A102, c103) ⟨hm, hc103⟩ Nat.zero_lt_one ⟨rfl, rfl, rfl, trivial⟩ (fun W h => h.phi (fun W hφ => hφ))
  replace hm := ite_f hm (of_decide_eq_false h121)
  iterate 3 refine g_no rfl rfl rfl rfl rfl h121 ?_
  refine g_v rfl (r_pick0 rfl h121) <| g_nil <| d_then <| c_cond0 rfl rfl <| c_exit <| d_exit_then <| d_exit_then <| d_exit_block ?_
  replace hm := nx_out (C := (fun e : ((List ByteArray) × Int) ⊕ ((List ByteArray) × Bool) => Sum.elim (fun e => m_ref03_row_j1 p0 e.1 e.2) (fun x => some x) e = some r)) hm hnx2 hr2
  exact d_round (l101, i104, A102, c103) ⟨hm, hc103⟩ Nat.zero_lt_one ⟨rfl, rfl, rfl, trivial⟩ (fun W h => h.phi (fun W hφ => hφ))
 unfold m_ref03_row_j1 at hm
 refine d_flat [(0, .string p0), (4, .slice A83 l82.length c84), (5, .int .i64 i85)] ⟨rfl, rfl, rfl, trivial⟩ (fun u => ?_)
 refine d_sta ⟨w0, M, H, (19, ⟨.slice A83 l82.length c84, 9, 1, l82.length, l82.flatMap (fun x : ByteArray => [Value.string x])⟩) :: R, φ⟩ (fun _ h => h) <| d_then <| c_seq <| c_region ?_
 iterate 3 refine g_v rfl r_move ?_
 refine g_v rfl (r_len Try.underlying9 rfl) <| g_v rfl (r_sub rfl rfl rfl) <| g_v rfl (r_eql rfl rfl) <| g_v rfl r_assign <| g_v rfl r_assign <| g_nil <| d_then <| c_ret ?_
 cases hm
 refine d_sta _ (fun W h => ok_frontR (t := 19) (t' := 2000) h rfl) ?_
 exact d_retC (A83, c84) Try.results41 (res_tmp (res_tmp (res_nil rfl))) hc84 (fun W h => h.phi (fun W hφ => hφ)) (.inr rfl)
noncomputable def m_ref03_Check (p0 : ByteArray) : Option Int :=
  (m_ref03_row p0).bind fun (z7 : (List ByteArray) × Bool) =>
  if z7.2 = true then
    if 255 < (p0.size : Int) then
      some 11
    else
      some 0
  else
    some 10
theorem c_ref03_Check {w0 : World} {M : Nat → Prop} {H : List (Nat × Nat × Obj)} {R : List (Nat × Row)} {φ : World → Prop} (p0 : ByteArray) (r : Int) (hm : m_ref03_Check p0 = some r) :
    Cn Try.prog 18 #[.string p0] ⟨w0, M, H, R, φ⟩ (fun x : Unit => .int .i64 r) (fun x => True) (fun x => ⟨w0, M, H, R, φ⟩) := by
 unfold m_ref03_Check at hm
 refine cn_intro (fn := Try.f18) (N := 15) Try.func18 rfl Try.ntmps18 rfl <| c_seq <| c_region <| g_v rfl r_assign <| g_nil <| d_then <| c_seq <| c_region <| g_v rfl r_move ?_
 replace hm := bnd hm
 obtain ⟨⟨x1, x2⟩, hx3, hm⟩ := hm
 refine g_cn ⟨w0, M, _, _, φ⟩ (fun _ h => h) Try.call41 rfl rfl (c_ref03_row p0 _ hx3) (fun ⟨A4, c5⟩ hc5 => ?_)
 refine g_sta _ (fun W h => (ok_frontR (t := 2000) (t' := 100070) h rfl)) <| g_v rfl r_move <| g_v rfl (r_extract rfl rfl) <| g_v rfl (r_extract rfl rfl) <| g_v rfl r_assign <| g_v rfl r_assign <| g_nil <| d_then <| c_seq <| c_seq ?_
 refine c_region <| g_v rfl r_move <| g_v rfl (r_not rfl) <| g_nil <| d_then ?_
 refine c_flat [(0, .string p0), (11, .bool (!x2))] ⟨rfl, rfl, trivial⟩ (fun u => ?_)
 refine c_sta ⟨w0, M, H, (100070, ⟨.slice A4 x1.length c5, 9, 1, x1.length, x1.flatMap (fun x : ByteArray => [Value.string x])⟩) :: R, φ⟩ (fun _ h => h) ?_
 refine c_cond rfl (fun h8 => ?_) (fun h8 => ?_)
 ·
  have h8' : x2 = false := by revert h8; cases x2 <;> simp
  replace hm := ite_f hm (bool_nt h8')
  refine c_seq <| c_region <| g_v rfl r_assign <| g_nil <| d_then <| c_ret <| d_ret_then ?_
  cases hm
  exact d_retC () Try.results18 (res_tmp (res_nil rfl)) trivial (fun W h => ok_pre (H1 := []) (R1 := [_]) h (fun W hφ => hφ)) (.inr rfl)
 have h8' : x2 = true := by revert h8; cases x2 <;> simp
 replace hm := ite_t hm h8'
 refine c_skip <| d_then <| c_seq <| c_seq <| c_region <| g_v rfl r_move <| g_v rfl (r_len Try.underlying9 rfl) <| g_v rfl (r_gtr rfl rfl) <| g_nil <| d_then ?_
 refine c_cond rfl (fun h9 => ?_) (fun h9 => ?_)
 ·
  replace hm := ite_t hm (of_decide_eq_true h9)
  refine c_seq <| c_region <| g_v rfl r_assign <| g_nil <| d_then <| c_ret <| d_ret_then ?_
  cases hm
  exact d_retC () Try.results18 (res_tmp (res_nil rfl)) trivial (fun W h => ok_pre (H1 := []) (R1 := [_]) h (fun W hφ => hφ)) (.inr rfl)
 replace hm := ite_f hm (of_decide_eq_false h9)
 refine c_skip <| d_then <| c_seq <| c_region <| g_v rfl r_assign <| g_nil <| d_then <| c_ret ?_
 cases hm
 exact d_retC () Try.results18 (res_tmp (res_nil rfl)) trivial (fun W h => ok_pre (H1 := []) (R1 := [_]) h (fun W hφ => hφ)) (.inr rfl)
noncomputable def m_ref03_Labels (p0 : ByteArray) : Option ((List ByteArray) × Int) :=
  (m_ref03_Check p0).bind fun x1 =>
  if x1 ≠ 0 then
    some (([] : List ByteArray), x1)
  else
    (m_ref03_row p0).bind fun (z10 : (List ByteArray) × Bool) =>
    some (z10.1, 0)
theorem c_ref03_Labels {w0 : World} {M : Nat → Prop} {H : List (Nat × Nat × Obj)} {R : List (Nat × Row)} {φ : World → Prop} (p0 : ByteArray) (r : (List ByteArray) × Int) (hm : m_ref03_Labels p0 = some r) :
    Cn Try.prog 67 #[.string p0] ⟨w0, M, H, R, φ⟩ (fun x : Option Addr × Nat => .tuple #[.slice x.1 r.1.length x.2, .int .i64 r.2]) (fun x => r.1.length ≤ x.2) (fun x => ⟨w0, M, H, (2000, ⟨.slice x.1 r.1.length x.2, 9, 1, r.1.length, r.1.flatMap (fun x : ByteArray => [Value.string x])⟩) :: R, φ⟩) := by
 unfold m_ref03_Labels at hm
 refine cn_intro (fn := Try.f67) (N := 18) Try.func67 rfl Try.ntmps67 rfl <| c_seq <| c_region <| g_v rfl r_assign <| g_v rfl r_assign <| g_nil <| d_then <| c_seq <| c_region <| g_v rfl r_move ?_
 replace hm := bnd hm
 obtain ⟨x1, hx2, hm⟩ := hm
 refine g_cn ⟨w0, M, _, _, φ⟩ (fun _ h => h) Try.call18 rfl rfl (c_ref03_Check p0 _ hx2) (fun _ _ => ?_)
 refine g_v rfl r_assign <| g_nil <| d_then <| c_seq <| c_seq <| c_region <| g_v rfl r_move <| g_v rfl (r_neq rfl rfl) <| g_nil <| d_then ?_
 refine c_cond rfl (fun h3 => ?_) (fun h3 => ?_)
 ·
  replace hm := ite_t hm (of_decide_eq_true h3)
  refine c_seq <| c_region <| g_v rfl r_move <| g_v rfl r_assign <| g_v rfl r_assign <| g_nil <| d_then ?_
  refine c_flat [(2, .slice none 0 0), (3, .int .i64 x1)] ⟨rfl, rfl, trivial⟩ (fun u => ?_)
  refine c_sta ⟨w0, M, H, R, φ⟩ (fun _ h => h) <| c_ret <| d_ret_then ?_
  cases hm
  refine d_sta _ (fun W h => nilR h 11 9 1) <| d_sta _ (fun W h => ok_frontR (t := 11) (t' := 2000) h rfl) ?_
  exact d_retC (none, 0) Try.results67 (res_tmp (res_tmp (res_nil rfl))) (Nat.le_refl 0) (fun W h => h.phi (fun W hφ => hφ)) (.inr rfl)
 replace hm := ite_f hm (of_decide_eq_false h3)
 refine c_skip <| d_then <| c_seq <| c_region <| g_v rfl r_move ?_
 replace hm := bnd hm
 obtain ⟨⟨x4, x5⟩, hx6, hm⟩ := hm
 refine g_cn ⟨w0, M, _, _, φ⟩ (fun _ h => h) Try.call41 rfl rfl (c_ref03_row p0 _ hx6) (fun ⟨A7, c8⟩ hc8 => ?_)
 refine g_sta _ (fun W h => (ok_frontR (t := 2000) (t' := 100140) h rfl)) <| g_v rfl r_move <| g_v rfl (r_extract rfl rfl) <| g_v rfl (r_extract rfl rfl) <| g_v rfl r_assign <| g_v rfl r_assign <| g_nil <| d_then ?_
 refine c_flat [(5, .slice A7 x4.length c8)] ⟨rfl, trivial⟩ (fun u => ?_)
 refine c_sta ⟨w0, M, H, (100140, ⟨.slice A7 x4.length c8, 9, 1, x4.length, x4.flatMap (fun x : ByteArray => [Value.string x])⟩) :: R, φ⟩ (fun _ h => h) <| c_seq <| c_region <| g_v rfl r_move <| g_v rfl r_assign <| g_v rfl r_assign <| g_nil <| d_then <| c_ret ?_
 cases hm
 refine d_sta _ (fun W h => ok_frontR (t := 100140) (t' := 2000) h rfl) ?_
 exact d_retC (A7, c8) Try.results67 (res_tmp (res_tmp (res_nil rfl))) hc8 (fun W h => h.phi (fun W hφ => hφ)) (.inr rfl)
noncomputable def m_ref03_Lower_j1  (l55 : List Int) : Option ByteArray :=
  some (strOfNums l55)
noncomputable def m_ref03_Lower_s2 (p0 : ByteArray) (l78 : List Int) (i79 : Int) : Option (((List Int) × Int) ⊕ (List Int)) :=
  if i79 < (((bytesI p0).length) : Int) then
    (at_ l78 i79).bind fun x104 =>
    if 65 ≤ x104 then
      (at_ l78 i79).bind fun x109 =>
      if x109 ≤ 90 then
        (at_ l78 i79).bind fun x114 =>
        (at_ l78 i79).bind fun x118 =>
        (setAt l78 i79 (IntKind.u8.wrap (x114 + 32))).bind fun l122 =>
        some (.inl (l122, w64 (i79 + 1)))
      else
        some (.inl (l78, w64 (i79 + 1)))
    else
      some (.inl (l78, w64 (i79 + 1)))
  else
    some (.inr l78)
noncomputable def m_ref03_Lower (p0 : ByteArray) : Option ByteArray :=
  (loop (fun s => m_ref03_Lower_s2 p0 s.1 s.2) ((bytesI p0), 0)).bind fun e => m_ref03_Lower_j1 e
theorem c_ref03_Lower {w0 : World} {M : Nat → Prop} {H : List (Nat × Nat × Obj)} {R : List (Nat × Row)} {φ : World → Prop} (p0 : ByteArray) (r : ByteArray) (hm : m_ref03_Lower p0 = some r) :
    Cn Try.prog 68 #[.string p0] ⟨w0, M, H, R, φ⟩ (fun x : Unit => .string r) (fun x => True) (fun x => ⟨w0, M, H, R, φ⟩) := by
 unfold m_ref03_Lower at hm
 refine cn_intro (fn := Try.f68) (N := 35) Try.func68 rfl Try.ntmps68 rfl <| c_seq <| c_region <| g_v rfl r_assign <| g_nil <| d_then <| c_seq <| c_region <| g_v rfl r_move ?_
 refine g_e rfl (e_bytesH 100060 Try.underlying9 Try.underlying66 Try.underlying5 rfl) (fun ⟨g5, c6, T7⟩ hc6 => ?_)
 refine g_v rfl r_assign <| g_nil <| d_then <| c_seq <| c_seq <| c_region <| g_v rfl r_assign <| g_nil <| d_then ?_
 refine c_cut (ι := (List Int)) [3] (fun l55 => [(3, .slice (some ⟨g5, 0, none⟩) ((bytesI p0).length) c6)]) (fun l55 => ⟨w0, M, (100060, g5, rowO l55 T7 5) :: H, R, φ⟩) (fun l55 => m_ref03_Lower_j1 l55 = some r ∧ l55.length = (bytesI p0).length) ?_ (fun l55 u ⟨hm, hl55⟩ => ?_)
 ·
  refine c_block ?_
  replace hm := bnd hm
  obtain ⟨out2, hl2, hr2⟩ := hm
  obtain ⟨n102', hl2⟩ := loop_lp hl2
  refine c_loopU (ι := Nat × (List Int) × Int) [3, 4] (fun ⟨n102, l78, i79⟩ => [(3, .slice (some ⟨g5, 0, none⟩) ((bytesI p0).length) c6), (4, .int .i64 i79)]) (fun ⟨n102, l78, i79⟩ => ⟨w0, M, (100060, g5, rowO l78 T7 5) :: H, R, φ⟩) (fun ⟨n102, l78, i79⟩ => Lp (fun s => m_ref03_Lower_s2 p0 s.1 s.2) n102 (l78, i79) out2 ∧ l78.length = (bytesI p0).length) (fun ⟨n102, l78, i79⟩ => n102) (n102', (bytesI p0), 0) ⟨hl2, rfl⟩ ⟨rfl, rfl, trivial⟩ (fun W h => h.phi (fun W hφ => hφ)) (fun ⟨n102, l78, i79⟩ u ⟨hlp, hl78⟩ => ?_)
  obtain ⟨o2, hm, hnx2⟩ := lp_step hlp
  clear hlp
  replace hm : m_ref03_Lower_s2 p0 l78 i79 = some o2 := hm
  unfold m_ref03_Lower_s2 at hm
  refine c_flat [(3, .slice (some ⟨g5, 0, none⟩) ((bytesI p0).length) c6), (4, .int .i64 i79)] ⟨rfl, rfl, trivial⟩ (fun u => ?_)
  refine c_sta ⟨w0, M, (100060, g5, rowO l78 T7 5) :: H, R, φ⟩ (fun _ h => h) <| c_seq <| c_seq <| c_region <| g_v rfl r_move <| g_v rfl r_move <| g_v rfl (r_lenL Try.underlying66 rfl) <| g_v rfl (r_lss rfl rfl) <| g_nil <| d_then ?_
  refine c_cond rfl (fun h103 => ?_) (fun h103 => ?_)
  ·
   replace hm := ite_t hm (of_decide_eq_true h103)
   refine c_skip <| d_then <| c_seq <| c_block <| c_seq <| c_region <| g_v rfl r_move <| g_v rfl r_move ?_
   replace hm := bnd hm
   obtain ⟨x104, hx104, hm⟩ := hm
   refine g_know _ (fun W hS => cl_at (p := (Sta.ok ⟨w0, M, (100060, g5, rowO l78 T7 5) :: H, R, φ⟩)) (sz := 1) (fun _ => rfl) (by decide) hS (hrowCl (S := ⟨w0, M, (100060, g5, rowO l78 T7 5) :: H, R, φ⟩) (tag := 100060) rfl) hx104) ?_
   rintro ⟨ad105, hA107, f106⟩
   refine g_v rfl (r_ixN hl78 Try.underlying66 Try.sizeOf5 rfl hA107 rfl hx104) <| g_v rfl (r_ld rfl Try.isAgg5 (fun W hS => Cl.head (f106 W hS))) <| g_v rfl (r_geq rfl rfl) <| g_v rfl r_move ?_
   refine g_if rfl rfl rfl rfl rfl (fun h108 => ?_) (fun h108 => ?_)
   ·
    replace hm := ite_t hm (of_decide_eq_true h108)
    refine g_v rfl r_move <| g_do rfl rfl rfl rfl rfl h108 <| g_v rfl r_move <| g_do rfl rfl rfl rfl rfl h108 ?_
    replace hm := bnd hm
    obtain ⟨x109, hx109, hm⟩ := hm
    refine g_know _ (fun W hS => cl_at (p := (Sta.ok ⟨w0, M, (100060, g5, rowO l78 T7 5) :: H, R, φ⟩)) (sz := 1) (fun _ => rfl) (by decide) hS (hrowCl (S := ⟨w0, M, (100060, g5, rowO l78 T7 5) :: H, R, φ⟩) (tag := 100060) rfl) hx109) ?_
    rintro ⟨ad110, hA112, f111⟩
    refine g_v rfl (r_ixN hl78 Try.underlying66 Try.sizeOf5 rfl hA112 rfl hx109) <| g_do rfl rfl rfl rfl rfl h108 <| g_v rfl (r_ld rfl Try.isAgg5 (fun W hS => Cl.head (f111 W hS))) <| g_do rfl rfl rfl rfl rfl h108 <| g_v rfl (r_leq rfl rfl) <| g_v rfl (r_pick1 rfl h108) <| g_nil <| d_then ?_
    refine c_flat [(3, .slice (some ⟨g5, 0, none⟩) ((bytesI p0).length) c6), (4, .int .i64 i79), (24, .bool (decide (x109 ≤ 90)))] ⟨rfl, rfl, rfl, trivial⟩ (fun u => ?_)
    refine c_cond rfl (fun h113 => ?_) (fun h113 => ?_)
    ·
     replace hm := ite_t hm (of_decide_eq_true h113)
     refine c_region ?_
     iterate 4 refine g_v rfl r_move ?_
     replace hm := bnd hm
     obtain ⟨x114, hx114, hm⟩ := hm
     refine g_know _ (fun W hS => cl_at (p := (Sta.ok ⟨w0, M, (100060, g5, rowO l78 T7 5) :: H, R, φ⟩)) (sz := 1) (fun _ => rfl) (by decide) hS (hrowCl (S := ⟨w0, M, (100060, g5, rowO l78 T7 5) :: H, R, φ⟩) (tag := 100060) rfl) hx114) ?_
     rintro ⟨ad115, hA117, f116⟩
     refine g_v rfl (r_ixN hl78 Try.underlying66 Try.sizeOf5 rfl hA117 rfl hx114) <| g_v rfl (r_ld rfl Try.isAgg5 (fun W hS => Cl.head (f116 W hS))) <| g_v rfl (r_add rfl rfl rfl) ?_
     replace hm := bnd hm
     obtain ⟨x118, hx118, hm⟩ := hm
     refine g_know _ (fun W hS => cl_at (p := (Sta.ok ⟨w0, M, (100060, g5, rowO l78 T7 5) :: H, R, φ⟩)) (sz := 1) (fun _ => rfl) (by decide) hS (hrowCl (S := ⟨w0, M, (100060, g5, rowO l78 T7 5) :: H, R, φ⟩) (tag := 100060) rfl) hx118) ?_
     rintro ⟨ad119, hA121, f120⟩
     refine g_v rfl (r_ixN hl78 Try.underlying66 Try.sizeOf5 rfl hA121 rfl hx118) ?_
     replace hm := bnd hm
     obtain ⟨l122, hl122, hm⟩ := hm
     refine g_stH (tag := 100060) (l := l78) rfl rfl hA121 rfl hl122 rfl Try.sizeOf5 <| g_nil <| d_normal_block <| d_then ?_
     refine c_flat [(3, .slice (some ⟨g5, 0, none⟩) ((bytesI p0).length) c6), (4, .int .i64 i79)] ⟨rfl, rfl, trivial⟩ (fun u => ?_)
     refine c_sta ⟨w0, M, (100060, g5, rowO l122 T7 5) :: H, R, φ⟩ (fun _ h => h) <| c_region <| g_v rfl r_move <| g_v rfl (r_add rfl rfl rfl) <| g_v rfl r_assign <| g_nil ?_
     obtain ⟨n123, hn123, hlp⟩ := nx_inl hm hnx2
     exact d_round (n123, l122, w64 (i79 + 1)) ⟨hlp, ((setAt_lenE hl122).trans hl78)⟩ hn123 ⟨rfl, rfl, trivial⟩ (fun W h => h.phi (fun W hφ => hφ))
    replace hm := ite_f hm (of_decide_eq_false h113)
    refine c_skip <| d_normal_block <| d_then <| c_region <| g_v rfl r_move <| g_v rfl (r_add rfl rfl rfl) <| g_v rfl r_assign <| g_nil ?_
    obtain ⟨n124, hn124, hlp⟩ := nx_inl hm hnx2
    exact d_round (n124, l78, w64 (i79 + 1)) ⟨hlp, hl78⟩ hn124 ⟨rfl, rfl, trivial⟩ (fun W h => h.phi (fun W hφ => hφ))
   replace hm := ite_f hm (of_decide_eq_false h108)
   iterate 4 refine g_no rfl rfl rfl rfl rfl h108 ?_
   refine g_v rfl (r_pick0 rfl h108) <| g_nil <| d_then ?_
   refine c_flat [(3, .slice (some ⟨g5, 0, none⟩) ((bytesI p0).length) c6), (4, .int .i64 i79), (24, .bool false)] ⟨rfl, rfl, rfl, trivial⟩ (fun u => ?_)
   refine c_cond0 rfl rfl <| c_skip <| d_normal_block <| d_then <| c_region <| g_v rfl r_move <| g_v rfl (r_add rfl rfl rfl) <| g_v rfl r_assign <| g_nil ?_
   obtain ⟨n125, hn125, hlp⟩ := nx_inl hm hnx2
   exact d_round (n125, l78, w64 (i79 + 1)) ⟨hlp, hl78⟩ hn125 ⟨rfl, rfl, trivial⟩ (fun W h => h.phi (fun W hφ => hφ))
  replace hm := ite_f hm (of_decide_eq_false h103)
  refine c_exit <| d_exit_then <| d_exit_then <| d_exit_block ?_
  replace hm := nx_out (C := (fun e : (List Int) => m_ref03_Lower_j1 e = some r)) hm hnx2 hr2
  exact d_round l78 ⟨hm, hl78⟩ Nat.zero_lt_one ⟨rfl, trivial⟩ (fun W h => h.phi (fun W hφ => hφ))
 unfold m_ref03_Lower_j1 at hm
 refine d_flat [(3, .slice (some ⟨g5, 0, none⟩) ((bytesI p0).length) c6)] ⟨rfl, trivial⟩ (fun u => ?_)
 refine d_sta ⟨w0, M, (100060, g5, rowO l55 T7 5) :: H, R, φ⟩ (fun _ h => h) <| d_then <| c_seq <| c_region <| g_v rfl r_move <| g_v rfl (r_textN hl55 Try.underlying66 Try.underlying5 Try.underlying9 rfl (hrowCl (tag := 100060) rfl)) <| g_v rfl r_assign <| g_nil <| d_then <| c_ret ?_
 cases hm
 exact d_retC () Try.results68 (res_tmp (res_nil rfl)) trivial (fun W h => ok_pre (H1 := [_]) (R1 := []) h (fun W hφ => hφ)) (.inr rfl)
noncomputable def m_ref03_Shared_j1  (i107 : Int) : Option Int :=
  some i107
noncomputable def m_ref03_Shared_s2 (x1 : List ByteArray) (x8 : List ByteArray) (i152 : Int) : Option (Int ⊕ Int) :=
  if i152 < (x1.length : Int) then
    if i152 < (x8.length : Int) then
      (at_ x1 (w64 ((w64 ((x1.length : Int) - 1)) - i152))).bind fun x228 =>
      (at_ x8 (w64 ((w64 ((x8.length : Int) - 1)) - i152))).bind fun x232 =>
      (m_ref03_Lower x228).bind fun x236 =>
      (m_ref03_Lower x232).bind fun x238 =>
      if x236 = x238 then
        some (.inl (w64 (i152 + 1)))
      else
        some (.inr i152)
    else
      some (.inr i152)
  else
    some (.inr i152)
noncomputable def m_ref03_Shared (p0 : ByteArray) (p1 : ByteArray) : Option Int :=
  (m_ref03_Labels p0).bind fun (z7 : (List ByteArray) × Int) =>
  (m_ref03_Labels p1).bind fun (z14 : (List ByteArray) × Int) =>
  if z7.2 ≠ 0 then
    some (-1)
  else
    if z14.2 ≠ 0 then
      some (-1)
    else
      (loop (fun s => m_ref03_Shared_s2 z7.1 z14.1 s) 0).bind fun e => m_ref03_Shared_j1 e
theorem c_ref03_Shared {w0 : World} {M : Nat → Prop} {H : List (Nat × Nat × Obj)} {R : List (Nat × Row)} {φ : World → Prop} (p0 : ByteArray) (p1 : ByteArray) (r : Int) (hm : m_ref03_Shared p0 p1 = some r) :
    Cn Try.prog 38 #[.string p0, .string p1] ⟨w0, M, H, R, φ⟩ (fun x : Unit => .int .i64 r) (fun x => True) (fun x => ⟨w0, M, H, R, φ⟩) := by
 unfold m_ref03_Shared at hm
 refine cn_intro (fn := Try.f38) (N := 60) Try.func38 rfl Try.ntmps38 rfl <| c_seq <| c_region <| g_v rfl r_assign <| g_nil <| d_then <| c_seq <| c_region <| g_v rfl r_move ?_
 replace hm := bnd hm
 obtain ⟨⟨x1, x2⟩, hx3, hm⟩ := hm
 refine g_cn ⟨w0, M, _, _, φ⟩ (fun _ h => h) Try.call67 rfl rfl (c_ref03_Labels p0 _ hx3) (fun ⟨A4, c5⟩ hc5 => ?_)
 refine g_sta _ (fun W h => (ok_frontR (t := 2000) (t' := 100120) h rfl)) <| g_v rfl r_move <| g_v rfl (r_extract rfl rfl) <| g_v rfl (r_extract rfl rfl) <| g_v rfl r_assign <| g_v rfl r_assign <| g_nil <| d_then <| c_seq <| c_region ?_
 refine g_v rfl r_move ?_
 replace hm := bnd hm
 obtain ⟨⟨x8, x9⟩, hx10, hm⟩ := hm
 refine g_cn ⟨w0, M, _, _, φ⟩ (fun _ h => h) Try.call67 rfl rfl (c_ref03_Labels p1 _ hx10) (fun ⟨A11, c12⟩ hc12 => ?_)
 refine g_sta _ (fun W h => (ok_frontR (t := 2000) (t' := 100170) h rfl)) <| g_v rfl r_move <| g_v rfl (r_extract rfl rfl) <| g_v rfl (r_extract rfl rfl) <| g_v rfl r_assign <| g_v rfl r_assign <| g_nil <| d_then ?_
 refine c_flat [(5, .slice A4 x1.length c5), (6, .int .i64 x2), (7, .slice A11 x8.length c12), (8, .int .i64 x9)] ⟨rfl, rfl, rfl, rfl, trivial⟩ (fun u => ?_)
 refine c_sta ⟨w0, M, H, (100170, ⟨.slice A11 x8.length c12, 9, 1, x8.length, x8.flatMap (fun x : ByteArray => [Value.string x])⟩) :: (100120, ⟨.slice A4 x1.length c5, 9, 1, x1.length, x1.flatMap (fun x : ByteArray => [Value.string x])⟩) :: R, φ⟩ (fun _ h => h) <| c_seq <| c_seq <| c_region <| g_v rfl r_move <| g_v rfl (r_neq rfl rfl) <| g_v rfl r_move ?_
 refine g_if rfl rfl rfl rfl rfl (fun h15 => ?_) (fun h15 => ?_)
 ·
  replace hm := ite_f hm (of_decide_eq_false h15)
  refine g_v rfl r_move <| g_do rfl rfl rfl rfl rfl h15 <| g_v rfl (r_neq rfl rfl) <| g_v rfl (r_pick0 rfl h15) <| g_nil <| d_then ?_
  refine c_cond rfl (fun h16 => ?_) (fun h16 => ?_)
  ·
   replace hm := ite_t hm (of_decide_eq_true h16)
   refine c_seq <| c_region <| g_v rfl r_assign <| g_nil <| d_then <| c_ret <| d_ret_then ?_
   cases hm
   exact d_retC () Try.results38 (res_tmp (res_nil rfl)) trivial (fun W h => ok_pre (H1 := []) (R1 := [_, _]) h (fun W hφ => hφ)) (.inr rfl)
  replace hm := ite_f hm (of_decide_eq_false h16)
  refine c_skip <| d_then <| c_seq <| c_region <| g_v rfl r_assign <| g_nil <| d_then <| c_seq ?_
  refine c_cut (ι := Int) [9] (fun i107 => [(9, .int .i64 i107)]) (fun i107 => ⟨w0, M, H, R, φ⟩) (fun i107 => m_ref03_Shared_j1 i107 = some r) ?_ (fun i107 u hm => ?_)
  ·
   refine c_block ?_
   replace hm := bnd hm
   obtain ⟨out2, hl2, hr2⟩ := hm
   obtain ⟨n197', hl2⟩ := loop_lp hl2
   refine c_loopU (ι := Nat × Int) [5, 7, 9] (fun ⟨n197, i152⟩ => [(9, .int .i64 i152)]) (fun ⟨n197, i152⟩ => ⟨w0, M, H, (100170, ⟨.slice A11 x8.length c12, 9, 1, x8.length, x8.flatMap (fun x : ByteArray => [Value.string x])⟩) :: (100120, ⟨.slice A4 x1.length c5, 9, 1, x1.length, x1.flatMap (fun x : ByteArray => [Value.string x])⟩) :: R, φ⟩) (fun ⟨n197, i152⟩ => Lp (fun s => m_ref03_Shared_s2 x1 x8 s) n197 i152 out2) (fun ⟨n197, i152⟩ => n197) (n197', 0) hl2 ⟨rfl, rfl, rfl, trivial⟩ (fun W h => h.phi (fun W hφ => hφ)) (fun ⟨n197, i152⟩ u hlp => ?_)
   obtain ⟨o2, hm, hnx2⟩ := lp_step hlp
   clear hlp
   replace hm : m_ref03_Shared_s2 x1 x8 i152 = some o2 := hm
   unfold m_ref03_Shared_s2 at hm
   refine c_flat [(5, .slice A4 x1.length c5), (7, .slice A11 x8.length c12), (9, .int .i64 i152)] ⟨rfl, rfl, rfl, trivial⟩ (fun u => ?_)
   refine c_seq <| c_seq <| ga_start (n := 31) ⟨w0, M, H, (100170, ⟨.slice A11 x8.length c12, 9, 1, x8.length, x8.flatMap (fun x : ByteArray => [Value.string x])⟩) :: (100120, ⟨.slice A4 x1.length c5, 9, 1, x1.length, x1.flatMap (fun x : ByteArray => [Value.string x])⟩) :: R, φ⟩ [] #[false, false, false, false, false, false, false, false, false, false, false, false, false, false, false, false, false, false, false, false, false, false, false, false, false, false, false, false, false, false, false] (fun W h => h.phi (fun W hφ => hφ)) mixed rfl rfl <| ga_v (i := 0) (bz 31 1) rfl (by kernel_rfl) (fun _ _ _ _ h => h) rfl (r_move) <| ga_r (i := 1) (bz 31 3) rfl (by kernel_rfl) (by decide) rfl (r_move) <| ga_r (i := 2) (bz 31 7) rfl (by kernel_rfl) (by decide) rfl (r_lenL Try.underlying73 rfl) <| ga_r (i := 3) (bz 31 15) rfl (by kernel_rfl) (by decide) rfl (r_lss rfl rfl) <| ga_r (i := 4) (bz 31 31) rfl (by kernel_rfl) (by decide) rfl (r_move) ?_
   refine ga_if (t := 30) rfl (fun h226 => ?_) (fun h226 => ?_)
   ·
    replace hm := ite_t hm (of_decide_eq_true h226)
    refine ga_do (i := 5) (bz 31 63) rfl (by kernel_rfl) (fun _ _ _ _ h => h) rfl rfl rfl rfl rfl h226 (r_move) <| ga_rG (i := 6) (bz 31 127) rfl (by kernel_rfl) (by decide) rfl rfl rfl rfl rfl h226 (r_move) <| ga_rG (i := 7) (bz 31 255) rfl (by kernel_rfl) (by decide) rfl rfl rfl rfl rfl h226 (r_lenL Try.underlying73 rfl) <| ga_rG (i := 8) (bz 31 511) rfl (by kernel_rfl) (by decide) rfl rfl rfl rfl rfl h226 (r_lss rfl rfl) <| ga_r (i := 9) (bz 31 1023) rfl (by kernel_rfl) (by decide) rfl (r_pick1 rfl h226) <| ga_r (i := 10) (bz 31 2047) rfl (by kernel_rfl) (by decide) rfl (r_move) ?_
    refine ga_if (t := 36) rfl (fun h227 => ?_) (fun h227 => ?_)
    ·
     replace hm := ite_t hm (of_decide_eq_true h227)
     refine ga_do (i := 11) (bz 31 4095) rfl (by kernel_rfl) (fun _ _ _ _ h => h) rfl rfl rfl rfl rfl h227 (r_move) <| ga_do (i := 12) (bz 31 8191) rfl (by kernel_rfl) (fun _ _ _ _ h => h) rfl rfl rfl rfl rfl h227 (r_move) <| ga_do (i := 13) (bz 31 16383) rfl (by kernel_rfl) (fun _ _ _ _ h => h) rfl rfl rfl rfl rfl h227 (r_lenL Try.underlying73 rfl) <| ga_do (i := 14) (bz 31 32767) rfl (by kernel_rfl) (fun _ _ _ _ h => h) rfl rfl rfl rfl rfl h227 (r_sub rfl rfl rfl) <| ga_do (i := 15) (bz 31 65535) rfl (by kernel_rfl) (fun _ _ _ _ h => h) rfl rfl rfl rfl rfl h227 (r_move) <| ga_do (i := 16) (bz 31 131071) rfl (by kernel_rfl) (fun _ _ _ _ h => h) rfl rfl rfl rfl rfl h227 (r_sub rfl rfl rfl) ?_
     replace hm := bnd hm
     obtain ⟨x228, hx228, hm⟩ := hm
     refine ga_know _ (fun W hS => cl_at (p := (Sta.ok ⟨w0, M, H, (100170, ⟨.slice A11 x8.length c12, 9, 1, x8.length, x8.flatMap (fun x : ByteArray => [Value.string x])⟩) :: (100120, ⟨.slice A4 x1.length c5, 9, 1, x1.length, x1.flatMap (fun x : ByteArray => [Value.string x])⟩) :: R, φ⟩)) (sz := 1) (fun _ => rfl) (by decide) (hS.phi (fun W hφ => hφ)) (fun W hS => rowCl (S := ⟨w0, M, H, (100170, ⟨.slice A11 x8.length c12, 9, 1, x8.length, x8.flatMap (fun x : ByteArray => [Value.string x])⟩) :: (100120, ⟨.slice A4 x1.length c5, 9, 1, x1.length, x1.flatMap (fun x : ByteArray => [Value.string x])⟩) :: R, φ⟩) (tag := 100120) rfl W hS) hx228) ?_
     rintro ⟨ad229, hA231, f230⟩
     refine ga_do (i := 17) (bz 31 262143) rfl (by kernel_rfl) (fun _ _ _ _ h => h) rfl rfl rfl rfl rfl h227 (r_ix Try.underlying73 Try.sizeOf9 rfl hA231 rfl hx228) <| ga_do (i := 18) (bz 31 524287) rfl (by kernel_rfl) (fun _ _ _ _ h => h) rfl rfl rfl rfl rfl h227 (r_ld rfl Try.isAgg9 (fun W hS => Cl.head (f230 W hS))) <| ga_do (i := 20) (bz 31 1572863) rfl (by kernel_rfl) (fun _ _ _ _ h => h) rfl rfl rfl rfl rfl h227 (r_move) <| ga_do (i := 21) (bz 31 3670015) rfl (by kernel_rfl) (fun _ _ _ _ h => h) rfl rfl rfl rfl rfl h227 (r_move) <| ga_do (i := 22) (bz 31 7864319) rfl (by kernel_rfl) (fun _ _ _ _ h => h) rfl rfl rfl rfl rfl h227 (r_lenL Try.underlying73 rfl) <| ga_do (i := 23) (bz 31 16252927) rfl (by kernel_rfl) (fun _ _ _ _ h => h) rfl rfl rfl rfl rfl h227 (r_sub rfl rfl rfl) <| ga_do (i := 24) (bz 31 33030143) rfl (by kernel_rfl) (fun _ _ _ _ h => h) rfl rfl rfl rfl rfl h227 (r_move) <| ga_do (i := 25) (bz 31 66584575) rfl (by kernel_rfl) (fun _ _ _ _ h => h) rfl rfl rfl rfl rfl h227 (r_sub rfl rfl rfl) ?_
     replace hm := bnd hm
     obtain ⟨x232, hx232, hm⟩ := hm
     refine ga_know _ (fun W hS => cl_at (p := (Sta.ok ⟨w0, M, H, (100170, ⟨.slice A11 x8.length c12, 9, 1, x8.length, x8.flatMap (fun x : ByteArray => [Value.string x])⟩) :: (100120, ⟨.slice A4 x1.length c5, 9, 1, x1.length, x1.flatMap (fun x : ByteArray => [Value.string x])⟩) :: R, φ⟩)) (sz := 1) (fun _ => rfl) (by decide) (hS.phi (fun W hφ => hφ)) (fun W hS => rowCl (S := ⟨w0, M, H, (100170, ⟨.slice A11 x8.length c12, 9, 1, x8.length, x8.flatMap (fun x : ByteArray => [Value.string x])⟩) :: (100120, ⟨.slice A4 x1.length c5, 9, 1, x1.length, x1.flatMap (fun x : ByteArray => [Value.string x])⟩) :: R, φ⟩) (tag := 100170) rfl W hS) hx232) ?_
     rintro ⟨ad233, hA235, f234⟩
     refine ga_do (i := 26) (bz 31 133693439) rfl (by kernel_rfl) (fun _ _ _ _ h => h) rfl rfl rfl rfl rfl h227 (r_ix Try.underlying73 Try.sizeOf9 rfl hA235 rfl hx232) <| ga_do (i := 27) (bz 31 267911167) rfl (by kernel_rfl) (fun _ _ _ _ h => h) rfl rfl rfl rfl rfl h227 (r_ld rfl Try.isAgg9 (fun W hS => Cl.head (f234 W hS))) ?_
     replace hm := bnd hm
     obtain ⟨x236, hx237, hm⟩ := hm
     refine ga_cnG (first := #[]) (i := 19) (bz 31 268435455) rfl (by kernel_rfl) (by decide) rfl rfl rfl rfl h227  ⟨w0, M, _, _, φ⟩ (fun _ h => h) Try.call68 rfl rfl rfl (c_ref03_Lower x228 _ hx237) (fun _ W _ h => h.phi (fun W hφ => hφ)) (fun _ _ => ?_)
     replace hm := bnd hm
     obtain ⟨x238, hx239, hm⟩ := hm
     refine ga_cnG (first := #[]) (i := 28) (bz 31 536870911) rfl (by kernel_rfl) (by decide) rfl rfl rfl rfl h227  ⟨w0, M, _, _, φ⟩ (fun _ h => h) Try.call68 rfl rfl rfl (c_ref03_Lower x232 _ hx239) (fun _ W _ h => h.phi (fun W hφ => hφ)) (fun _ _ => ?_)
     refine ga_rG (i := 29) (bz 31 1073741823) rfl (by kernel_rfl) (by decide) rfl rfl rfl rfl rfl h227 (r_eqlT rfl rfl) <| ga_r (i := 30) (bz 31 2147483647) rfl (by kernel_rfl) (by decide) rfl (r_pick1 rfl h227) <| ga_done (by kernel_rfl) <| d_then ?_
     refine c_flat [(5, .slice A4 x1.length c5), (7, .slice A11 x8.length c12), (9, .int .i64 i152), (56, .bool (decide (x236 = x238)))] ⟨rfl, rfl, rfl, rfl, trivial⟩ (fun u => ?_)
     refine c_cond rfl (fun h240 => ?_) (fun h240 => ?_)
     ·
      replace hm := ite_t hm (of_decide_eq_true h240)
      refine c_skip <| d_then <| c_block <| c_region <| g_v rfl r_move <| g_v rfl (r_add rfl rfl rfl) <| g_v rfl r_assign <| g_nil <| d_normal_block ?_
      obtain ⟨n241, hn241, hlp⟩ := nx_inl hm hnx2
      exact d_round (n241, w64 (i152 + 1)) hlp hn241 ⟨rfl, rfl, rfl, trivial⟩ (fun W h => h.phi (fun W hφ => hφ))
     replace hm := ite_f hm (of_decide_eq_false h240)
     refine c_exit <| d_exit_then <| d_exit_then <| d_exit_block ?_
     replace hm := nx_out (C := (fun e : Int => m_ref03_Shared_j1 e = some r)) hm hnx2 hr2
     exact d_round i152 hm Nat.zero_lt_one ⟨rfl, trivial⟩ (fun W h => ((h.dropR (t := 100170) rfl).dropR (t := 100120) rfl).phi (fun W hφ => hφ))
    replace hm := ite_f hm (of_decide_eq_false h227)
    refine ga_no (i := 11) (bz 31 4095) rfl (by kernel_rfl) (fun _ _ _ _ h => h) rfl rfl rfl rfl rfl h227 <| ga_no (i := 12) (bz 31 8191) rfl (by kernel_rfl) (fun _ _ _ _ h => h) rfl rfl rfl rfl rfl h227 <| ga_no (i := 13) (bz 31 16383) rfl (by kernel_rfl) (fun _ _ _ _ h => h) rfl rfl rfl rfl rfl h227 <| ga_no (i := 14) (bz 31 32767) rfl (by kernel_rfl) (fun _ _ _ _ h => h) rfl rfl rfl rfl rfl h227 <| ga_no (i := 15) (bz 31 65535) rfl (by kernel_rfl) (fun _ _ _ _ h => h) rfl rfl rfl rfl rfl h227 <| ga_no (i := 16) (bz 31 131071) rfl (by kernel_rfl) (fun _ _ _ _ h => h) rfl rfl rfl rfl rfl h227 <| ga_no (i := 17) (bz 31 262143) rfl (by kernel_rfl) (fun _ _ _ _ h => h) rfl rfl rfl rfl rfl h227 <| ga_no (i := 18) (bz 31 524287) rfl (by kernel_rfl) (fun _ _ _ _ h => h) rfl rfl rfl rfl rfl h227 <| ga_no (i := 19) (bz 31 1048575) rfl (by kernel_rfl) (fun _ _ _ _ h => h) rfl rfl rfl rfl rfl h227 <| ga_no (i := 20) (bz 31 2097151) rfl (by kernel_rfl) (fun _ _ _ _ h => h) rfl rfl rfl rfl rfl h227 ?_
    refine ga_no (i := 21) (bz 31 4194303) rfl (by kernel_rfl) (fun _ _ _ _ h => h) rfl rfl rfl rfl rfl h227 <| ga_no (i := 22) (bz 31 8388607) rfl (by kernel_rfl) (fun _ _ _ _ h => h) rfl rfl rfl rfl rfl h227 <| ga_no (i := 23) (bz 31 16777215) rfl (by kernel_rfl) (fun _ _ _ _ h => h) rfl rfl rfl rfl rfl h227 <| ga_no (i := 24) (bz 31 33554431) rfl (by kernel_rfl) (fun _ _ _ _ h => h) rfl rfl rfl rfl rfl h227 <| ga_no (i := 25) (bz 31 67108863) rfl (by kernel_rfl) (fun _ _ _ _ h => h) rfl rfl rfl rfl rfl h227 <| ga_no (i := 26) (bz 31 134217727) rfl (by kernel_rfl) (fun _ _ _ _ h => h) rfl rfl rfl rfl rfl h227 <| ga_no (i := 27) (bz 31 268435455) rfl (by kernel_rfl) (fun _ _ _ _ h => h) rfl rfl rfl rfl rfl h227 <| ga_no (i := 28) (bz 31 536870911) rfl (by kernel_rfl) (fun _ _ _ _ h => h) rfl rfl rfl rfl rfl h227 <| ga_no (i := 29) (bz 31 1073741823) rfl (by kernel_rfl) (fun _ _ _ _ h => h) rfl rfl rfl rfl rfl h227 <| ga_r (i := 30) (bz 31 2147483647) rfl (by kernel_rfl) (by decide) rfl (r_pick0 rfl h227) ?_
    refine ga_done (by kernel_rfl) <| d_then ?_
    refine c_flat [(5, .slice A4 x1.length c5), (7, .slice A11 x8.length c12), (9, .int .i64 i152), (56, .bool false)] ⟨rfl, rfl, rfl, rfl, trivial⟩ (fun u => ?_)
    refine c_cond0 rfl rfl <| c_exit <| d_exit_then <| d_exit_then <| d_exit_block ?_
    replace hm := nx_out (C := (fun e : Int => m_ref03_Shared_j1 e = some r)) hm hnx2 hr2
    exact d_round i152 hm Nat.zero_lt_one ⟨rfl, trivial⟩ (fun W h => ((h.dropR (t := 100170) rfl).dropR (t := 100120) rfl).phi (fun W hφ => hφ))
   replace hm := ite_f hm (of_decide_eq_false h226)
   refine ga_no (i := 5) (bz 31 63) rfl (by kernel_rfl) (fun _ _ _ _ h => h) rfl rfl rfl rfl rfl h226 <| ga_no (i := 6) (bz 31 127) rfl (by kernel_rfl) (fun _ _ _ _ h => h) rfl rfl rfl rfl rfl h226 <| ga_no (i := 7) (bz 31 255) rfl (by kernel_rfl) (fun _ _ _ _ h => h) rfl rfl rfl rfl rfl h226 <| ga_no (i := 8) (bz 31 511) rfl (by kernel_rfl) (fun _ _ _ _ h => h) rfl rfl rfl rfl rfl h226 <| ga_r (i := 9) (bz 31 1023) rfl (by kernel_rfl) (by decide) rfl (r_pick0 rfl h226) <| ga_r (i := 10) (bz 31 2047) rfl (by kernel_rfl) (by decide) rfl (r_move) <| ga_no (i := 11) (bz 31 4095) rfl (by kernel_rfl) (fun _ _ _ _ h => h) rfl rfl rfl rfl rfl rfl <| ga_no (i := 12) (bz 31 8191) rfl (by kernel_rfl) (fun _ _ _ _ h => h) rfl rfl rfl rfl rfl rfl <| ga_no (i := 13) (bz 31 16383) rfl (by kernel_rfl) (fun _ _ _ _ h => h) rfl rfl rfl rfl rfl rfl <| ga_no (i := 14) (bz 31 32767) rfl (by kernel_rfl) (fun _ _ _ _ h => h) rfl rfl rfl rfl rfl rfl ?_
   refine ga_no (i := 15) (bz 31 65535) rfl (by kernel_rfl) (fun _ _ _ _ h => h) rfl rfl rfl rfl rfl rfl <| ga_no (i := 16) (bz 31 131071) rfl (by kernel_rfl) (fun _ _ _ _ h => h) rfl rfl rfl rfl rfl rfl <| ga_no (i := 17) (bz 31 262143) rfl (by kernel_rfl) (fun _ _ _ _ h => h) rfl rfl rfl rfl rfl rfl <| ga_no (i := 18) (bz 31 524287) rfl (by kernel_rfl) (fun _ _ _ _ h => h) rfl rfl rfl rfl rfl rfl <| ga_no (i := 19) (bz 31 1048575) rfl (by kernel_rfl) (fun _ _ _ _ h => h) rfl rfl rfl rfl rfl rfl <| ga_no (i := 20) (bz 31 2097151) rfl (by kernel_rfl) (fun _ _ _ _ h => h) rfl rfl rfl rfl rfl rfl <| ga_no (i := 21) (bz 31 4194303) rfl (by kernel_rfl) (fun _ _ _ _ h => h) rfl rfl rfl rfl rfl rfl <| ga_no (i := 22) (bz 31 8388607) rfl (by kernel_rfl) (fun _ _ _ _ h => h) rfl rfl rfl rfl rfl rfl <| ga_no (i := 23) (bz 31 16777215) rfl (by kernel_rfl) (fun _ _ _ _ h => h) rfl rfl rfl rfl rfl rfl <| ga_no (i := 24) (bz 31 33554431) rfl (by kernel_rfl) (fun _ _ _ _ h => h) rfl rfl rfl rfl rfl rfl ?_
   refine ga_no (i := 25) (bz 31 67108863) rfl (by kernel_rfl) (fun _ _ _ _ h => h) rfl rfl rfl rfl rfl rfl <| ga_no (i := 26) (bz 31 134217727) rfl (by kernel_rfl) (fun _ _ _ _ h => h) rfl rfl rfl rfl rfl rfl <| ga_no (i := 27) (bz 31 268435455) rfl (by kernel_rfl) (fun _ _ _ _ h => h) rfl rfl rfl rfl rfl rfl <| ga_no (i := 28) (bz 31 536870911) rfl (by kernel_rfl) (fun _ _ _ _ h => h) rfl rfl rfl rfl rfl rfl <| ga_no (i := 29) (bz 31 1073741823) rfl (by kernel_rfl) (fun _ _ _ _ h => h) rfl rfl rfl rfl rfl rfl <| ga_r (i := 30) (bz 31 2147483647) rfl (by kernel_rfl) (by decide) rfl (r_pick0 rfl rfl) <| ga_done (by kernel_rfl) <| d_then <| c_cond0 rfl rfl <| c_exit ?_
   refine d_exit_then <| d_exit_then <| d_exit_block ?_
   replace hm := nx_out (C := (fun e : Int => m_ref03_Shared_j1 e = some r)) hm hnx2 hr2
   exact d_round i152 hm Nat.zero_lt_one ⟨rfl, trivial⟩ (fun W h => ((h.dropR (t := 100170) rfl).dropR (t := 100120) rfl).phi (fun W hφ => hφ))
  unfold m_ref03_Shared_j1 at hm
  refine d_flat [(9, .int .i64 i107)] ⟨rfl, trivial⟩ (fun u => ?_)
  refine d_sta ⟨w0, M, H, R, φ⟩ (fun _ h => h) <| d_then <| c_seq <| c_region <| g_v rfl r_move <| g_v rfl r_assign <| g_nil <| d_then <| c_ret ?_
  cases hm
  exact d_retC () Try.results38 (res_tmp (res_nil rfl)) trivial (fun W h => ok_pre (H1 := []) (R1 := []) h (fun W hφ => hφ)) (.inr rfl)
 replace hm := ite_t hm (of_decide_eq_true h15)
 refine g_no rfl rfl rfl rfl rfl h15 <| g_v rfl (r_pick1 rfl h15) <| g_nil <| d_then <| c_cond1 rfl rfl <| c_seq <| c_region <| g_v rfl r_assign <| g_nil <| d_then ?_
 refine c_ret <| d_ret_then ?_
 cases hm
 exact d_retC () Try.results38 (res_tmp (res_nil rfl)) trivial (fun W h => ok_pre (H1 := []) (R1 := [_, _]) h (fun W hφ => hφ)) (.inr rfl)
noncomputable def m_ref03_Depth (p0 : ByteArray) : Option Int :=
  (m_ref03_Labels p0).bind fun (z7 : (List ByteArray) × Int) =>
  if z7.2 ≠ 0 then
    some (-1)
  else
    some (z7.1.length : Int)
theorem c_ref03_Depth {w0 : World} {M : Nat → Prop} {H : List (Nat × Nat × Obj)} {R : List (Nat × Row)} {φ : World → Prop} (p0 : ByteArray) (r : Int) (hm : m_ref03_Depth p0 = some r) :
    Cn Try.prog 39 #[.string p0] ⟨w0, M, H, R, φ⟩ (fun x : Unit => .int .i64 r) (fun x => True) (fun x => ⟨w0, M, H, R, φ⟩) := by
 unfold m_ref03_Depth at hm
 refine cn_intro (fn := Try.f39) (N := 14) Try.func39 rfl Try.ntmps39 rfl <| c_seq <| c_region <| g_v rfl r_assign <| g_nil <| d_then <| c_seq <| c_region <| g_v rfl r_move ?_
 replace hm := bnd hm
 obtain ⟨⟨x1, x2⟩, hx3, hm⟩ := hm
 refine g_cn ⟨w0, M, _, _, φ⟩ (fun _ h => h) Try.call67 rfl rfl (c_ref03_Labels p0 _ hx3) (fun ⟨A4, c5⟩ hc5 => ?_)
 refine g_sta _ (fun W h => (ok_frontR (t := 2000) (t' := 100070) h rfl)) <| g_v rfl r_move <| g_v rfl (r_extract rfl rfl) <| g_v rfl (r_extract rfl rfl) <| g_v rfl r_assign <| g_v rfl r_assign <| g_nil <| d_then <| c_seq <| c_seq ?_
 refine c_region <| g_v rfl r_move <| g_v rfl (r_neq rfl rfl) <| g_nil <| d_then ?_
 refine c_flat [(3, .slice A4 x1.length c5), (11, .bool (decide (x2 ≠ 0)))] ⟨rfl, rfl, trivial⟩ (fun u => ?_)
 refine c_sta ⟨w0, M, H, (100070, ⟨.slice A4 x1.length c5, 9, 1, x1.length, x1.flatMap (fun x : ByteArray => [Value.string x])⟩) :: R, φ⟩ (fun _ h => h) ?_
 refine c_cond rfl (fun h8 => ?_) (fun h8 => ?_)
 ·
  replace hm := ite_t hm (of_decide_eq_true h8)
  refine c_seq <| c_region <| g_v rfl r_assign <| g_nil <| d_then <| c_ret <| d_ret_then ?_
  cases hm
  exact d_retC () Try.results39 (res_tmp (res_nil rfl)) trivial (fun W h => ok_pre (H1 := []) (R1 := [_]) h (fun W hφ => hφ)) (.inr rfl)
 replace hm := ite_f hm (of_decide_eq_false h8)
 refine c_skip <| d_then <| c_seq <| c_region <| g_v rfl r_move <| g_v rfl (r_lenL Try.underlying73 rfl) <| g_v rfl r_assign <| g_nil <| d_then <| c_ret ?_
 cases hm
 exact d_retC () Try.results39 (res_tmp (res_nil rfl)) trivial (fun W h => ok_pre (H1 := []) (R1 := [_]) h (fun W hφ => hφ)) (.inr rfl)
noncomputable def m_ref03_Same (p0 : ByteArray) (p1 : ByteArray) : Option Bool :=
  (m_ref03_Shared p0 p1).bind fun x1 =>
  if 0 ≤ x1 then
    (m_ref03_Depth p0).bind fun x4 =>
    if x1 = x4 then
      (m_ref03_Depth p1).bind fun x7 =>
      some (decide (x1 = x7))
    else
      some false
  else
    some false
theorem c_ref03_Same {w0 : World} {M : Nat → Prop} {H : List (Nat × Nat × Obj)} {R : List (Nat × Row)} {φ : World → Prop} (p0 : ByteArray) (p1 : ByteArray) (r : Bool) (hm : m_ref03_Same p0 p1 = some r) :
    Cn Try.prog 15 #[.string p0, .string p1] ⟨w0, M, H, R, φ⟩ (fun x : Unit => .bool r) (fun x => True) (fun x => ⟨w0, M, H, R, φ⟩) := by
 unfold m_ref03_Same at hm
 refine cn_intro (fn := Try.f15) (N := 23) Try.func15 rfl Try.ntmps15 rfl <| c_seq <| c_region <| g_v rfl r_assign <| g_nil <| d_then <| c_seq <| c_region <| g_v rfl r_move <| g_v rfl r_move ?_
 replace hm := bnd hm
 obtain ⟨x1, hx2, hm⟩ := hm
 refine g_cn ⟨w0, M, _, _, φ⟩ (fun _ h => h) Try.call38 rfl rfl (c_ref03_Shared p0 p1 _ hx2) (fun _ _ => ?_)
 refine g_v rfl r_assign <| g_nil <| d_then <| c_seq <| c_region <| g_v rfl r_move <| g_v rfl (r_geq rfl rfl) <| g_v rfl r_move ?_
 refine g_if rfl rfl rfl rfl rfl (fun h3 => ?_) (fun h3 => ?_)
 ·
  replace hm := ite_t hm (of_decide_eq_true h3)
  refine g_v rfl r_move <| g_do rfl rfl rfl rfl rfl h3 <| g_v rfl r_move <| g_do rfl rfl rfl rfl rfl h3 ?_
  replace hm := bnd hm
  obtain ⟨x4, hx5, hm⟩ := hm
  refine g_cn ⟨w0, M, _, _, φ⟩ (fun _ h => h) Try.call39 rfl rfl (c_ref03_Depth p0 _ hx5) (fun _ _ => ?_)
  refine g_do rfl rfl rfl rfl rfl h3 <| g_v rfl (r_eql rfl rfl) <| g_v rfl (r_pick1 rfl h3) <| g_v rfl r_move ?_
  refine g_if rfl rfl rfl rfl rfl (fun h6 => ?_) (fun h6 => ?_)
  ·
   replace hm := ite_t hm (of_decide_eq_true h6)
   refine g_v rfl r_move <| g_do rfl rfl rfl rfl rfl h6 <| g_v rfl r_move <| g_do rfl rfl rfl rfl rfl h6 ?_
   replace hm := bnd hm
   obtain ⟨x7, hx8, hm⟩ := hm
   refine g_cn ⟨w0, M, _, _, φ⟩ (fun _ h => h) Try.call39 rfl rfl (c_ref03_Depth p1 _ hx8) (fun _ _ => ?_)
   refine g_do rfl rfl rfl rfl rfl h6 <| g_v rfl (r_eql rfl rfl) <| g_v rfl (r_pick1 rfl h6) <| g_v rfl r_assign <| g_nil <| d_then ?_
   refine c_flat [(4, .bool (decide (x1 = x7)))] ⟨rfl, trivial⟩ (fun u => ?_)
   refine c_sta ⟨w0, M, H, R, φ⟩ (fun _ h => h) <| c_ret ?_
   cases hm
   exact d_retC () Try.results15 (res_tmp (res_nil rfl)) trivial (fun W h => ok_pre (H1 := []) (R1 := []) h (fun W hφ => hφ)) (.inr rfl)
  replace hm := ite_f hm (of_decide_eq_false h6)
  iterate 3 refine g_no rfl rfl rfl rfl rfl h6 ?_
  refine g_v rfl (r_pick0 rfl h6) <| g_v rfl r_assign <| g_nil <| d_then ?_
  refine c_flat [(4, .bool false)] ⟨rfl, trivial⟩ (fun u => ?_)
  refine c_sta ⟨w0, M, H, R, φ⟩ (fun _ h => h) <| c_ret ?_
  cases hm
  exact d_retC () Try.results15 (res_tmp (res_nil rfl)) trivial (fun W h => ok_pre (H1 := []) (R1 := []) h (fun W hφ => hφ)) (.inr rfl)
 replace hm := ite_f hm (of_decide_eq_false h3)
 iterate 3 refine g_no rfl rfl rfl rfl rfl h3 ?_
 refine g_v rfl (r_pick0 rfl h3) <| g_v rfl r_move ?_
 iterate 4 refine g_no rfl rfl rfl rfl rfl rfl ?_
 refine g_v rfl (r_pick0 rfl rfl) <| g_v rfl r_assign <| g_nil <| d_then ?_
 refine c_flat [(4, .bool false)] ⟨rfl, trivial⟩ (fun u => ?_)
 refine c_sta ⟨w0, M, H, R, φ⟩ (fun _ h => h) <| c_ret ?_
 cases hm
 exact d_retC () Try.results15 (res_tmp (res_nil rfl)) trivial (fun W h => ok_pre (H1 := []) (R1 := []) h (fun W hφ => hφ)) (.inr rfl)
noncomputable def m_law18_AuthParts_j2 (x2 : Bool) (x104 : GMessage) (i248 : Int) : Option Bool :=
  if x2 = true then
    if x104.fCode = 0 then
      if x104.fAuthoritative = true then
        some (decide (i248 = (x104.fAnswers.length : Int)))
      else
        some false
    else
      some false
  else
    some false
noncomputable def m_law18_AuthParts_s3 (x27 : GZone) (x7 : List GZone) (x82 : GRR) (x104 : GMessage) (i290 : Int) (i291 : Int) : Option ((Int × Int) ⊕ (Int ⊕ Bool)) :=
  if i291 < (x27.fRecords.length : Int) then
    (at_ x7 0).bind fun x332 =>
    (at_ x332.fRecords i291).bind fun x342 =>
    (m_ref03_Same x342.fName x82.fName).bind fun x347 =>
    if x347 = true then
      if x342.fType = x82.fType then
        if (x104.fAnswers.length : Int) ≤ i290 then
          some (.inr (.inr false))
        else
          (at_ x104.fAnswers i290).bind fun x362 =>
          if x362 = x342 then
            some (.inl (w64 (i290 + 1), w64 (i291 + 1)))
          else
            some (.inr (.inr false))
      else
        some (.inl (i290, w64 (i291 + 1)))
    else
      some (.inl (i290, w64 (i291 + 1)))
  else
    some (.inr (.inl i290))
noncomputable def m_law18_AuthParts_j1 (x7 : List GZone) (x27 : GZone) (x2 : Bool) (i38 : Int) : Option Bool :=
  (at_ x7 0).bind fun x71 =>
  (dvd (x27.fRecords.length : Int)).bind fun u81 =>
  (at_ x71.fRecords (i38.tmod (x27.fRecords.length : Int))).bind fun x82 =>
  (m_message_Query 1 (⟨x82.fName, x82.fType, 1⟩ : GQuestion)).bind fun x87 =>
  (m_auth_Answer x7 x87).bind fun x104 =>
  (at_ x7 0).bind fun x146 =>
  (m_auth_Below x146 x82.fName).bind fun (z158 : ByteArray × Bool) =>
  if z158.2 = true then
    if x2 = true then
      if x104.fCode = 0 then
        if (x104.fAnswers.length : Int) = 0 then
          if 0 < (x104.fAuthorities.length : Int) then
            (at_ x104.fAuthorities 0).bind fun x164 =>
            some (decide (x164.fType = 2))
          else
            some false
        else
          some false
      else
        some false
    else
      some false
  else
    (loop (fun s => m_law18_AuthParts_s3 x27 x7 x82 x104 s.1 s.2) (0, 0)).bind fun e => Sum.elim (fun e => m_law18_AuthParts_j2 x2 x104 e) (fun x => some x) e
noncomputable def m_law18_AuthParts (p0 : GZone) (p1 : Int) : Option Bool :=
  (m_law18_awake).bind fun x2 =>
  (m_law18_small [p0]).bind fun x7 =>
  (at_ x7 0).bind fun x15 =>
  (m_auth_Check x15).bind fun x24 =>
  if x24 ≠ 0 then
    some x2
  else
    (at_ x7 0).bind fun x27 =>
    if p1 < 0 then
      m_law18_AuthParts_j1 x7 x27 x2 (w64 (0 - w64 (p1 + 1)))
    else
      m_law18_AuthParts_j1 x7 x27 x2 p1
theorem c_law18_AuthParts {w0 : World} {M : Nat → Prop} {H : List (Nat × Nat × Obj)} {R : List (Nat × Row)} {φ : World → Prop} (p0 : GZone) (Ap0_0 : Option Addr) (cp0_0 : Nat) (hcp0_0 : p0.fRecords.length ≤ cp0_0) (fp0_0 : ∀ W, φ W → Cl W Ap0_0 (p0.fRecords.flatMap GRR.enc)) (p1 : Int) (r : Bool) (hm : m_law18_AuthParts p0 p1 = some r) :
    Cn Try.prog 4 #[.agg #[.string p0.fApex, .slice Ap0_0 p0.fRecords.length cp0_0], .int .i64 p1] ⟨w0, M, H, R, φ⟩ (fun x : Unit => .bool r) (fun x => True) (fun x => ⟨w0, M, H, R, φ⟩) := by
 unfold m_law18_AuthParts at hm
 refine cn_intro (fn := Try.f4) (N := 149) Try.func4 rfl Try.ntmps4 rfl <| c_seq <| c_region ?_
 refine g_e rfl (e_box 100020 rfl) (fun g1 _ => ?_)
 refine g_v rfl r_assign <| g_nil <| d_then <| c_seq <| c_region ?_
 replace hm := bnd hm
 obtain ⟨x2, hx3, hm⟩ := hm
 refine g_cn ⟨w0, M, _, _, φ⟩ (fun _ h => h) Try.call7 rfl rfl (c_law18_awake  _ hx3) (fun _ _ => ?_)
 refine g_v rfl r_assign <| g_nil <| d_then <| c_seq <| c_region <| g_v rfl (r_loadA (tag := 100020) rfl rfl Try.isAgg33 Try.sizeOf33 rfl rfl) ?_
 have hk5 := (DOk.cons (cap := GZone.capP) (x := p0) (p := (⟨Ap0_0, cp0_0⟩ : GZoneP)) (hcp0_0) DOk.nil)
 have f6 := fun (W : World) (h : φ W) => (DOwn.cons (own := GZone.ownP) (x := p0) (p := (⟨Ap0_0, cp0_0⟩ : GZoneP)) (fp0_0 W h) DOwn.nil)
 refine g_e rfl (e_litD (tag := 100190) (enc := GZone.encP) (sz := 2) hk5 rfl Try.underlying35 (lit33_4 _ _ _ _) rfl rfl (fun _ => rfl)) (fun g4 _ => ?_)
 replace hm := bnd hm
 obtain ⟨x7, hx8, hm⟩ := hm
 refine g_cn ⟨w0, M, _, _, φ⟩ (fun _ h => h) Try.call11 rfl rfl (c_law18_small [p0] (some ⟨g4, 0, none⟩) 1 [(⟨Ap0_0, cp0_0⟩ : GZoneP)] ⟨hk5, (Nat.le_refl _)⟩ (fun W hS => rowCl (tag := 100190) rfl W hS) (fun W hS => (f6 W hS.now)) _ hx8) (fun ⟨A9, c10, ps12⟩ hc10 => ?_)
 refine g_sta _ (fun W h => (ok_frontR (t := 2000) (t' := 100200) h rfl)) ?_
 refine g_abs (fun φ14 q14' => ?_)
 have q14 : ∀ W, φ14 W → φ W := fun W h => (q14' W h).1
 have f13 := fun (W : World) (h : φ14 W) => (q14' W h).2
 refine g_v rfl r_assign <| g_nil <| d_then <| c_seq <| c_seq <| c_region <| g_v rfl r_move ?_
 replace hm := bnd hm
 obtain ⟨x15, hx15, hm⟩ := hm
 obtain ⟨pp19, hv20, hz21, hcp22⟩ := DOk.at_ hc10.1 hx15
 refine g_know _ (fun W hS => cl_at (p := (Sta.ok ⟨w0, M, (100020, g1, .cells #[.string p0.fApex, .slice Ap0_0 p0.fRecords.length cp0_0] 33 (0, 0)) :: H, (100200, ⟨.slice A9 x7.length c10, 33, 2, x7.length, (x7.zip ps12).flatMap GZone.encP⟩) :: (100190, ⟨.slice (some ⟨g4, 0, none⟩) [p0].length 1, 33, 2, [p0].length, ([p0].zip [(⟨Ap0_0, cp0_0⟩ : GZoneP)]).flatMap GZone.encP⟩) :: R, φ14⟩)) (sz := 2) (fun _ => rfl) (by decide) hS (fun W hS => rowCl (S := ⟨w0, M, (100020, g1, .cells #[.string p0.fApex, .slice Ap0_0 p0.fRecords.length cp0_0] 33 (0, 0)) :: H, (100200, ⟨.slice A9 x7.length c10, 33, 2, x7.length, (x7.zip ps12).flatMap GZone.encP⟩) :: (100190, ⟨.slice (some ⟨g4, 0, none⟩) [p0].length 1, 33, 2, [p0].length, ([p0].zip [(⟨Ap0_0, cp0_0⟩ : GZoneP)]).flatMap GZone.encP⟩) :: R, φ14⟩) (tag := 100200) rfl W hS) hv20) ?_
 rintro ⟨ad16, hA18, f17⟩
 have f23 := fun (W : World) (h : φ14 W) => (f13 W h _ hz21)
 refine g_v rfl (r_ix Try.underlying35 Try.sizeOf33 rfl hA18 rfl hx15) <| g_v rfl (r_ldA rfl Try.isAgg33 Try.sizeOf33 (fun W hS => (f17 W hS).take 2) rfl) ?_
 replace hm := bnd hm
 obtain ⟨x24, hx25, hm⟩ := hm
 refine g_cn ⟨w0, M, _, _, φ14⟩ (fun _ h => h) Try.call12 rfl rfl (c_auth_Check x15 pp19.pA0 pp19.pC0 hcp22 (fun W h => f23 W h) _ hx25) (fun _ _ => ?_)
 refine g_v rfl (r_neq rfl rfl) <| g_nil <| d_then ?_
 refine c_flat [(1, .int .i64 p1), (5, .bool x2), (6, .slice A9 x7.length c10), (25, .bool (decide (x24 ≠ 0)))] ⟨rfl, rfl, rfl, rfl, trivial⟩ (fun u => ?_)
 refine c_sta ⟨w0, M, (100020, g1, .cells #[.string p0.fApex, .slice Ap0_0 p0.fRecords.length cp0_0] 33 (0, 0)) :: H, (100200, ⟨.slice A9 x7.length c10, 33, 2, x7.length, (x7.zip ps12).flatMap GZone.encP⟩) :: (100190, ⟨.slice (some ⟨g4, 0, none⟩) [p0].length 1, 33, 2, [p0].length, ([p0].zip [(⟨Ap0_0, cp0_0⟩ : GZoneP)]).flatMap GZone.encP⟩) :: R, φ14⟩ (fun _ h => h) ?_
 refine c_cond rfl (fun h26 => ?_) (fun h26 => ?_)
 ·
  replace hm := ite_t hm (of_decide_eq_true h26)
  refine c_seq <| c_region <| g_v rfl r_move <| g_v rfl r_assign <| g_nil <| d_then <| c_ret <| d_ret_then ?_
  cases hm
  exact d_retC () Try.results4 (res_tmp (res_nil rfl)) trivial (fun W h => ok_pre (H1 := [_]) (R1 := [_, _]) h (fun W hφ => (q14 _ hφ))) (.inr rfl)
 replace hm := ite_f hm (of_decide_eq_false h26)
 refine c_skip <| d_then <| c_seq <| c_region <| g_v rfl r_move ?_
 replace hm := bnd hm
 obtain ⟨x27, hx27, hm⟩ := hm
 obtain ⟨pp31, hv32, hz33, hcp34⟩ := DOk.at_ hc10.1 hx27
 refine g_know _ (fun W hS => cl_at (p := (Sta.ok ⟨w0, M, (100020, g1, .cells #[.string p0.fApex, .slice Ap0_0 p0.fRecords.length cp0_0] 33 (0, 0)) :: H, (100200, ⟨.slice A9 x7.length c10, 33, 2, x7.length, (x7.zip ps12).flatMap GZone.encP⟩) :: (100190, ⟨.slice (some ⟨g4, 0, none⟩) [p0].length 1, 33, 2, [p0].length, ([p0].zip [(⟨Ap0_0, cp0_0⟩ : GZoneP)]).flatMap GZone.encP⟩) :: R, φ14⟩)) (sz := 2) (fun _ => rfl) (by decide) hS (fun W hS => rowCl (S := ⟨w0, M, (100020, g1, .cells #[.string p0.fApex, .slice Ap0_0 p0.fRecords.length cp0_0] 33 (0, 0)) :: H, (100200, ⟨.slice A9 x7.length c10, 33, 2, x7.length, (x7.zip ps12).flatMap GZone.encP⟩) :: (100190, ⟨.slice (some ⟨g4, 0, none⟩) [p0].length 1, 33, 2, [p0].length, ([p0].zip [(⟨Ap0_0, cp0_0⟩ : GZoneP)]).flatMap GZone.encP⟩) :: R, φ14⟩) (tag := 100200) rfl W hS) hv32) ?_
 rintro ⟨ad28, hA30, f29⟩
 have f35 := fun (W : World) (h : φ14 W) => (f13 W h _ hz33)
 refine g_v rfl (r_ix Try.underlying35 Try.sizeOf33 rfl hA30 rfl hx27) ?_
 have f36 := fun (W : World) (h : (Sta.ok ⟨w0, M, (100020, g1, .cells #[.string p0.fApex, .slice Ap0_0 p0.fRecords.length cp0_0] 33 (0, 0)) :: H, (100200, ⟨.slice A9 x7.length c10, 33, 2, x7.length, (x7.zip ps12).flatMap GZone.encP⟩) :: (100190, ⟨.slice (some ⟨g4, 0, none⟩) [p0].length 1, 33, 2, [p0].length, ([p0].zip [(⟨Ap0_0, cp0_0⟩ : GZoneP)]).flatMap GZone.encP⟩) :: R, φ14⟩) W) => Cl.drop (f29 W h) 1
 refine g_v rfl (r_fieldF Try.underlying33 rfl Try.sizeOf24 rfl) <| g_v rfl (r_ld rfl Try.isAgg24 (fun W hS => Cl.head (f36 W hS))) <| g_v rfl (r_lenL Try.underlying24 rfl) <| g_v rfl r_assign <| g_nil <| d_then <| c_seq <| c_region <| g_v rfl r_move <| g_v rfl r_assign ?_
 refine g_nil <| d_then <| c_seq ?_
 refine c_cut (ι := Int) [5, 6, 7, 8] (fun i38 => [(8, .int .i64 i38)]) (fun i38 => ⟨w0, M, H, (100200, ⟨.slice A9 x7.length c10, 33, 2, x7.length, (x7.zip ps12).flatMap GZone.encP⟩) :: R, φ14⟩) (fun i38 => m_law18_AuthParts_j1 x7 x27 x2 i38 = some r) ?_ (fun i38 u hm => ?_)
 ·
  refine c_seq <| c_region <| g_v rfl r_move <| g_v rfl (r_lss rfl rfl) <| g_nil <| d_then ?_
  refine c_flat [(5, .bool x2), (6, .slice A9 x7.length c10), (7, .int .i64 (x27.fRecords.length : Int)), (8, .int .i64 p1), (34, .bool (decide (p1 < 0)))] ⟨rfl, rfl, rfl, rfl, rfl, trivial⟩ (fun u => ?_)
  refine c_cond rfl (fun h370 => ?_) (fun h370 => ?_)
  ·
   replace hm := ite_t hm (of_decide_eq_true h370)
   refine c_region <| g_v rfl r_move <| g_v rfl (r_add rfl rfl rfl) <| g_v rfl (r_neg rfl rfl) <| g_v rfl r_assign <| g_nil ?_
   exact d_round (w64 (0 - w64 (p1 + 1))) hm Nat.zero_lt_one ⟨rfl, rfl, rfl, rfl, trivial⟩ (fun W h => ((h.dropR (t := 100190) rfl).dropH (t := 100020) rfl).phi (fun W hφ => hφ))
  replace hm := ite_f hm (of_decide_eq_false h370)
  refine c_skip ?_
  exact d_round p1 hm Nat.zero_lt_one ⟨rfl, rfl, rfl, rfl, trivial⟩ (fun W h => ((h.dropR (t := 100190) rfl).dropH (t := 100020) rfl).phi (fun W hφ => hφ))
 unfold m_law18_AuthParts_j1 at hm
 refine d_flat [(5, .bool x2), (6, .slice A9 x7.length c10), (7, .int .i64 (x27.fRecords.length : Int)), (8, .int .i64 i38)] ⟨rfl, rfl, rfl, rfl, trivial⟩ (fun u => ?_)
 refine d_sta ⟨w0, M, H, (100200, ⟨.slice A9 x7.length c10, 33, 2, x7.length, (x7.zip ps12).flatMap GZone.encP⟩) :: R, φ14⟩ (fun _ h => h) <| d_then <| c_seq <| ga_start (n := 11) ⟨w0, M, H, (100200, ⟨.slice A9 x7.length c10, 33, 2, x7.length, (x7.zip ps12).flatMap GZone.encP⟩) :: R, φ14⟩ [10] #[false, false, false, false, false, false, false, false, false, false, false] (fun W h => h.phi (fun W hφ => hφ)) mixed rfl rfl <| ga_v (i := 0) (bz 11 1) rfl (by kernel_rfl) (fun _ _ _ _ h => h) rfl (r_move) ?_
 replace hm := bnd hm
 obtain ⟨x71, hx71, hm⟩ := hm
 obtain ⟨pp75, hv76, hz77, hcp78⟩ := DOk.at_ hc10.1 hx71
 refine ga_know _ (fun W hS => cl_at (p := (Sta.ok ⟨w0, M, H, (100200, ⟨.slice A9 x7.length c10, 33, 2, x7.length, (x7.zip ps12).flatMap GZone.encP⟩) :: R, φ14⟩)) (sz := 2) (fun _ => rfl) (by decide) (hS.phi (fun W hφ => hφ)) (fun W hS => rowCl (S := ⟨w0, M, H, (100200, ⟨.slice A9 x7.length c10, 33, 2, x7.length, (x7.zip ps12).flatMap GZone.encP⟩) :: R, φ14⟩) (tag := 100200) rfl W hS) hv76) ?_
 rintro ⟨ad72, hA74, f73⟩
 have f79 := fun (W : World) (h : φ14 W) => (f13 W h _ hz77)
 refine ga_v (i := 1) (bz 11 3) rfl (by kernel_rfl) (fun _ _ _ _ h => h) rfl (r_ix Try.underlying35 Try.sizeOf33 rfl hA74 rfl hx71) ?_
 have f80 := fun (W : World) (h : (Sta.ok ⟨w0, M, H, (100200, ⟨.slice A9 x7.length c10, 33, 2, x7.length, (x7.zip ps12).flatMap GZone.encP⟩) :: R, φ14⟩) W) => Cl.drop (f73 W h) 1
 refine ga_v (i := 2) (bz 11 7) rfl (by kernel_rfl) (fun _ _ _ _ h => h) rfl (r_fieldF Try.underlying33 rfl Try.sizeOf24 rfl) <| ga_v (i := 3) (bz 11 15) rfl (by kernel_rfl) (fun _ _ _ _ h => h) rfl (r_ld rfl Try.isAgg24 (fun W hS => Cl.head (f80 W hS))) <| ga_v (i := 4) (bz 11 31) rfl (by kernel_rfl) (fun _ _ _ _ h => h) rfl (r_move) <| ga_v (i := 5) (bz 11 63) rfl (by kernel_rfl) (fun _ _ _ _ h => h) rfl (r_move) ?_
 replace hm := bnd hm
 obtain ⟨u81, hu81, hm⟩ := hm
 refine ga_v (i := 6) (bz 11 127) rfl (by kernel_rfl) (fun _ _ _ _ h => h) rfl (r_rem rfl rfl (dvd_some hu81) rfl) ?_
 replace hm := bnd hm
 obtain ⟨x82, hx82, hm⟩ := hm
 refine ga_know _ (fun W hS => cl_at (p := φ14) (sz := 5) (fun _ => rfl) (by decide) hS.now f79 hx82) ?_
 rintro ⟨ad83, hA85, f84⟩
 refine ga_v (i := 7) (bz 11 255) rfl (by kernel_rfl) (fun _ _ _ _ h => h) rfl (r_ix Try.underlying24 Try.sizeOf42 rfl hA85 rfl hx82) <| ga_v (i := 8) (bz 11 511) rfl (by kernel_rfl) (fun _ _ _ _ h => h) rfl (r_ldA rfl Try.isAgg42 Try.sizeOf42 (fun W hS => (f84 W hS.now).take 5) rfl) ?_
 refine ga_e (i := 9) (bz 11 1023) rfl (by kernel_rfl) (by decide) rfl  (e_alloc 100090 Try.zeroValue42) (fun g86 W _ h => (h.dropH (t := 100090) rfl).phi (fun W hφ => hφ)) (fun g86 _ => ?_)
 refine ga_lastL (i := 10) (tag := 100090) (bz 11 2047) rfl (by kernel_rfl) (by decide) rfl rfl rfl rfl Try.sizeOf42 rfl rfl <| gz_done (by kernel_rfl) <| d_then ?_
 refine c_flat [(5, .bool x2), (6, .slice A9 x7.length c10), (7, .int .i64 (x27.fRecords.length : Int)), (9, .pointer (some ⟨g86, 0, none⟩))] ⟨rfl, rfl, rfl, rfl, trivial⟩ (fun u => ?_)
 refine c_sta ⟨w0, M, (100090, g86, .cells #[.string x82.fName, .int .u16 x82.fType, .int .u16 x82.fClass, .int .u32 x82.fTTL, .string x82.fData] 42 (0, 0)) :: H, (100200, ⟨.slice A9 x7.length c10, 33, 2, x7.length, (x7.zip ps12).flatMap GZone.encP⟩) :: R, φ14⟩ (fun _ h => h) <| c_seq <| c_region <| g_v rfl r_move <| g_v rfl (r_field (n := 0) Try.underlying42 rfl Try.sizeOf9 rfl rfl) <| g_v rfl (r_load (tag := 100090) rfl rfl rfl Try.isAgg9) <| g_v rfl (r_field (n := 1) Try.underlying42 rfl Try.sizeOf22 rfl rfl) <| g_v rfl (r_load (tag := 100090) rfl rfl rfl Try.isAgg22) <| g_v rfl (r_build _ rfl (bld29_5 _ _ _)) ?_
 replace hm := bnd hm
 obtain ⟨x87, hx88, hm⟩ := hm
 refine g_cn ⟨w0, M, _, _, φ14⟩ (fun _ h => h) Try.call13 rfl rfl (c_message_Query 1 (⟨x82.fName, x82.fType, 1⟩ : GQuestion) _ hx88) (fun ⟨A89, c90, A92, c93, A95, c96, A98, c99⟩ ⟨hc90, hc93, hc96, hc99⟩ => ?_)
 refine g_abs (fun φ101 q101' => ?_)
 have q101 : ∀ W, φ101 W → φ14 W := fun W h => (q101' W h).1
 have f91 := fun (W : World) (h : φ101 W) => (q101' W h).2.1
 have f94 := fun (W : World) (h : φ101 W) => (q101' W h).2.2.1
 have f97 := fun (W : World) (h : φ101 W) => (q101' W h).2.2.2.1
 have f100 := fun (W : World) (h : φ101 W) => (q101' W h).2.2.2.2
 refine g_shut (tag := 100200) rfl (fun φ102 q102' => ?_)
 have q102 : ∀ W, φ102 W → φ101 W := fun W h => (q102' W h).1
 have f103 := fun (W : World) (h : φ102 W) => (q102' W h).2
 replace hm := bnd hm
 obtain ⟨x104, hx105, hm⟩ := hm
 refine g_cn ⟨w0, M, _, _, φ102⟩ (fun _ h => h) Try.call9 rfl rfl (c_auth_Answer x7 A9 c10 ps12 ⟨hc10.1, hc10.2⟩ (fun W h => f103 W h) (fun W h => (f13 W (q101 _ (q102 _ h)))) x87 A89 c90 hc90 (fun W hS => f91 W (q102 _ hS.now)) A92 c93 hc93 (fun W hS => f94 W (q102 _ hS.now)) A95 c96 hc96 (fun W hS => f97 W (q102 _ hS.now)) A98 c99 hc99 (fun W hS => f100 W (q102 _ hS.now)) _ hx105) (fun ⟨A106, c107, A109, c110, A112, c113, A115, c116⟩ ⟨hc107, hc110, hc113, hc116⟩ => ?_)
 refine g_abs (fun φ118 q118' => ?_)
 have q118 : ∀ W, φ118 W → φ102 W := fun W h => (q118' W h).1
 have f108 := fun (W : World) (h : φ118 W) => (q118' W h).2.1
 have f111 := fun (W : World) (h : φ118 W) => (q118' W h).2.2.1
 have f114 := fun (W : World) (h : φ118 W) => (q118' W h).2.2.2.1
 have f117 := fun (W : World) (h : φ118 W) => (q118' W h).2.2.2.2
 refine g_e rfl (e_alloc 100100 Try.zeroValue26) (fun g119 _ => ?_)
 refine g_storeL (tag := 100100) rfl rfl rfl rfl Try.sizeOf26 rfl rfl <| g_nil <| d_then ?_
 refine c_flat [(5, .bool x2), (6, .slice A9 x7.length c10), (7, .int .i64 (x27.fRecords.length : Int)), (9, .pointer (some ⟨g86, 0, none⟩)), (10, .pointer (some ⟨g119, 0, none⟩))] ⟨rfl, rfl, rfl, rfl, rfl, trivial⟩ (fun u => ?_)
 refine c_sta ⟨w0, M, (100100, g119, .cells #[.int .u16 x104.fID, .bool x104.fResponse, .bool x104.fAuthoritative, .bool x104.fTruncated, .bool x104.fDesired, .bool x104.fAvailable, .int .i64 x104.fOpcode, .int .i64 x104.fCode, .slice A106 x104.fQuestions.length c107, .slice A109 x104.fAnswers.length c110, .slice A112 x104.fAuthorities.length c113, .slice A115 x104.fExtras.length c116] 26 (0, 0)) :: (100090, g86, .cells #[.string x82.fName, .int .u16 x82.fType, .int .u16 x82.fClass, .int .u32 x82.fTTL, .string x82.fData] 42 (0, 0)) :: H, R, φ118⟩ (fun _ h => h) <| c_seq <| ga_start (n := 11) ⟨w0, M, (100100, g119, .cells #[.int .u16 x104.fID, .bool x104.fResponse, .bool x104.fAuthoritative, .bool x104.fTruncated, .bool x104.fDesired, .bool x104.fAvailable, .int .i64 x104.fOpcode, .int .i64 x104.fCode, .slice A106 x104.fQuestions.length c107, .slice A109 x104.fAnswers.length c110, .slice A112 x104.fAuthorities.length c113, .slice A115 x104.fExtras.length c116] 26 (0, 0)) :: (100090, g86, .cells #[.string x82.fName, .int .u16 x82.fType, .int .u16 x82.fClass, .int .u32 x82.fTTL, .string x82.fData] 42 (0, 0)) :: H, R, φ118⟩ [] #[false, false, false, false, false, false, false, false, false, false, false] (fun W h => h.phi (fun W hφ => hφ)) mixed rfl rfl <| ga_v (i := 0) (bz 11 1) rfl (by kernel_rfl) (fun _ _ _ _ h => h) rfl (r_move) ?_
 replace hm := bnd hm
 obtain ⟨x146, hx146, hm⟩ := hm
 obtain ⟨pp150, hv151, hz152, hcp153⟩ := DOk.at_ hc10.1 hx146
 refine ga_know _ (fun W hS => cl_at (p := φ102) (sz := 2) (fun _ => rfl) (by decide) (q118 _ hS.now) f103 hv151) ?_
 rintro ⟨ad147, hA149, f148⟩
 have f154 := fun (W : World) (h : φ14 W) => (f13 W h _ hz152)
 refine ga_v (i := 1) (bz 11 3) rfl (by kernel_rfl) (fun _ _ _ _ h => h) rfl (r_ix Try.underlying35 Try.sizeOf33 rfl hA149 rfl hx146) <| ga_v (i := 2) (bz 11 7) rfl (by kernel_rfl) (fun _ _ _ _ h => h) rfl (r_ldA rfl Try.isAgg33 Try.sizeOf33 (fun W hS => (f148 W (q118 _ hS.now)).take 2) rfl) <| ga_r (i := 3) (bz 11 15) rfl (by kernel_rfl) (by decide) rfl (r_field (n := 0) Try.underlying42 rfl Try.sizeOf9 rfl rfl) <| ga_r (i := 4) (bz 11 31) rfl (by kernel_rfl) (by decide) rfl (r_load (tag := 100090) rfl rfl rfl Try.isAgg9) ?_
 replace hm := bnd hm
 obtain ⟨⟨x155, x156⟩, hx157, hm⟩ := hm
 refine ga_cn (first := #[]) (i := 5) (bz 11 63) rfl (by kernel_rfl) (by decide)  ⟨w0, M, _, _, φ118⟩ (fun _ h => h) Try.call14 rfl rfl rfl (c_auth_Below x146 pp150.pA0 pp150.pC0 hcp153 (fun W hS => f154 W (q101 _ (q102 _ (q118 _ hS.now)))) x82.fName _ hx157) (fun _ W _ h => h.phi (fun W hφ => hφ)) (fun _ _ => ?_)
 refine ga_r (i := 6) (bz 11 127) rfl (by kernel_rfl) (by decide) rfl (r_move) <| ga_v (i := 7) (bz 11 255) rfl (by kernel_rfl) (fun _ _ _ _ h => h) rfl (r_extract rfl rfl) <| ga_v (i := 8) (bz 11 511) rfl (by kernel_rfl) (fun _ _ _ _ h => h) rfl (r_extract rfl rfl) <| ga_r (i := 9) (bz 11 1023) rfl (by kernel_rfl) (by decide) rfl (r_assign) <| ga_r (i := 10) (bz 11 2047) rfl (by kernel_rfl) (by decide) rfl (r_assign) <| ga_done (by kernel_rfl) <| d_then ?_
 refine c_flat [(5, .bool x2), (6, .slice A9 x7.length c10), (7, .int .i64 (x27.fRecords.length : Int)), (9, .pointer (some ⟨g86, 0, none⟩)), (10, .pointer (some ⟨g119, 0, none⟩)), (12, .bool x156)] ⟨rfl, rfl, rfl, rfl, rfl, rfl, trivial⟩ (fun u => ?_)
 refine c_seq <| c_seq <| c_region <| g_v rfl r_move <| g_nil <| d_then ?_
 refine c_cond rfl (fun h159 => ?_) (fun h159 => ?_)
 ·
  replace hm := ite_t hm h159
  refine c_seq <| c_region <| g_v rfl r_move <| g_v rfl r_move ?_
  refine g_if rfl rfl rfl rfl rfl (fun h160 => ?_) (fun h160 => ?_)
  ·
   replace hm := ite_t hm h160
   refine g_v rfl (r_field (n := 7) Try.underlying26 rfl Try.sizeOf3 rfl rfl) <| g_do rfl rfl rfl rfl rfl h160 <| g_v rfl (r_load (tag := 100100) rfl rfl rfl Try.isAgg3) <| g_do rfl rfl rfl rfl rfl h160 <| g_v rfl (r_eql rfl rfl) <| g_v rfl (r_pick1 rfl h160) <| g_v rfl r_move ?_
   refine g_if rfl rfl rfl rfl rfl (fun h161 => ?_) (fun h161 => ?_)
   ·
    replace hm := ite_t hm (of_decide_eq_true h161)
    refine g_v rfl (r_field (n := 9) Try.underlying26 rfl Try.sizeOf24 rfl rfl) <| g_do rfl rfl rfl rfl rfl h161 <| g_v rfl (r_load (tag := 100100) rfl rfl rfl Try.isAgg24) <| g_do rfl rfl rfl rfl rfl h161 <| g_v rfl (r_lenL Try.underlying24 rfl) <| g_do rfl rfl rfl rfl rfl h161 <| g_v rfl (r_eql rfl rfl) <| g_v rfl (r_pick1 rfl h161) <| g_v rfl r_move ?_
    refine g_if rfl rfl rfl rfl rfl (fun h162 => ?_) (fun h162 => ?_)
    ·
     replace hm := ite_t hm (of_decide_eq_true h162)
     refine g_v rfl (r_field (n := 10) Try.underlying26 rfl Try.sizeOf24 rfl rfl) <| g_do rfl rfl rfl rfl rfl h162 <| g_v rfl (r_load (tag := 100100) rfl rfl rfl Try.isAgg24) <| g_do rfl rfl rfl rfl rfl h162 <| g_v rfl (r_lenL Try.underlying24 rfl) <| g_do rfl rfl rfl rfl rfl h162 <| g_v rfl (r_gtr rfl rfl) <| g_v rfl (r_pick1 rfl h162) <| g_v rfl r_move ?_
     refine g_if rfl rfl rfl rfl rfl (fun h163 => ?_) (fun h163 => ?_)
     ·
      replace hm := ite_t hm (of_decide_eq_true h163)
      refine g_v rfl (r_field (n := 10) Try.underlying26 rfl Try.sizeOf24 rfl rfl) <| g_do rfl rfl rfl rfl rfl h163 <| g_v rfl (r_load (tag := 100100) rfl rfl rfl Try.isAgg24) <| g_do rfl rfl rfl rfl rfl h163 ?_
      replace hm := bnd hm
      obtain ⟨x164, hx164, hm⟩ := hm
      refine g_know _ (fun W hS => cl_at (p := φ118) (sz := 5) (fun _ => rfl) (by decide) hS.now f114 hx164) ?_
      rintro ⟨ad165, hA167, f166⟩
      refine g_v rfl (r_ix Try.underlying24 Try.sizeOf42 rfl hA167 rfl hx164) <| g_do rfl rfl rfl rfl rfl h163 ?_
      have f168 := fun (W : World) (h : φ118 W) => Cl.drop (f166 W h) 1
      refine g_v rfl (r_fieldF Try.underlying42 rfl Try.sizeOf22 rfl) <| g_do rfl rfl rfl rfl rfl h163 <| g_v rfl (r_ld rfl Try.isAgg22 (fun W hS => Cl.head (f168 W hS.now))) <| g_do rfl rfl rfl rfl rfl h163 <| g_v rfl (r_eql rfl rfl) <| g_v rfl (r_pick1 rfl h163) <| g_v rfl r_assign <| g_nil <| d_then ?_
      refine c_flat [(4, .bool (decide (x164.fType = 2)))] ⟨rfl, trivial⟩ (fun u => ?_)
      refine c_ret <| d_ret_then ?_
      cases hm
      exact d_retC () Try.results4 (res_tmp (res_nil rfl)) trivial (fun W h => ok_pre (H1 := [_, _]) (R1 := []) h (fun W hφ => (q14 _ (q101 _ (q102 _ (q118 _ hφ)))))) (.inr rfl)
     replace hm := ite_f hm (of_decide_eq_false h163)
     iterate 5 refine g_no rfl rfl rfl rfl rfl h163 ?_
     refine g_v rfl (r_pick0 rfl h163) <| g_v rfl r_assign <| g_nil <| d_then ?_
     refine c_flat [(4, .bool false)] ⟨rfl, trivial⟩ (fun u => ?_)
     refine c_ret <| d_ret_then ?_
     cases hm
     exact d_retC () Try.results4 (res_tmp (res_nil rfl)) trivial (fun W h => ok_pre (H1 := [_, _]) (R1 := []) h (fun W hφ => (q14 _ (q101 _ (q102 _ (q118 _ hφ)))))) (.inr rfl)
    replace hm := ite_f hm (of_decide_eq_false h162)
    iterate 3 refine g_no rfl rfl rfl rfl rfl h162 ?_
    refine g_v rfl (r_pick0 rfl h162) <| g_v rfl r_move ?_
    iterate 6 refine g_no rfl rfl rfl rfl rfl rfl ?_
    refine g_v rfl (r_pick0 rfl rfl) <| g_v rfl r_assign <| g_nil <| d_then ?_
    refine c_flat [(4, .bool false)] ⟨rfl, trivial⟩ (fun u => ?_)
    refine c_ret <| d_ret_then ?_
    cases hm
    exact d_retC () Try.results4 (res_tmp (res_nil rfl)) trivial (fun W h => ok_pre (H1 := [_, _]) (R1 := []) h (fun W hφ => (q14 _ (q101 _ (q102 _ (q118 _ hφ)))))) (.inr rfl)
   replace hm := ite_f hm (of_decide_eq_false h161)
   iterate 3 refine g_no rfl rfl rfl rfl rfl h161 ?_
   refine g_v rfl (r_pick0 rfl h161) <| g_v rfl r_move ?_
   iterate 4 refine g_no rfl rfl rfl rfl rfl rfl ?_
   refine g_v rfl (r_pick0 rfl rfl) <| g_v rfl r_move ?_
   iterate 6 refine g_no rfl rfl rfl rfl rfl rfl ?_
   refine g_v rfl (r_pick0 rfl rfl) <| g_v rfl r_assign <| g_nil <| d_then ?_
   refine c_flat [(4, .bool false)] ⟨rfl, trivial⟩ (fun u => ?_)
   refine c_ret <| d_ret_then ?_
   cases hm
   exact d_retC () Try.results4 (res_tmp (res_nil rfl)) trivial (fun W h => ok_pre (H1 := [_, _]) (R1 := []) h (fun W hφ => (q14 _ (q101 _ (q102 _ (q118 _ hφ)))))) (.inr rfl)
  replace hm := ite_f hm (bool_nt h160)
  refine g_no rfl rfl rfl rfl rfl h160 <| g_no rfl rfl rfl rfl rfl h160 <| g_v rfl (r_pick0 rfl h160) <| g_v rfl r_move ?_
  iterate 4 refine g_no rfl rfl rfl rfl rfl rfl ?_
  refine g_v rfl (r_pick0 rfl rfl) <| g_v rfl r_move ?_
  iterate 4 refine g_no rfl rfl rfl rfl rfl rfl ?_
  refine g_v rfl (r_pick0 rfl rfl) <| g_v rfl r_move ?_
  iterate 6 refine g_no rfl rfl rfl rfl rfl rfl ?_
  refine g_v rfl (r_pick0 rfl rfl) <| g_v rfl r_assign <| g_nil <| d_then ?_
  refine c_flat [(4, .bool false)] ⟨rfl, trivial⟩ (fun u => ?_)
  refine c_ret <| d_ret_then ?_
  cases hm
  exact d_retC () Try.results4 (res_tmp (res_nil rfl)) trivial (fun W h => ok_pre (H1 := [_, _]) (R1 := []) h (fun W hφ => (q14 _ (q101 _ (q102 _ (q118 _ hφ)))))) (.inr rfl)
 replace hm := ite_f hm (bool_nt h159)
 refine c_skip <| d_then <| c_seq <| c_region <| g_v rfl r_assign <| g_nil <| d_then <| c_seq <| c_seq <| c_region ?_
 refine g_v rfl r_assign <| g_nil <| d_then ?_
 refine c_cut (ι := Int) [5, 10, 13] (fun i248 => [(13, .int .i64 i248)]) (fun i248 => ⟨w0, M, (100100, g119, .cells #[.int .u16 x104.fID, .bool x104.fResponse, .bool x104.fAuthoritative, .bool x104.fTruncated, .bool x104.fDesired, .bool x104.fAvailable, .int .i64 x104.fOpcode, .int .i64 x104.fCode, .slice A106 x104.fQuestions.length c107, .slice A109 x104.fAnswers.length c110, .slice A112 x104.fAuthorities.length c113, .slice A115 x104.fExtras.length c116] 26 (0, 0)) :: H, R, φ118⟩) (fun i248 => m_law18_AuthParts_j2 x2 x104 i248 = some r) ?_ (fun i248 u hm => ?_)
 ·
  refine c_block ?_
  replace hm := bnd hm
  obtain ⟨out3, hl3, hr3⟩ := hm
  obtain ⟨n330', hl3⟩ := loop_lp hl3
  refine c_loopU (ι := Nat × Int × Int) [5, 6, 7, 9, 10, 13, 14] (fun ⟨n330, i290, i291⟩ => [(13, .int .i64 i290), (14, .int .i64 i291)]) (fun ⟨n330, i290, i291⟩ => ⟨w0, M, (100100, g119, .cells #[.int .u16 x104.fID, .bool x104.fResponse, .bool x104.fAuthoritative, .bool x104.fTruncated, .bool x104.fDesired, .bool x104.fAvailable, .int .i64 x104.fOpcode, .int .i64 x104.fCode, .slice A106 x104.fQuestions.length c107, .slice A109 x104.fAnswers.length c110, .slice A112 x104.fAuthorities.length c113, .slice A115 x104.fExtras.length c116] 26 (0, 0)) :: (100090, g86, .cells #[.string x82.fName, .int .u16 x82.fType, .int .u16 x82.fClass, .int .u32 x82.fTTL, .string x82.fData] 42 (0, 0)) :: H, R, φ118⟩) (fun ⟨n330, i290, i291⟩ => Lp (fun s => m_law18_AuthParts_s3 x27 x7 x82 x104 s.1 s.2) n330 (i290, i291) out3) (fun ⟨n330, i290, i291⟩ => n330) (n330', 0, 0) hl3 ⟨rfl, rfl, rfl, rfl, rfl, rfl, rfl, trivial⟩ (fun W h => h.phi (fun W hφ => hφ)) (fun ⟨n330, i290, i291⟩ u hlp => ?_)
  obtain ⟨o3, hm, hnx3⟩ := lp_step hlp
  clear hlp
  replace hm : m_law18_AuthParts_s3 x27 x7 x82 x104 i290 i291 = some o3 := hm
  unfold m_law18_AuthParts_s3 at hm
  refine c_flat [(5, .bool x2), (6, .slice A9 x7.length c10), (7, .int .i64 (x27.fRecords.length : Int)), (9, .pointer (some ⟨g86, 0, none⟩)), (10, .pointer (some ⟨g119, 0, none⟩)), (13, .int .i64 i290), (14, .int .i64 i291)] ⟨rfl, rfl, rfl, rfl, rfl, rfl, rfl, trivial⟩ (fun u => ?_)
  refine c_seq <| c_seq <| c_region <| g_v rfl r_move <| g_v rfl r_move <| g_v rfl (r_lss rfl rfl) <| g_nil <| d_then ?_
  refine c_cond rfl (fun h331 => ?_) (fun h331 => ?_)
  ·
   replace hm := ite_t hm (of_decide_eq_true h331)
   refine c_skip <| d_then <| c_seq <| c_block <| c_seq <| c_region <| g_v rfl r_move ?_
   replace hm := bnd hm
   obtain ⟨x332, hx332, hm⟩ := hm
   obtain ⟨pp336, hv337, hz338, hcp339⟩ := DOk.at_ hc10.1 hx332
   refine g_know _ (fun W hS => cl_at (p := φ102) (sz := 2) (fun _ => rfl) (by decide) (q118 _ hS.now) f103 hv337) ?_
   rintro ⟨ad333, hA335, f334⟩
   have f340 := fun (W : World) (h : φ14 W) => (f13 W h _ hz338)
   refine g_v rfl (r_ix Try.underlying35 Try.sizeOf33 rfl hA335 rfl hx332) ?_
   have f341 := fun (W : World) (h : φ102 W) => Cl.drop (f334 W h) 1
   refine g_v rfl (r_fieldF Try.underlying33 rfl Try.sizeOf24 rfl) <| g_v rfl (r_ld rfl Try.isAgg24 (fun W hS => Cl.head (f341 W (q118 _ hS.now)))) <| g_v rfl r_move ?_
   replace hm := bnd hm
   obtain ⟨x342, hx342, hm⟩ := hm
   refine g_know _ (fun W hS => cl_at (p := φ14) (sz := 5) (fun _ => rfl) (by decide) (q101 _ (q102 _ (q118 _ hS.now))) f340 hx342) ?_
   rintro ⟨ad343, hA345, f344⟩
   refine g_v rfl (r_ix Try.underlying24 Try.sizeOf42 rfl hA345 rfl hx342) <| g_v rfl (r_ldA rfl Try.isAgg42 Try.sizeOf42 (fun W hS => (f344 W (q101 _ (q102 _ (q118 _ hS.now)))).take 5) rfl) ?_
   refine g_e rfl (e_alloc 100150 Try.zeroValue42) (fun g346 _ => ?_)
   refine g_storeL (tag := 100150) rfl rfl rfl rfl Try.sizeOf42 rfl rfl <| g_nil <| d_then ?_
   refine c_flat [(5, .bool x2), (6, .slice A9 x7.length c10), (7, .int .i64 (x27.fRecords.length : Int)), (9, .pointer (some ⟨g86, 0, none⟩)), (10, .pointer (some ⟨g119, 0, none⟩)), (13, .int .i64 i290), (14, .int .i64 i291), (15, .pointer (some ⟨g346, 0, none⟩))] ⟨rfl, rfl, rfl, rfl, rfl, rfl, rfl, rfl, trivial⟩ (fun u => ?_)
   refine c_sta ⟨w0, M, (100150, g346, .cells #[.string x342.fName, .int .u16 x342.fType, .int .u16 x342.fClass, .int .u32 x342.fTTL, .string x342.fData] 42 (0, 0)) :: (100100, g119, .cells #[.int .u16 x104.fID, .bool x104.fResponse, .bool x104.fAuthoritative, .bool x104.fTruncated, .bool x104.fDesired, .bool x104.fAvailable, .int .i64 x104.fOpcode, .int .i64 x104.fCode, .slice A106 x104.fQuestions.length c107, .slice A109 x104.fAnswers.length c110, .slice A112 x104.fAuthorities.length c113, .slice A115 x104.fExtras.length c116] 26 (0, 0)) :: (100090, g86, .cells #[.string x82.fName, .int .u16 x82.fType, .int .u16 x82.fClass, .int .u32 x82.fTTL, .string x82.fData] 42 (0, 0)) :: H, R, φ118⟩ (fun _ h => h) <| c_seq <| c_region <| g_v rfl (r_field (n := 0) Try.underlying42 rfl Try.sizeOf9 rfl rfl) <| g_v rfl (r_load (tag := 100150) rfl rfl rfl Try.isAgg9) <| g_v rfl (r_field (n := 0) Try.underlying42 rfl Try.sizeOf9 rfl rfl) <| g_v rfl (r_load (tag := 100090) rfl rfl rfl Try.isAgg9) ?_
   replace hm := bnd hm
   obtain ⟨x347, hx348, hm⟩ := hm
   refine g_cn ⟨w0, M, _, _, φ118⟩ (fun _ h => h) Try.call15 rfl rfl (c_ref03_Same x342.fName x82.fName _ hx348) (fun _ _ => ?_)
   refine g_v rfl r_assign <| g_nil <| d_then <| c_seq <| c_region <| g_v rfl r_move <| g_v rfl r_move ?_
   refine g_if rfl rfl rfl rfl rfl (fun h349 => ?_) (fun h349 => ?_)
   ·
    replace hm := ite_t hm h349
    refine g_v rfl (r_field (n := 1) Try.underlying42 rfl Try.sizeOf22 rfl rfl) <| g_do rfl rfl rfl rfl rfl h349 <| g_v rfl (r_load (tag := 100150) rfl rfl rfl Try.isAgg22) <| g_do rfl rfl rfl rfl rfl h349 <| g_v rfl (r_field (n := 1) Try.underlying42 rfl Try.sizeOf22 rfl rfl) <| g_do rfl rfl rfl rfl rfl h349 <| g_v rfl (r_load (tag := 100090) rfl rfl rfl Try.isAgg22) <| g_do rfl rfl rfl rfl rfl h349 <| g_v rfl (r_eql rfl rfl) <| g_v rfl (r_pick1 rfl h349) ?_
    refine g_nil <| d_then ?_
    refine c_flat [(5, .bool x2), (6, .slice A9 x7.length c10), (7, .int .i64 (x27.fRecords.length : Int)), (9, .pointer (some ⟨g86, 0, none⟩)), (10, .pointer (some ⟨g119, 0, none⟩)), (13, .int .i64 i290), (14, .int .i64 i291), (15, .pointer (some ⟨g346, 0, none⟩)), (115, .bool (decide (x342.fType = x82.fType)))] ⟨rfl, rfl, rfl, rfl, rfl, rfl, rfl, rfl, rfl, trivial⟩ (fun u => ?_)
    refine c_cond rfl (fun h350 => ?_) (fun h350 => ?_)
    ·
     replace hm := ite_t hm (of_decide_eq_true h350)
     refine c_seq <| c_seq <| ga_start (n := 14) ⟨w0, M, (100150, g346, .cells #[.string x342.fName, .int .u16 x342.fType, .int .u16 x342.fClass, .int .u32 x342.fTTL, .string x342.fData] 42 (0, 0)) :: (100100, g119, .cells #[.int .u16 x104.fID, .bool x104.fResponse, .bool x104.fAuthoritative, .bool x104.fTruncated, .bool x104.fDesired, .bool x104.fAvailable, .int .i64 x104.fOpcode, .int .i64 x104.fCode, .slice A106 x104.fQuestions.length c107, .slice A109 x104.fAnswers.length c110, .slice A112 x104.fAuthorities.length c113, .slice A115 x104.fExtras.length c116] 26 (0, 0)) :: (100090, g86, .cells #[.string x82.fName, .int .u16 x82.fType, .int .u16 x82.fClass, .int .u32 x82.fTTL, .string x82.fData] 42 (0, 0)) :: H, R, φ118⟩ [] #[false, false, false, false, false, false, false, false, false, false, false, false, false, false] (fun W h => h.phi (fun W hφ => hφ)) mixed rfl rfl <| ga_v (i := 0) (bz 14 1) rfl (by kernel_rfl) (fun _ _ _ _ h => h) rfl (r_move) <| ga_r (i := 1) (bz 14 3) rfl (by kernel_rfl) (by decide) rfl (r_field (n := 9) Try.underlying26 rfl Try.sizeOf24 rfl rfl) <| ga_r (i := 2) (bz 14 7) rfl (by kernel_rfl) (by decide) rfl (r_load (tag := 100100) rfl rfl rfl Try.isAgg24) <| ga_r (i := 3) (bz 14 15) rfl (by kernel_rfl) (by decide) rfl (r_lenL Try.underlying24 rfl) <| ga_r (i := 4) (bz 14 31) rfl (by kernel_rfl) (by decide) rfl (r_geq rfl rfl) <| ga_r (i := 5) (bz 14 63) rfl (by kernel_rfl) (by decide) rfl (r_move) ?_
     refine ga_if (t := 121) rfl (fun h361 => ?_) (fun h361 => ?_)
     ·
      replace hm := ite_t hm (of_decide_eq_true h361)
      refine ga_no (i := 6) (bz 14 127) rfl (by kernel_rfl) (fun _ _ _ _ h => h) rfl rfl rfl rfl rfl h361 <| ga_no (i := 7) (bz 14 255) rfl (by kernel_rfl) (fun _ _ _ _ h => h) rfl rfl rfl rfl rfl h361 <| ga_no (i := 8) (bz 14 511) rfl (by kernel_rfl) (fun _ _ _ _ h => h) rfl rfl rfl rfl rfl h361 <| ga_no (i := 9) (bz 14 1023) rfl (by kernel_rfl) (fun _ _ _ _ h => h) rfl rfl rfl rfl rfl h361 <| ga_no (i := 10) (bz 14 2047) rfl (by kernel_rfl) (fun _ _ _ _ h => h) rfl rfl rfl rfl rfl h361 <| ga_no (i := 11) (bz 14 4095) rfl (by kernel_rfl) (fun _ _ _ _ h => h) rfl rfl rfl rfl rfl h361 <| ga_no (i := 12) (bz 14 8191) rfl (by kernel_rfl) (fun _ _ _ _ h => h) rfl rfl rfl rfl rfl h361 <| ga_r (i := 13) (bz 14 16383) rfl (by kernel_rfl) (by decide) rfl (r_pick1 rfl h361) <| ga_done (by kernel_rfl) <| d_then ?_
      refine c_cond1 rfl rfl <| c_seq <| c_region <| g_v rfl r_assign <| g_nil <| d_then <| c_ret <| d_ret_then <| d_ret_block <| d_ret_then ?_
      refine d_ret_then <| d_ret_block <| d_ret_then <| d_ret_then ?_
      replace hm := nx_out (C := (fun e : Int ⊕ Bool => Sum.elim (fun e => m_law18_AuthParts_j2 x2 x104 e) (fun x => some x) e = some r)) hm hnx3 hr3
      replace hm : some false = some r := hm
      cases hm
      exact d_retC () Try.results4 (res_tmp (res_nil rfl)) trivial (fun W h => ok_pre (H1 := [_, _, _]) (R1 := []) h (fun W hφ => (q14 _ (q101 _ (q102 _ (q118 _ hφ)))))) (.inr rfl)
     replace hm := ite_f hm (of_decide_eq_false h361)
     refine ga_do (i := 6) (bz 14 127) rfl (by kernel_rfl) (fun _ _ _ _ h => h) rfl rfl rfl rfl rfl h361 (r_field (n := 9) Try.underlying26 rfl Try.sizeOf24 rfl rfl) <| ga_do (i := 7) (bz 14 255) rfl (by kernel_rfl) (fun _ _ _ _ h => h) rfl rfl rfl rfl rfl h361 (r_load (tag := 100100) rfl rfl rfl Try.isAgg24) <| ga_do (i := 8) (bz 14 511) rfl (by kernel_rfl) (fun _ _ _ _ h => h) rfl rfl rfl rfl rfl h361 (r_move) ?_
     replace hm := bnd hm
     obtain ⟨x362, hx362, hm⟩ := hm
     refine ga_know _ (fun W hS => cl_at (p := φ118) (sz := 5) (fun _ => rfl) (by decide) hS.now f111 hx362) ?_
     rintro ⟨ad363, hA365, f364⟩
     refine ga_do (i := 9) (bz 14 1023) rfl (by kernel_rfl) (fun _ _ _ _ h => h) rfl rfl rfl rfl rfl h361 (r_ix Try.underlying24 Try.sizeOf42 rfl hA365 rfl hx362) <| ga_do (i := 10) (bz 14 2047) rfl (by kernel_rfl) (fun _ _ _ _ h => h) rfl rfl rfl rfl rfl h361 (r_ldA rfl Try.isAgg42 Try.sizeOf42 (fun W hS => (f364 W hS.now).take 5) rfl) <| ga_rG (i := 11) (bz 14 4095) rfl (by kernel_rfl) (by decide) rfl rfl rfl rfl rfl h361 (r_loadA (tag := 100150) rfl rfl Try.isAgg42 Try.sizeOf42 rfl rfl) <| ga_rG (i := 12) (bz 14 8191) rfl (by kernel_rfl) (by decide) rfl rfl rfl rfl rfl h361 (r_neqA rfl rfl eqg42 (eqq42 x362 x342)) <| ga_r (i := 13) (bz 14 16383) rfl (by kernel_rfl) (by decide) rfl (r_pick0 rfl h361) <| ga_done (by kernel_rfl) <| d_then ?_
     refine c_flat [(5, .bool x2), (6, .slice A9 x7.length c10), (7, .int .i64 (x27.fRecords.length : Int)), (9, .pointer (some ⟨g86, 0, none⟩)), (10, .pointer (some ⟨g119, 0, none⟩)), (13, .int .i64 i290), (14, .int .i64 i291), (129, .bool (!(decide (x362 = x342))))] ⟨rfl, rfl, rfl, rfl, rfl, rfl, rfl, rfl, trivial⟩ (fun u => ?_)
     refine c_cond rfl (fun h366 => ?_) (fun h366 => ?_)
     ·
      have h366' : (decide (x362 = x342)) = false := by revert h366; cases (decide (x362 = x342)) <;> simp
      replace hm := ite_f hm (of_decide_eq_false h366')
      refine c_seq <| c_region <| g_v rfl r_assign <| g_nil <| d_then <| c_ret <| d_ret_then <| d_ret_block <| d_ret_then <| d_ret_then ?_
      refine d_ret_block <| d_ret_then <| d_ret_then ?_
      replace hm := nx_out (C := (fun e : Int ⊕ Bool => Sum.elim (fun e => m_law18_AuthParts_j2 x2 x104 e) (fun x => some x) e = some r)) hm hnx3 hr3
      replace hm : some false = some r := hm
      cases hm
      exact d_retC () Try.results4 (res_tmp (res_nil rfl)) trivial (fun W h => ok_pre (H1 := [_, _, _]) (R1 := []) h (fun W hφ => (q14 _ (q101 _ (q102 _ (q118 _ hφ)))))) (.inr rfl)
     have h366' : (decide (x362 = x342)) = true := by revert h366; cases (decide (x362 = x342)) <;> simp
     replace hm := ite_t hm (of_decide_eq_true h366')
     refine c_skip <| d_then <| c_region <| g_v rfl r_move <| g_v rfl (r_add rfl rfl rfl) <| g_v rfl r_assign <| g_nil <| d_normal_block <| d_then <| c_region ?_
     refine g_v rfl r_move <| g_v rfl (r_add rfl rfl rfl) <| g_v rfl r_assign <| g_nil ?_
     obtain ⟨n367, hn367, hlp⟩ := nx_inl hm hnx3
     exact d_round (n367, w64 (i290 + 1), w64 (i291 + 1)) hlp hn367 ⟨rfl, rfl, rfl, rfl, rfl, rfl, rfl, trivial⟩ (fun W h => (h.dropH (t := 100150) rfl).phi (fun W hφ => hφ))
    replace hm := ite_f hm (of_decide_eq_false h350)
    refine c_skip <| d_normal_block <| d_then <| c_region <| g_v rfl r_move <| g_v rfl (r_add rfl rfl rfl) <| g_v rfl r_assign <| g_nil ?_
    obtain ⟨n368, hn368, hlp⟩ := nx_inl hm hnx3
    exact d_round (n368, i290, w64 (i291 + 1)) hlp hn368 ⟨rfl, rfl, rfl, rfl, rfl, rfl, rfl, trivial⟩ (fun W h => (h.dropH (t := 100150) rfl).phi (fun W hφ => hφ))
   replace hm := ite_f hm (bool_nt h349)
   iterate 4 refine g_no rfl rfl rfl rfl rfl h349 ?_
   refine g_v rfl (r_pick0 rfl h349) <| g_nil <| d_then ?_
   refine c_flat [(5, .bool x2), (6, .slice A9 x7.length c10), (7, .int .i64 (x27.fRecords.length : Int)), (9, .pointer (some ⟨g86, 0, none⟩)), (10, .pointer (some ⟨g119, 0, none⟩)), (13, .int .i64 i290), (14, .int .i64 i291), (15, .pointer (some ⟨g346, 0, none⟩)), (115, .bool false)] ⟨rfl, rfl, rfl, rfl, rfl, rfl, rfl, rfl, rfl, trivial⟩ (fun u => ?_)
   refine c_cond0 rfl rfl <| c_skip <| d_normal_block <| d_then <| c_region <| g_v rfl r_move <| g_v rfl (r_add rfl rfl rfl) <| g_v rfl r_assign <| g_nil ?_
   obtain ⟨n369, hn369, hlp⟩ := nx_inl hm hnx3
   exact d_round (n369, i290, w64 (i291 + 1)) hlp hn369 ⟨rfl, rfl, rfl, rfl, rfl, rfl, rfl, trivial⟩ (fun W h => (h.dropH (t := 100150) rfl).phi (fun W hφ => hφ))
  replace hm := ite_f hm (of_decide_eq_false h331)
  refine c_exit <| d_exit_then <| d_exit_then <| d_exit_block ?_
  replace hm := nx_out (C := (fun e : Int ⊕ Bool => Sum.elim (fun e => m_law18_AuthParts_j2 x2 x104 e) (fun x => some x) e = some r)) hm hnx3 hr3
  exact d_round i290 hm Nat.zero_lt_one ⟨rfl, rfl, rfl, trivial⟩ (fun W h => (h.dropH (t := 100090) rfl).phi (fun W hφ => hφ))
 unfold m_law18_AuthParts_j2 at hm
 refine d_flat [(5, .bool x2), (10, .pointer (some ⟨g119, 0, none⟩)), (13, .int .i64 i248)] ⟨rfl, rfl, rfl, trivial⟩ (fun u => ?_)
 refine d_sta ⟨w0, M, (100100, g119, .cells #[.int .u16 x104.fID, .bool x104.fResponse, .bool x104.fAuthoritative, .bool x104.fTruncated, .bool x104.fDesired, .bool x104.fAvailable, .int .i64 x104.fOpcode, .int .i64 x104.fCode, .slice A106 x104.fQuestions.length c107, .slice A109 x104.fAnswers.length c110, .slice A112 x104.fAuthorities.length c113, .slice A115 x104.fExtras.length c116] 26 (0, 0)) :: H, R, φ118⟩ (fun _ h => h) <| d_then <| c_seq <| c_region <| g_v rfl r_move <| g_v rfl r_move ?_
 refine g_if rfl rfl rfl rfl rfl (fun h249 => ?_) (fun h249 => ?_)
 ·
  replace hm := ite_t hm h249
  refine g_v rfl (r_field (n := 7) Try.underlying26 rfl Try.sizeOf3 rfl rfl) <| g_do rfl rfl rfl rfl rfl h249 <| g_v rfl (r_load (tag := 100100) rfl rfl rfl Try.isAgg3) <| g_do rfl rfl rfl rfl rfl h249 <| g_v rfl (r_eql rfl rfl) <| g_v rfl (r_pick1 rfl h249) <| g_v rfl r_move ?_
  refine g_if rfl rfl rfl rfl rfl (fun h250 => ?_) (fun h250 => ?_)
  ·
   replace hm := ite_t hm (of_decide_eq_true h250)
   refine g_v rfl (r_field (n := 2) Try.underlying26 rfl Try.sizeOf4 rfl rfl) <| g_do rfl rfl rfl rfl rfl h250 <| g_v rfl (r_load (tag := 100100) rfl rfl rfl Try.isAgg4) <| g_v rfl (r_pick1 rfl h250) <| g_v rfl r_move ?_
   refine g_if rfl rfl rfl rfl rfl (fun h251 => ?_) (fun h251 => ?_)
   ·
    replace hm := ite_t hm h251
    refine g_v rfl r_move <| g_do rfl rfl rfl rfl rfl h251 <| g_v rfl (r_field (n := 9) Try.underlying26 rfl Try.sizeOf24 rfl rfl) <| g_do rfl rfl rfl rfl rfl h251 <| g_v rfl (r_load (tag := 100100) rfl rfl rfl Try.isAgg24) <| g_do rfl rfl rfl rfl rfl h251 <| g_v rfl (r_lenL Try.underlying24 rfl) <| g_do rfl rfl rfl rfl rfl h251 <| g_v rfl (r_eql rfl rfl) <| g_v rfl (r_pick1 rfl h251) ?_
    refine g_v rfl r_assign <| g_nil <| d_then ?_
    refine c_flat [(4, .bool (decide (i248 = (x104.fAnswers.length : Int))))] ⟨rfl, trivial⟩ (fun u => ?_)
    refine c_ret ?_
    cases hm
    exact d_retC () Try.results4 (res_tmp (res_nil rfl)) trivial (fun W h => ok_pre (H1 := [_]) (R1 := []) h (fun W hφ => (q14 _ (q101 _ (q102 _ (q118 _ hφ)))))) (.inr rfl)
   replace hm := ite_f hm (bool_nt h251)
   iterate 4 refine g_no rfl rfl rfl rfl rfl h251 ?_
   refine g_v rfl (r_pick0 rfl h251) <| g_v rfl r_assign <| g_nil <| d_then ?_
   refine c_flat [(4, .bool false)] ⟨rfl, trivial⟩ (fun u => ?_)
   refine c_ret ?_
   cases hm
   exact d_retC () Try.results4 (res_tmp (res_nil rfl)) trivial (fun W h => ok_pre (H1 := [_]) (R1 := []) h (fun W hφ => (q14 _ (q101 _ (q102 _ (q118 _ hφ)))))) (.inr rfl)
  replace hm := ite_f hm (of_decide_eq_false h250)
  refine g_no rfl rfl rfl rfl rfl h250 <| g_v rfl (r_pick0 rfl h250) <| g_v rfl r_move ?_
  iterate 5 refine g_no rfl rfl rfl rfl rfl rfl ?_
  refine g_v rfl (r_pick0 rfl rfl) <| g_v rfl r_assign <| g_nil <| d_then ?_
  refine c_flat [(4, .bool false)] ⟨rfl, trivial⟩ (fun u => ?_)
  refine c_ret ?_
  cases hm
  exact d_retC () Try.results4 (res_tmp (res_nil rfl)) trivial (fun W h => ok_pre (H1 := [_]) (R1 := []) h (fun W hφ => (q14 _ (q101 _ (q102 _ (q118 _ hφ)))))) (.inr rfl)
 replace hm := ite_f hm (bool_nt h249)
 refine g_no rfl rfl rfl rfl rfl h249 <| g_no rfl rfl rfl rfl rfl h249 <| g_v rfl (r_pick0 rfl h249) <| g_v rfl r_move <| g_no rfl rfl rfl rfl rfl rfl <| g_no rfl rfl rfl rfl rfl rfl <| g_v rfl (r_pick0 rfl rfl) <| g_v rfl r_move ?_
 iterate 5 refine g_no rfl rfl rfl rfl rfl rfl ?_
 refine g_v rfl (r_pick0 rfl rfl) <| g_v rfl r_assign <| g_nil <| d_then <| c_ret ?_
 cases hm
 exact d_retC () Try.results4 (res_tmp (res_nil rfl)) trivial (fun W h => ok_pre (H1 := [_]) (R1 := []) h (fun W hφ => (q14 _ (q101 _ (q102 _ (q118 _ hφ)))))) (.inr rfl)
end Go.Proofs.Ytjbfgaahonmclaa
