import Derived.Test.YtpdhdpefdgndeaaWMFC
set_option maxRecDepth 100000
set_option maxHeartbeats 4000000
set_option linter.unusedVariables false
set_option linter.unusedSimpArgs false
namespace Go.Proofs.Ytpdhdpefdgndeaa
open Go.RowKit Go.Proofs.YtpdhdpefdgndeaaW.PrintLast
noncomputable def m_ref06_all_j2  (l200 : List Gref04_Place) (s203 : ByteArray) : Option (ByteArray × Int) :=
  some (s203, 0)
noncomputable def m_ref06_all_s3 (l155 : List GRR) (l222 : List Gref04_Place) (i225 : Int) (s226 : ByteArray) : Option (((List Gref04_Place) × Int × ByteArray) ⊕ (((List Gref04_Place) × ByteArray) ⊕ (ByteArray × Int))) :=
  if i225 < (l155.length : Int) then
    (at_ l155 i225).bind fun x247 =>
    (m_ref05_Put x247 (⟨s226, l222⟩ : Gref04_Packer)).bind fun (z257 : Int × Gref04_Packer) =>
    if z257.1 ≠ 0 then
      some (.inr (.inr ((⟨#[]⟩ : ByteArray), z257.1)))
    else
      some (.inl (z257.2.fL, w64 (i225 + 1), z257.2.fB))
  else
    some (.inr (.inl (l222, s226)))
noncomputable def m_ref06_all_j1 (p0 : GMessage) (l145 : List Gref04_Place) (s148 : ByteArray) : Option (ByteArray × Int) :=
  (app 40 ([] : List GRR) p0.fAnswers).bind fun l149 =>
  (app 40 l149 p0.fAuthorities).bind fun l152 =>
  (app 40 l152 p0.fExtras).bind fun l155 =>
  (loop (fun s => m_ref06_all_s3 l155 s.1 s.2.1 s.2.2) (l145, 0, s148)).bind fun e => Sum.elim (fun e => m_ref06_all_j2 e.1 e.2) (fun x => some x) e
noncomputable def m_ref06_all_s4 (p0 : GMessage) (l289 : List Gref04_Place) (i292 : Int) (s293 : ByteArray) : Option (((List Gref04_Place) × Int × ByteArray) ⊕ (((List Gref04_Place) × ByteArray) ⊕ (ByteArray × Int))) :=
  if i292 < (p0.fQuestions.length : Int) then
    (at_ p0.fQuestions i292).bind fun x325 =>
    (m_ref04_Packer_Name x325.fName true (⟨s293, l289⟩ : Gref04_Packer)).bind fun (z336 : Int × Gref04_Packer) =>
    if z336.1 ≠ 0 then
      some (.inr (.inr ((⟨#[]⟩ : ByteArray), z336.1)))
    else
      (m_ref04_Packer_Number (w64 x325.fType) 2 z336.2).bind fun x338 =>
      (m_ref04_Packer_Number (w64 x325.fClass) 2 x338).bind fun x343 =>
      some (.inl (x343.fL, w64 (i292 + 1), x343.fB))
  else
    some (.inr (.inl (l289, s293)))
noncomputable def m_ref06_all (p0 : GMessage) : Option (ByteArray × Int) :=
  if p0.fOpcode < 0 then
    some ((⟨#[]⟩ : ByteArray), 1)
  else
    if 15 < p0.fOpcode then
      some ((⟨#[]⟩ : ByteArray), 1)
    else
      if p0.fCode < 0 then
        some ((⟨#[]⟩ : ByteArray), 1)
      else
        if 15 < p0.fCode then
          some ((⟨#[]⟩ : ByteArray), 1)
        else
          if 65535 < (p0.fQuestions.length : Int) then
            some ((⟨#[]⟩ : ByteArray), 1)
          else
            if 65535 < (p0.fAnswers.length : Int) then
              some ((⟨#[]⟩ : ByteArray), 1)
            else
              if 65535 < (p0.fAuthorities.length : Int) then
                some ((⟨#[]⟩ : ByteArray), 1)
              else
                if 65535 < (p0.fExtras.length : Int) then
                  some ((⟨#[]⟩ : ByteArray), 1)
                else
                  (m_ref04_Packer_Number (w64 p0.fID) 2 (⟨(⟨#[]⟩ : ByteArray), ([] : List Gref04_Place)⟩ : Gref04_Packer)).bind fun x11 =>
                  (m_ref06_bit p0.fResponse).bind fun x46 =>
                  (m_ref06_bit p0.fAuthoritative).bind fun x48 =>
                  (m_ref06_bit p0.fTruncated).bind fun x50 =>
                  (m_ref06_bit p0.fDesired).bind fun x52 =>
                  (m_ref06_bit p0.fAvailable).bind fun x54 =>
                  (m_ref04_Packer_Number (w64 ((w64 ((w64 ((w64 ((w64 ((w64 ((w64 (x46 * 32768)) + (w64 (p0.fOpcode * 2048)))) + (w64 (x48 * 1024)))) + (w64 (x50 * 512)))) + (w64 (x52 * 256)))) + (w64 (x54 * 128)))) + p0.fCode)) 2 x11).bind fun x56 =>
                  (m_ref04_Packer_Number (p0.fQuestions.length : Int) 2 x56).bind fun x61 =>
                  (m_ref04_Packer_Number (p0.fAnswers.length : Int) 2 x61).bind fun x66 =>
                  (m_ref04_Packer_Number (p0.fAuthorities.length : Int) 2 x66).bind fun x71 =>
                  (m_ref04_Packer_Number (p0.fExtras.length : Int) 2 x71).bind fun x76 =>
                  (loop (fun s => m_ref06_all_s4 p0 s.1 s.2.1 s.2.2) (x76.fL, 0, x76.fB)).bind fun e => Sum.elim (fun e => m_ref06_all_j1 p0 e.1 e.2) (fun x => some x) e
theorem c_ref06_all {w0 : World} {M : Nat → Prop} {H : List (Nat × Nat × Obj)} {R : List (Nat × Row)} {φ : World → Prop} (p0 : GMessage) (Ap0_0 : Option Addr) (cp0_0 : Nat) (hcp0_0 : p0.fQuestions.length ≤ cp0_0) (fp0_0 : ∀ W, (Sta.mk w0 M H R φ).ok W → Cl W Ap0_0 (p0.fQuestions.flatMap GQuestion.enc)) (Ap0_1 : Option Addr) (cp0_1 : Nat) (hcp0_1 : p0.fAnswers.length ≤ cp0_1) (fp0_1 : ∀ W, (Sta.mk w0 M H R φ).ok W → Cl W Ap0_1 (p0.fAnswers.flatMap GRR.enc)) (Ap0_2 : Option Addr) (cp0_2 : Nat) (hcp0_2 : p0.fAuthorities.length ≤ cp0_2) (fp0_2 : ∀ W, (Sta.mk w0 M H R φ).ok W → Cl W Ap0_2 (p0.fAuthorities.flatMap GRR.enc)) (Ap0_3 : Option Addr) (cp0_3 : Nat) (hcp0_3 : p0.fExtras.length ≤ cp0_3) (fp0_3 : ∀ W, (Sta.mk w0 M H R φ).ok W → Cl W Ap0_3 (p0.fExtras.flatMap GRR.enc)) (r : ByteArray × Int) (hm : m_ref06_all p0 = some r) :
    Cn Try.prog 87 #[.agg #[.int .u16 p0.fID, .bool p0.fResponse, .bool p0.fAuthoritative, .bool p0.fTruncated, .bool p0.fDesired, .bool p0.fAvailable, .int .i64 p0.fOpcode, .int .i64 p0.fCode, .slice Ap0_0 p0.fQuestions.length cp0_0, .slice Ap0_1 p0.fAnswers.length cp0_1, .slice Ap0_2 p0.fAuthorities.length cp0_2, .slice Ap0_3 p0.fExtras.length cp0_3]] ⟨w0, M, H, R, φ⟩ (fun x : Unit => .tuple #[.string r.1, .int .i64 r.2]) (fun x => True) (fun x => ⟨w0, M, H, R, φ⟩) := by
 unfold m_ref06_all at hm
 refine cn_intro (fn := Try.f87) (N := 173) Try.func87 rfl Try.ntmps87 rfl <| c_seq <| c_region ?_
 refine g_e rfl (e_box 100010 rfl) (fun g1 _ => ?_)
 refine g_v rfl r_assign <| g_v rfl r_assign <| g_nil <| d_then <| c_seq <| c_seq <| c_region <| g_v rfl (r_field (n := 6) Try.underlying62 rfl Try.sizeOf3 rfl rfl) <| g_v rfl (r_load (tag := 100010) rfl rfl rfl Try.isAgg3) <| g_v rfl (r_lss rfl rfl) ?_
 refine g_v rfl r_move ?_
 refine g_if rfl rfl rfl rfl rfl (fun h2 => ?_) (fun h2 => ?_)
 ·
  replace hm := ite_f hm (of_decide_eq_false h2)
  refine g_v rfl (r_field (n := 6) Try.underlying62 rfl Try.sizeOf3 rfl rfl) <| g_do rfl rfl rfl rfl rfl h2 <| g_v rfl (r_load (tag := 100010) rfl rfl rfl Try.isAgg3) <| g_do rfl rfl rfl rfl rfl h2 <| g_v rfl (r_gtr rfl rfl) <| g_v rfl (r_pick0 rfl h2) <| g_v rfl r_move ?_
  refine g_if rfl rfl rfl rfl rfl (fun h3 => ?_) (fun h3 => ?_)
  ·
   replace hm := ite_f hm (of_decide_eq_false h3)
   refine g_v rfl (r_field (n := 7) Try.underlying62 rfl Try.sizeOf3 rfl rfl) <| g_do rfl rfl rfl rfl rfl h3 <| g_v rfl (r_load (tag := 100010) rfl rfl rfl Try.isAgg3) <| g_do rfl rfl rfl rfl rfl h3 <| g_v rfl (r_lss rfl rfl) <| g_v rfl (r_pick0 rfl h3) <| g_v rfl r_move ?_
   refine g_if rfl rfl rfl rfl rfl (fun h4 => ?_) (fun h4 => ?_)
   ·
    replace hm := ite_f hm (of_decide_eq_false h4)
    refine g_v rfl (r_field (n := 7) Try.underlying62 rfl Try.sizeOf3 rfl rfl) <| g_do rfl rfl rfl rfl rfl h4 <| g_v rfl (r_load (tag := 100010) rfl rfl rfl Try.isAgg3) <| g_do rfl rfl rfl rfl rfl h4 <| g_v rfl (r_gtr rfl rfl) <| g_v rfl (r_pick0 rfl h4) <| g_v rfl r_move ?_
    refine g_if rfl rfl rfl rfl rfl (fun h5 => ?_) (fun h5 => ?_)
    ·
     replace hm := ite_f hm (of_decide_eq_false h5)
     refine g_v rfl (r_field (n := 8) Try.underlying62 rfl Try.sizeOf60 rfl rfl) <| g_do rfl rfl rfl rfl rfl h5 <| g_v rfl (r_load (tag := 100010) rfl rfl rfl Try.isAgg60) <| g_do rfl rfl rfl rfl rfl h5 <| g_v rfl (r_lenL Try.underlying60 rfl) <| g_do rfl rfl rfl rfl rfl h5 <| g_v rfl (r_gtr rfl rfl) <| g_v rfl (r_pick0 rfl h5) <| g_v rfl r_move ?_
     refine g_if rfl rfl rfl rfl rfl (fun h6 => ?_) (fun h6 => ?_)
     ·
      replace hm := ite_f hm (of_decide_eq_false h6)
      refine g_v rfl (r_field (n := 9) Try.underlying62 rfl Try.sizeOf32 rfl rfl) <| g_do rfl rfl rfl rfl rfl h6 <| g_v rfl (r_load (tag := 100010) rfl rfl rfl Try.isAgg32) <| g_do rfl rfl rfl rfl rfl h6 <| g_v rfl (r_lenL Try.underlying32 rfl) <| g_do rfl rfl rfl rfl rfl h6 <| g_v rfl (r_gtr rfl rfl) <| g_v rfl (r_pick0 rfl h6) <| g_v rfl r_move ?_
      refine g_if rfl rfl rfl rfl rfl (fun h7 => ?_) (fun h7 => ?_)
      ·
       replace hm := ite_f hm (of_decide_eq_false h7)
       refine g_v rfl (r_field (n := 10) Try.underlying62 rfl Try.sizeOf32 rfl rfl) <| g_do rfl rfl rfl rfl rfl h7 <| g_v rfl (r_load (tag := 100010) rfl rfl rfl Try.isAgg32) <| g_do rfl rfl rfl rfl rfl h7 <| g_v rfl (r_lenL Try.underlying32 rfl) <| g_do rfl rfl rfl rfl rfl h7 <| g_v rfl (r_gtr rfl rfl) <| g_v rfl (r_pick0 rfl h7) <| g_v rfl r_move ?_
       refine g_if rfl rfl rfl rfl rfl (fun h8 => ?_) (fun h8 => ?_)
       ·
        replace hm := ite_f hm (of_decide_eq_false h8)
        refine g_v rfl (r_field (n := 11) Try.underlying62 rfl Try.sizeOf32 rfl rfl) <| g_do rfl rfl rfl rfl rfl h8 <| g_v rfl (r_load (tag := 100010) rfl rfl rfl Try.isAgg32) <| g_do rfl rfl rfl rfl rfl h8 <| g_v rfl (r_lenL Try.underlying32 rfl) <| g_do rfl rfl rfl rfl rfl h8 <| g_v rfl (r_gtr rfl rfl) <| g_v rfl (r_pick0 rfl h8) <| g_nil <| d_then ?_
        refine c_flat [(1, .pointer (some ⟨g1, 0, none⟩)), (52, .bool (decide (65535 < (p0.fExtras.length : Int))))] ⟨rfl, rfl, trivial⟩ (fun u => ?_)
        refine c_sta ⟨w0, M, (100010, g1, .cells #[.int .u16 p0.fID, .bool p0.fResponse, .bool p0.fAuthoritative, .bool p0.fTruncated, .bool p0.fDesired, .bool p0.fAvailable, .int .i64 p0.fOpcode, .int .i64 p0.fCode, .slice Ap0_0 p0.fQuestions.length cp0_0, .slice Ap0_1 p0.fAnswers.length cp0_1, .slice Ap0_2 p0.fAuthorities.length cp0_2, .slice Ap0_3 p0.fExtras.length cp0_3] 62 (0, 0)) :: H, R, φ⟩ (fun _ h => h) ?_
        refine c_cond rfl (fun h9 => ?_) (fun h9 => ?_)
        ·
         replace hm := ite_t hm (of_decide_eq_true h9)
         refine c_seq <| c_region <| g_v rfl r_assign <| g_v rfl r_assign <| g_nil <| d_then <| c_ret <| d_ret_then ?_
         replace hm := Option.some.inj hm
         subst hm
         refine d_retC () Try.results87 ?_ trivial (fun W h => ok_pre (H1 := [_]) (R1 := []) h (fun W hφ => hφ)) (.inr rfl)
         refine res_tmp <| res_tmp <| res_nil ?_
         exact rfl
        ·
         replace hm := ite_f hm (of_decide_eq_false h9)
         refine c_skip <| d_then <| c_seq <| c_region <| g_v rfl (r_build _ rfl (bld38_25)) ?_
         refine g_e rfl (e_box 100540 rfl) (fun g10 _ => ?_)
         refine g_v rfl r_assign <| g_nil <| d_then <| c_seq <| c_region <| g_v rfl r_move <| g_v rfl (r_field (n := 0) Try.underlying62 rfl Try.sizeOf24 rfl rfl) <| g_v rfl (r_load (tag := 100010) rfl rfl rfl Try.isAgg24) <| g_v rfl (r_conv Try.underlying24 Try.underlying3 rfl rfl) <| g_sta _ (fun W h => nilR h 11 145 2) ?_
         replace hm := bnd hm
         obtain ⟨x11, hx12, hm⟩ := hm
         refine g_cn ⟨w0, M, (1000, g10, .cells #[.string (⟨#[]⟩ : ByteArray), .slice none 0 0] 38 (0, 0)) :: (100010, g1, .cells #[.int .u16 p0.fID, .bool p0.fResponse, .bool p0.fAuthoritative, .bool p0.fTruncated, .bool p0.fDesired, .bool p0.fAvailable, .int .i64 p0.fOpcode, .int .i64 p0.fCode, .slice Ap0_0 p0.fQuestions.length cp0_0, .slice Ap0_1 p0.fAnswers.length cp0_1, .slice Ap0_2 p0.fAuthorities.length cp0_2, .slice Ap0_3 p0.fExtras.length cp0_3] 62 (0, 0)) :: H, (1000, ⟨.slice none 0 0, 145, 2, 0, []⟩) :: R, φ⟩ (fun W h => (ok_front (t := 100540) (t' := 1000) (ok_frontR (t := 11) (t' := 1000) h rfl) rfl)) Try.call74 rfl rfl (c_ref04_Packer_Number (w64 p0.fID) 2 g10 (⟨(⟨#[]⟩ : ByteArray), ([] : List Gref04_Place)⟩ : Gref04_Packer) none 0 (Nat.le_refl 0) _ hx12) (fun ⟨A13, c14⟩ hc14 => ?_)
         refine g_sta _ (fun W h => (ok_frontR (t := 2000) (t' := 11) (ok_front (t := 1000) (t' := 100540) h rfl) rfl)) <| g_nil <| d_then <| c_seq <| ga_start (n := 33) ⟨w0, M, (100010, g1, .cells #[.int .u16 p0.fID, .bool p0.fResponse, .bool p0.fAuthoritative, .bool p0.fTruncated, .bool p0.fDesired, .bool p0.fAvailable, .int .i64 p0.fOpcode, .int .i64 p0.fCode, .slice Ap0_0 p0.fQuestions.length cp0_0, .slice Ap0_1 p0.fAnswers.length cp0_1, .slice Ap0_2 p0.fAuthorities.length cp0_2, .slice Ap0_3 p0.fExtras.length cp0_3] 62 (0, 0)) :: H, R, φ⟩ [] #[false, false, false, false, false, false, false, false, false, false, false, false, false, false, false, false, false, false, false, false, false, false, false, false, false, false, false, false, false, false, false, false, false] (fun W h => ((h.dropR (t := 11) rfl).dropH (t := 100540) rfl).phi (fun W hφ => hφ)) mixed rfl rfl <| ga_v (i := 0) (bz 33 1) rfl (by kernel_rfl) (fun _ _ _ _ h => h) rfl (r_move) <| ga_v (i := 1) (bz 33 3) rfl (by kernel_rfl) (fun _ _ _ _ h => h) rfl (r_field (n := 1) Try.underlying62 rfl Try.sizeOf4 rfl rfl) <| ga_v (i := 2) (bz 33 7) rfl (by kernel_rfl) (fun _ _ _ _ h => h) rfl (r_load (tag := 100010) rfl rfl rfl Try.isAgg4) <| ga_v (i := 5) (bz 33 39) rfl (by kernel_rfl) (fun _ _ _ _ h => h) rfl (r_field (n := 6) Try.underlying62 rfl Try.sizeOf3 rfl rfl) <| ga_v (i := 6) (bz 33 103) rfl (by kernel_rfl) (fun _ _ _ _ h => h) rfl (r_load (tag := 100010) rfl rfl rfl Try.isAgg3) ?_
         refine ga_v (i := 7) (bz 33 231) rfl (by kernel_rfl) (fun _ _ _ _ h => h) rfl (r_mul rfl rfl rfl) <| ga_v (i := 9) (bz 33 743) rfl (by kernel_rfl) (fun _ _ _ _ h => h) rfl (r_field (n := 2) Try.underlying62 rfl Try.sizeOf4 rfl rfl) <| ga_v (i := 10) (bz 33 1767) rfl (by kernel_rfl) (fun _ _ _ _ h => h) rfl (r_load (tag := 100010) rfl rfl rfl Try.isAgg4) <| ga_v (i := 14) (bz 33 18151) rfl (by kernel_rfl) (fun _ _ _ _ h => h) rfl (r_field (n := 3) Try.underlying62 rfl Try.sizeOf4 rfl rfl) <| ga_v (i := 15) (bz 33 50919) rfl (by kernel_rfl) (fun _ _ _ _ h => h) rfl (r_load (tag := 100010) rfl rfl rfl Try.isAgg4) <| ga_v (i := 19) (bz 33 575207) rfl (by kernel_rfl) (fun _ _ _ _ h => h) rfl (r_field (n := 4) Try.underlying62 rfl Try.sizeOf4 rfl rfl) <| ga_v (i := 20) (bz 33 1623783) rfl (by kernel_rfl) (fun _ _ _ _ h => h) rfl (r_load (tag := 100010) rfl rfl rfl Try.isAgg4) <| ga_v (i := 24) (bz 33 18400999) rfl (by kernel_rfl) (fun _ _ _ _ h => h) rfl (r_field (n := 5) Try.underlying62 rfl Try.sizeOf4 rfl rfl) <| ga_v (i := 25) (bz 33 51955431) rfl (by kernel_rfl) (fun _ _ _ _ h => h) rfl (r_load (tag := 100010) rfl rfl rfl Try.isAgg4) <| ga_v (i := 29) (bz 33 588826343) rfl (by kernel_rfl) (fun _ _ _ _ h => h) rfl (r_field (n := 7) Try.underlying62 rfl Try.sizeOf3 rfl rfl) ?_
         refine ga_v (i := 30) (bz 33 1662568167) rfl (by kernel_rfl) (fun _ _ _ _ h => h) rfl (r_load (tag := 100010) rfl rfl rfl Try.isAgg3) ?_
         replace hm := bnd hm
         obtain ⟨x46, hx47, hm⟩ := hm
         refine ga_cn (first := #[]) (i := 3) (bz 33 1662568175) rfl (by kernel_rfl) (by decide)  ⟨w0, M, _, _, φ⟩ (fun _ h => h) Try.call116 rfl rfl rfl (c_ref06_bit p0.fResponse _ hx47) (fun _ W _ h => ((h.dropR (t := 11) rfl).dropH (t := 100540) rfl).phi (fun W hφ => hφ)) (fun _ _ => ?_)
         refine ga_v (i := 4) (bz 33 1662568191) rfl (by kernel_rfl) (fun _ _ _ _ h => h) rfl (r_mul rfl rfl rfl) <| ga_v (i := 8) (bz 33 1662568447) rfl (by kernel_rfl) (fun _ _ _ _ h => h) rfl (r_add rfl rfl rfl) ?_
         replace hm := bnd hm
         obtain ⟨x48, hx49, hm⟩ := hm
         refine ga_cn (first := #[]) (i := 11) (bz 33 1662570495) rfl (by kernel_rfl) (by decide)  ⟨w0, M, _, _, φ⟩ (fun _ h => h) Try.call116 rfl rfl rfl (c_ref06_bit p0.fAuthoritative _ hx49) (fun _ W _ h => ((h.dropR (t := 11) rfl).dropH (t := 100540) rfl).phi (fun W hφ => hφ)) (fun _ _ => ?_)
         refine ga_v (i := 12) (bz 33 1662574591) rfl (by kernel_rfl) (fun _ _ _ _ h => h) rfl (r_mul rfl rfl rfl) <| ga_v (i := 13) (bz 33 1662582783) rfl (by kernel_rfl) (fun _ _ _ _ h => h) rfl (r_add rfl rfl rfl) ?_
         replace hm := bnd hm
         obtain ⟨x50, hx51, hm⟩ := hm
         refine ga_cn (first := #[]) (i := 16) (bz 33 1662648319) rfl (by kernel_rfl) (by decide)  ⟨w0, M, _, _, φ⟩ (fun _ h => h) Try.call116 rfl rfl rfl (c_ref06_bit p0.fTruncated _ hx51) (fun _ W _ h => ((h.dropR (t := 11) rfl).dropH (t := 100540) rfl).phi (fun W hφ => hφ)) (fun _ _ => ?_)
         refine ga_v (i := 17) (bz 33 1662779391) rfl (by kernel_rfl) (fun _ _ _ _ h => h) rfl (r_mul rfl rfl rfl) <| ga_v (i := 18) (bz 33 1663041535) rfl (by kernel_rfl) (fun _ _ _ _ h => h) rfl (r_add rfl rfl rfl) ?_
         replace hm := bnd hm
         obtain ⟨x52, hx53, hm⟩ := hm
         refine ga_cn (first := #[]) (i := 21) (bz 33 1665138687) rfl (by kernel_rfl) (by decide)  ⟨w0, M, _, _, φ⟩ (fun _ h => h) Try.call116 rfl rfl rfl (c_ref06_bit p0.fDesired _ hx53) (fun _ W _ h => ((h.dropR (t := 11) rfl).dropH (t := 100540) rfl).phi (fun W hφ => hφ)) (fun _ _ => ?_)
         refine ga_v (i := 22) (bz 33 1669332991) rfl (by kernel_rfl) (fun _ _ _ _ h => h) rfl (r_mul rfl rfl rfl) <| ga_v (i := 23) (bz 33 1677721599) rfl (by kernel_rfl) (fun _ _ _ _ h => h) rfl (r_add rfl rfl rfl) ?_
         replace hm := bnd hm
         obtain ⟨x54, hx55, hm⟩ := hm
         refine ga_cn (first := #[]) (i := 26) (bz 33 1744830463) rfl (by kernel_rfl) (by decide)  ⟨w0, M, _, _, φ⟩ (fun _ h => h) Try.call116 rfl rfl rfl (c_ref06_bit p0.fAvailable _ hx55) (fun _ W _ h => ((h.dropR (t := 11) rfl).dropH (t := 100540) rfl).phi (fun W hφ => hφ)) (fun _ _ => ?_)
         refine ga_r (i := 27) (bz 33 1879048191) rfl (by kernel_rfl) (by decide) rfl (r_mul rfl rfl rfl) <| ga_r (i := 28) (bz 33 2147483647) rfl (by kernel_rfl) (by decide) rfl (r_add rfl rfl rfl) <| ga_r (i := 31) (bz 33 4294967295) rfl (by kernel_rfl) (by decide) rfl (r_add rfl rfl rfl) ?_
         replace hm := bnd hm
         obtain ⟨x56, hx57, hm⟩ := hm
         refine ga_cn (first := #[]) (i := 32) (bz 33 8589934591) rfl (by kernel_rfl) (by decide)  ⟨w0, M, (1000, g10, .cells #[.string x11.fB, .slice A13 x11.fL.length c14] 38 (0, 0)) :: (100010, g1, .cells #[.int .u16 p0.fID, .bool p0.fResponse, .bool p0.fAuthoritative, .bool p0.fTruncated, .bool p0.fDesired, .bool p0.fAvailable, .int .i64 p0.fOpcode, .int .i64 p0.fCode, .slice Ap0_0 p0.fQuestions.length cp0_0, .slice Ap0_1 p0.fAnswers.length cp0_1, .slice Ap0_2 p0.fAuthorities.length cp0_2, .slice Ap0_3 p0.fExtras.length cp0_3] 62 (0, 0)) :: H, (1000, ⟨.slice A13 x11.fL.length c14, 145, 2, x11.fL.length, x11.fL.flatMap Gref04_Place.enc⟩) :: R, φ⟩ (fun W h => (ok_front (t := 100540) (t' := 1000) (ok_frontR (t := 11) (t' := 1000) h rfl) rfl)) Try.call74 rfl rfl rfl (c_ref04_Packer_Number (w64 ((w64 ((w64 ((w64 ((w64 ((w64 ((w64 (x46 * 32768)) + (w64 (p0.fOpcode * 2048)))) + (w64 (x48 * 1024)))) + (w64 (x50 * 512)))) + (w64 (x52 * 256)))) + (w64 (x54 * 128)))) + p0.fCode)) 2 g10 x11 A13 c14 hc14 _ hx57) (fun ⟨A58, c59⟩ W hc59 h => (((ok_frontR (t := 2000) (t' := 11) (ok_front (t := 1000) (t' := 100540) h rfl) rfl).dropR (t := 11) rfl).dropH (t := 100540) rfl).phi (fun W hφ => hφ)) (fun ⟨A58, c59⟩ hc59 => ?_)
         refine ga_sta _ (fun W h => (ok_frontR (t := 2000) (t' := 11) (ok_front (t := 1000) (t' := 100540) h rfl) rfl)) <| ga_done (by kernel_rfl) <| d_then ?_
         refine c_flat [(1, .pointer (some ⟨g1, 0, none⟩)), (4, .pointer (some ⟨g10, 0, none⟩))] ⟨rfl, rfl, trivial⟩ (fun u => ?_)
         refine c_sta ⟨w0, M, (100540, g10, .cells #[.string x56.fB, .slice A58 x56.fL.length c59] 38 (0, 0)) :: (100010, g1, .cells #[.int .u16 p0.fID, .bool p0.fResponse, .bool p0.fAuthoritative, .bool p0.fTruncated, .bool p0.fDesired, .bool p0.fAvailable, .int .i64 p0.fOpcode, .int .i64 p0.fCode, .slice Ap0_0 p0.fQuestions.length cp0_0, .slice Ap0_1 p0.fAnswers.length cp0_1, .slice Ap0_2 p0.fAuthorities.length cp0_2, .slice Ap0_3 p0.fExtras.length cp0_3] 62 (0, 0)) :: H, (11, ⟨.slice A58 x56.fL.length c59, 145, 2, x56.fL.length, x56.fL.flatMap Gref04_Place.enc⟩) :: R, φ⟩ (fun _ h => h) <| c_seq <| c_region <| g_v rfl r_move <| g_v rfl (r_field (n := 8) Try.underlying62 rfl Try.sizeOf60 rfl rfl) <| g_v rfl (r_load (tag := 100010) rfl rfl rfl Try.isAgg60) <| g_v rfl (r_lenL Try.underlying60 rfl) ?_
         replace hm := bnd hm
         obtain ⟨x61, hx62, hm⟩ := hm
         refine g_cn ⟨w0, M, (1000, g10, .cells #[.string x56.fB, .slice A58 x56.fL.length c59] 38 (0, 0)) :: (100010, g1, .cells #[.int .u16 p0.fID, .bool p0.fResponse, .bool p0.fAuthoritative, .bool p0.fTruncated, .bool p0.fDesired, .bool p0.fAvailable, .int .i64 p0.fOpcode, .int .i64 p0.fCode, .slice Ap0_0 p0.fQuestions.length cp0_0, .slice Ap0_1 p0.fAnswers.length cp0_1, .slice Ap0_2 p0.fAuthorities.length cp0_2, .slice Ap0_3 p0.fExtras.length cp0_3] 62 (0, 0)) :: H, (1000, ⟨.slice A58 x56.fL.length c59, 145, 2, x56.fL.length, x56.fL.flatMap Gref04_Place.enc⟩) :: R, φ⟩ (fun W h => (ok_front (t := 100540) (t' := 1000) (ok_frontR (t := 11) (t' := 1000) h rfl) rfl)) Try.call74 rfl rfl (c_ref04_Packer_Number (p0.fQuestions.length : Int) 2 g10 x56 A58 c59 hc59 _ hx62) (fun ⟨A63, c64⟩ hc64 => ?_)
         refine g_sta _ (fun W h => (ok_frontR (t := 2000) (t' := 11) (ok_front (t := 1000) (t' := 100540) h rfl) rfl)) <| g_nil <| d_then <| c_seq <| c_region <| g_v rfl r_move <| g_v rfl (r_field (n := 9) Try.underlying62 rfl Try.sizeOf32 rfl rfl) <| g_v rfl (r_load (tag := 100010) rfl rfl rfl Try.isAgg32) <| g_v rfl (r_lenL Try.underlying32 rfl) ?_
         replace hm := bnd hm
         obtain ⟨x66, hx67, hm⟩ := hm
         refine g_cn ⟨w0, M, (1000, g10, .cells #[.string x61.fB, .slice A63 x61.fL.length c64] 38 (0, 0)) :: (100010, g1, .cells #[.int .u16 p0.fID, .bool p0.fResponse, .bool p0.fAuthoritative, .bool p0.fTruncated, .bool p0.fDesired, .bool p0.fAvailable, .int .i64 p0.fOpcode, .int .i64 p0.fCode, .slice Ap0_0 p0.fQuestions.length cp0_0, .slice Ap0_1 p0.fAnswers.length cp0_1, .slice Ap0_2 p0.fAuthorities.length cp0_2, .slice Ap0_3 p0.fExtras.length cp0_3] 62 (0, 0)) :: H, (1000, ⟨.slice A63 x61.fL.length c64, 145, 2, x61.fL.length, x61.fL.flatMap Gref04_Place.enc⟩) :: R, φ⟩ (fun W h => (ok_front (t := 100540) (t' := 1000) (ok_frontR (t := 11) (t' := 1000) h rfl) rfl)) Try.call74 rfl rfl (c_ref04_Packer_Number (p0.fAnswers.length : Int) 2 g10 x61 A63 c64 hc64 _ hx67) (fun ⟨A68, c69⟩ hc69 => ?_)
         refine g_sta _ (fun W h => (ok_frontR (t := 2000) (t' := 11) (ok_front (t := 1000) (t' := 100540) h rfl) rfl)) <| g_nil <| d_then ?_
         refine c_flat [(1, .pointer (some ⟨g1, 0, none⟩)), (4, .pointer (some ⟨g10, 0, none⟩))] ⟨rfl, rfl, trivial⟩ (fun u => ?_)
         refine c_sta ⟨w0, M, (100540, g10, .cells #[.string x66.fB, .slice A68 x66.fL.length c69] 38 (0, 0)) :: (100010, g1, .cells #[.int .u16 p0.fID, .bool p0.fResponse, .bool p0.fAuthoritative, .bool p0.fTruncated, .bool p0.fDesired, .bool p0.fAvailable, .int .i64 p0.fOpcode, .int .i64 p0.fCode, .slice Ap0_0 p0.fQuestions.length cp0_0, .slice Ap0_1 p0.fAnswers.length cp0_1, .slice Ap0_2 p0.fAuthorities.length cp0_2, .slice Ap0_3 p0.fExtras.length cp0_3] 62 (0, 0)) :: H, (11, ⟨.slice A68 x66.fL.length c69, 145, 2, x66.fL.length, x66.fL.flatMap Gref04_Place.enc⟩) :: R, φ⟩ (fun _ h => h) <| c_seq <| c_region <| g_v rfl r_move <| g_v rfl (r_field (n := 10) Try.underlying62 rfl Try.sizeOf32 rfl rfl) <| g_v rfl (r_load (tag := 100010) rfl rfl rfl Try.isAgg32) <| g_v rfl (r_lenL Try.underlying32 rfl) ?_
         replace hm := bnd hm
         obtain ⟨x71, hx72, hm⟩ := hm
         refine g_cn ⟨w0, M, (1000, g10, .cells #[.string x66.fB, .slice A68 x66.fL.length c69] 38 (0, 0)) :: (100010, g1, .cells #[.int .u16 p0.fID, .bool p0.fResponse, .bool p0.fAuthoritative, .bool p0.fTruncated, .bool p0.fDesired, .bool p0.fAvailable, .int .i64 p0.fOpcode, .int .i64 p0.fCode, .slice Ap0_0 p0.fQuestions.length cp0_0, .slice Ap0_1 p0.fAnswers.length cp0_1, .slice Ap0_2 p0.fAuthorities.length cp0_2, .slice Ap0_3 p0.fExtras.length cp0_3] 62 (0, 0)) :: H, (1000, ⟨.slice A68 x66.fL.length c69, 145, 2, x66.fL.length, x66.fL.flatMap Gref04_Place.enc⟩) :: R, φ⟩ (fun W h => (ok_front (t := 100540) (t' := 1000) (ok_frontR (t := 11) (t' := 1000) h rfl) rfl)) Try.call74 rfl rfl (c_ref04_Packer_Number (p0.fAuthorities.length : Int) 2 g10 x66 A68 c69 hc69 _ hx72) (fun ⟨A73, c74⟩ hc74 => ?_)
         refine g_sta _ (fun W h => (ok_frontR (t := 2000) (t' := 11) (ok_front (t := 1000) (t' := 100540) h rfl) rfl)) <| g_nil <| d_then <| c_seq <| c_region <| g_v rfl r_move <| g_v rfl (r_field (n := 11) Try.underlying62 rfl Try.sizeOf32 rfl rfl) <| g_v rfl (r_load (tag := 100010) rfl rfl rfl Try.isAgg32) <| g_v rfl (r_lenL Try.underlying32 rfl) ?_
         replace hm := bnd hm
         obtain ⟨x76, hx77, hm⟩ := hm
         refine g_cn ⟨w0, M, (1000, g10, .cells #[.string x71.fB, .slice A73 x71.fL.length c74] 38 (0, 0)) :: (100010, g1, .cells #[.int .u16 p0.fID, .bool p0.fResponse, .bool p0.fAuthoritative, .bool p0.fTruncated, .bool p0.fDesired, .bool p0.fAvailable, .int .i64 p0.fOpcode, .int .i64 p0.fCode, .slice Ap0_0 p0.fQuestions.length cp0_0, .slice Ap0_1 p0.fAnswers.length cp0_1, .slice Ap0_2 p0.fAuthorities.length cp0_2, .slice Ap0_3 p0.fExtras.length cp0_3] 62 (0, 0)) :: H, (1000, ⟨.slice A73 x71.fL.length c74, 145, 2, x71.fL.length, x71.fL.flatMap Gref04_Place.enc⟩) :: R, φ⟩ (fun W h => (ok_front (t := 100540) (t' := 1000) (ok_frontR (t := 11) (t' := 1000) h rfl) rfl)) Try.call74 rfl rfl (c_ref04_Packer_Number (p0.fExtras.length : Int) 2 g10 x71 A73 c74 hc74 _ hx77) (fun ⟨A78, c79⟩ hc79 => ?_)
         refine g_sta _ (fun W h => (ok_frontR (t := 2000) (t' := 11) (ok_front (t := 1000) (t' := 100540) h rfl) rfl)) <| g_nil <| d_then ?_
         refine c_flat [(1, .pointer (some ⟨g1, 0, none⟩)), (4, .pointer (some ⟨g10, 0, none⟩))] ⟨rfl, rfl, trivial⟩ (fun u => ?_)
         refine c_sta ⟨w0, M, (100540, g10, .cells #[.string x76.fB, .slice A78 x76.fL.length c79] 38 (0, 0)) :: (100010, g1, .cells #[.int .u16 p0.fID, .bool p0.fResponse, .bool p0.fAuthoritative, .bool p0.fTruncated, .bool p0.fDesired, .bool p0.fAvailable, .int .i64 p0.fOpcode, .int .i64 p0.fCode, .slice Ap0_0 p0.fQuestions.length cp0_0, .slice Ap0_1 p0.fAnswers.length cp0_1, .slice Ap0_2 p0.fAuthorities.length cp0_2, .slice Ap0_3 p0.fExtras.length cp0_3] 62 (0, 0)) :: H, (11, ⟨.slice A78 x76.fL.length c79, 145, 2, x76.fL.length, x76.fL.flatMap Gref04_Place.enc⟩) :: R, φ⟩ (fun _ h => h) <| c_seq <| c_seq <| c_region <| g_v rfl r_assign <| g_nil <| d_then ?_
         refine c_cut (ι := (List Gref04_Place) × ByteArray × Option Addr × Nat) [1, 4] (fun ⟨l145, s148, A146, c147⟩ => []) (fun ⟨l145, s148, A146, c147⟩ => ⟨w0, M, (100540, g10, .cells #[.string s148, .slice A146 l145.length c147] 38 (0, 0)) :: (100010, g1, .cells #[.int .u16 p0.fID, .bool p0.fResponse, .bool p0.fAuthoritative, .bool p0.fTruncated, .bool p0.fDesired, .bool p0.fAvailable, .int .i64 p0.fOpcode, .int .i64 p0.fCode, .slice Ap0_0 p0.fQuestions.length cp0_0, .slice Ap0_1 p0.fAnswers.length cp0_1, .slice Ap0_2 p0.fAuthorities.length cp0_2, .slice Ap0_3 p0.fExtras.length cp0_3] 62 (0, 0)) :: H, (11, ⟨.slice A146 l145.length c147, 145, 2, l145.length, l145.flatMap Gref04_Place.enc⟩) :: R, φ⟩) (fun ⟨l145, s148, A146, c147⟩ => m_ref06_all_j1 p0 l145 s148 = some r ∧ l145.length ≤ c147) ?_ (fun ⟨l145, s148, A146, c147⟩ u ⟨hm, hc147⟩ => ?_)
         ·
          refine c_block ?_
          replace hm := bnd hm
          obtain ⟨out4, hl4, hr4⟩ := hm
          obtain ⟨n323', hl4⟩ := loop_lp hl4
          refine c_loopU (ι := Nat × (List Gref04_Place) × Int × ByteArray × Option Addr × Nat) [1, 4, 5] (fun ⟨n323, l289, i292, s293, A290, c291⟩ => [(5, .int .i64 i292)]) (fun ⟨n323, l289, i292, s293, A290, c291⟩ => ⟨w0, M, (100540, g10, .cells #[.string s293, .slice A290 l289.length c291] 38 (0, 0)) :: (100010, g1, .cells #[.int .u16 p0.fID, .bool p0.fResponse, .bool p0.fAuthoritative, .bool p0.fTruncated, .bool p0.fDesired, .bool p0.fAvailable, .int .i64 p0.fOpcode, .int .i64 p0.fCode, .slice Ap0_0 p0.fQuestions.length cp0_0, .slice Ap0_1 p0.fAnswers.length cp0_1, .slice Ap0_2 p0.fAuthorities.length cp0_2, .slice Ap0_3 p0.fExtras.length cp0_3] 62 (0, 0)) :: H, (11, ⟨.slice A290 l289.length c291, 145, 2, l289.length, l289.flatMap Gref04_Place.enc⟩) :: R, φ⟩) (fun ⟨n323, l289, i292, s293, A290, c291⟩ => Lp (fun s => m_ref06_all_s4 p0 s.1 s.2.1 s.2.2) n323 (l289, i292, s293) out4 ∧ l289.length ≤ c291) (fun ⟨n323, l289, i292, s293, A290, c291⟩ => n323) (n323', x76.fL, 0, x76.fB, A78, c79) ⟨hl4, hc79⟩ ⟨rfl, rfl, rfl, trivial⟩ (fun W h => h.phi (fun W hφ => hφ)) (fun ⟨n323, l289, i292, s293, A290, c291⟩ u ⟨hlp, hc291⟩ => ?_)
          obtain ⟨o4, hm, hnx4⟩ := lp_step hlp
          clear hlp
          replace hm : m_ref06_all_s4 p0 l289 i292 s293 = some o4 := hm
          unfold m_ref06_all_s4 at hm
          refine c_flat [(1, .pointer (some ⟨g1, 0, none⟩)), (4, .pointer (some ⟨g10, 0, none⟩)), (5, .int .i64 i292)] ⟨rfl, rfl, rfl, trivial⟩ (fun u => ?_)
          refine c_sta ⟨w0, M, (100540, g10, .cells #[.string s293, .slice A290 l289.length c291] 38 (0, 0)) :: (100010, g1, .cells #[.int .u16 p0.fID, .bool p0.fResponse, .bool p0.fAuthoritative, .bool p0.fTruncated, .bool p0.fDesired, .bool p0.fAvailable, .int .i64 p0.fOpcode, .int .i64 p0.fCode, .slice Ap0_0 p0.fQuestions.length cp0_0, .slice Ap0_1 p0.fAnswers.length cp0_1, .slice Ap0_2 p0.fAuthorities.length cp0_2, .slice Ap0_3 p0.fExtras.length cp0_3] 62 (0, 0)) :: H, (11, ⟨.slice A290 l289.length c291, 145, 2, l289.length, l289.flatMap Gref04_Place.enc⟩) :: R, φ⟩ (fun _ h => h) <| c_seq <| c_seq <| c_region <| g_v rfl r_move <| g_v rfl (r_field (n := 8) Try.underlying62 rfl Try.sizeOf60 rfl rfl) <| g_v rfl (r_load (tag := 100010) rfl rfl rfl Try.isAgg60) <| g_v rfl (r_lenL Try.underlying60 rfl) <| g_v rfl (r_lss rfl rfl) <| g_nil ?_
          refine d_then ?_
          refine c_cond rfl (fun h324 => ?_) (fun h324 => ?_)
          ·
           replace hm := ite_t hm (of_decide_eq_true h324)
           refine c_skip <| d_then <| c_seq <| c_block <| c_seq <| c_region <| g_v rfl (r_field (n := 8) Try.underlying62 rfl Try.sizeOf60 rfl rfl) <| g_v rfl (r_load (tag := 100010) rfl rfl rfl Try.isAgg60) <| g_v rfl r_move ?_
           replace hm := bnd hm
           obtain ⟨x325, hx325, hm⟩ := hm
           refine g_know _ (fun W hS => cl_at (p := (Sta.mk w0 M H R φ).ok) (sz := 3) (fun _ => rfl) (by decide) (ok_pre (H1 := [_, _]) (R1 := [_]) hS (fun W h => h)) fp0_0 hx325) ?_
           rintro ⟨ad326, hA328, f327⟩
           refine g_v rfl (r_ix Try.underlying60 Try.sizeOf74 rfl hA328 rfl hx325) <| g_v rfl (r_ldA rfl Try.isAgg74 Try.sizeOf74 (fun W hS => (f327 W (ok_pre (H1 := [_, _]) (R1 := [_]) hS (fun W h => h))).take 3) rfl) ?_
           refine g_e rfl (e_alloc 100060 Try.zeroValue74) (fun g329 _ => ?_)
           refine g_storeL (tag := 100060) rfl rfl rfl rfl Try.sizeOf74 rfl rfl <| g_nil <| d_then ?_
           refine c_flat [(1, .pointer (some ⟨g1, 0, none⟩)), (4, .pointer (some ⟨g10, 0, none⟩)), (5, .int .i64 i292), (6, .pointer (some ⟨g329, 0, none⟩))] ⟨rfl, rfl, rfl, rfl, trivial⟩ (fun u => ?_)
           refine c_sta ⟨w0, M, (100060, g329, .cells #[.string x325.fName, .int .u16 x325.fType, .int .u16 x325.fClass] 74 (0, 0)) :: (100540, g10, .cells #[.string s293, .slice A290 l289.length c291] 38 (0, 0)) :: (100010, g1, .cells #[.int .u16 p0.fID, .bool p0.fResponse, .bool p0.fAuthoritative, .bool p0.fTruncated, .bool p0.fDesired, .bool p0.fAvailable, .int .i64 p0.fOpcode, .int .i64 p0.fCode, .slice Ap0_0 p0.fQuestions.length cp0_0, .slice Ap0_1 p0.fAnswers.length cp0_1, .slice Ap0_2 p0.fAuthorities.length cp0_2, .slice Ap0_3 p0.fExtras.length cp0_3] 62 (0, 0)) :: H, (11, ⟨.slice A290 l289.length c291, 145, 2, l289.length, l289.flatMap Gref04_Place.enc⟩) :: R, φ⟩ (fun _ h => h) <| c_seq <| c_region <| g_v rfl r_move <| g_v rfl (r_field (n := 0) Try.underlying74 rfl Try.sizeOf9 rfl rfl) <| g_v rfl (r_load (tag := 100060) rfl rfl rfl Try.isAgg9) ?_
           replace hm := bnd hm
           obtain ⟨⟨x330, x331⟩, hx332, hm⟩ := hm
           refine g_cn ⟨w0, M, (1000, g10, .cells #[.string s293, .slice A290 l289.length c291] 38 (0, 0)) :: (100060, g329, .cells #[.string x325.fName, .int .u16 x325.fType, .int .u16 x325.fClass] 74 (0, 0)) :: (100010, g1, .cells #[.int .u16 p0.fID, .bool p0.fResponse, .bool p0.fAuthoritative, .bool p0.fTruncated, .bool p0.fDesired, .bool p0.fAvailable, .int .i64 p0.fOpcode, .int .i64 p0.fCode, .slice Ap0_0 p0.fQuestions.length cp0_0, .slice Ap0_1 p0.fAnswers.length cp0_1, .slice Ap0_2 p0.fAuthorities.length cp0_2, .slice Ap0_3 p0.fExtras.length cp0_3] 62 (0, 0)) :: H, (1000, ⟨.slice A290 l289.length c291, 145, 2, l289.length, l289.flatMap Gref04_Place.enc⟩) :: R, φ⟩ (fun W h => (ok_front (t := 100540) (t' := 1000) (ok_frontR (t := 11) (t' := 1000) h rfl) rfl)) Try.call73 rfl rfl (c_ref04_Packer_Name x325.fName true g10 (⟨s293, l289⟩ : Gref04_Packer) A290 c291 hc291 _ hx332) (fun ⟨A333, c334⟩ hc334 => ?_)
           refine g_sta _ (fun W h => (ok_frontR (t := 2000) (t' := 11) (ok_front (t := 1000) (t' := 100540) h rfl) rfl)) <| g_v rfl r_assign <| g_nil <| d_then <| c_seq <| c_seq <| c_region <| g_v rfl r_move <| g_v rfl (r_neq rfl rfl) <| g_nil ?_
           refine d_then ?_
           refine c_cond rfl (fun h337 => ?_) (fun h337 => ?_)
           ·
            replace hm := ite_t hm (of_decide_eq_true h337)
            refine c_seq <| c_region <| g_v rfl r_move <| g_v rfl r_assign <| g_v rfl r_assign <| g_nil <| d_then ?_
            refine c_flat [(2, .string (⟨#[]⟩ : ByteArray)), (3, .int .i64 x330)] ⟨rfl, rfl, trivial⟩ (fun u => ?_)
            refine c_sta ⟨w0, M, (100540, g10, .cells #[.string x331.fB, .slice A333 x331.fL.length c334] 38 (0, 0)) :: (100060, g329, .cells #[.string x325.fName, .int .u16 x325.fType, .int .u16 x325.fClass] 74 (0, 0)) :: (100010, g1, .cells #[.int .u16 p0.fID, .bool p0.fResponse, .bool p0.fAuthoritative, .bool p0.fTruncated, .bool p0.fDesired, .bool p0.fAvailable, .int .i64 p0.fOpcode, .int .i64 p0.fCode, .slice Ap0_0 p0.fQuestions.length cp0_0, .slice Ap0_1 p0.fAnswers.length cp0_1, .slice Ap0_2 p0.fAuthorities.length cp0_2, .slice Ap0_3 p0.fExtras.length cp0_3] 62 (0, 0)) :: H, (11, ⟨.slice A333 x331.fL.length c334, 145, 2, x331.fL.length, x331.fL.flatMap Gref04_Place.enc⟩) :: R, φ⟩ (fun _ h => h) <| c_ret <| d_ret_then <| d_ret_block <| d_ret_then <| d_ret_then <| d_ret_block <| d_ret_then <| d_ret_then ?_
            replace hm := nx_out (C := (fun e => Sum.elim (fun e => m_ref06_all_j1 p0 e.1 e.2) (fun x => some x) e = some r)) hm hnx4 hr4
            replace hm : some ((⟨#[]⟩ : ByteArray), x330) = some r := hm
            replace hm := Option.some.inj hm
            subst hm
            refine d_retC () Try.results87 ?_ trivial (fun W h => ok_pre (H1 := [_, _, _]) (R1 := [_]) h (fun W hφ => hφ)) (.inr rfl)
            refine res_tmp <| res_tmp <| res_nil ?_
            exact rfl
           ·
            replace hm := ite_f hm (of_decide_eq_false h337)
            refine c_skip <| d_then <| c_seq <| c_region <| g_v rfl r_move <| g_v rfl (r_field (n := 1) Try.underlying74 rfl Try.sizeOf24 rfl rfl) <| g_v rfl (r_load (tag := 100060) rfl rfl rfl Try.isAgg24) <| g_v rfl (r_conv Try.underlying24 Try.underlying3 rfl rfl) ?_
            replace hm := bnd hm
            obtain ⟨x338, hx339, hm⟩ := hm
            refine g_cn ⟨w0, M, (1000, g10, .cells #[.string x331.fB, .slice A333 x331.fL.length c334] 38 (0, 0)) :: (100060, g329, .cells #[.string x325.fName, .int .u16 x325.fType, .int .u16 x325.fClass] 74 (0, 0)) :: (100010, g1, .cells #[.int .u16 p0.fID, .bool p0.fResponse, .bool p0.fAuthoritative, .bool p0.fTruncated, .bool p0.fDesired, .bool p0.fAvailable, .int .i64 p0.fOpcode, .int .i64 p0.fCode, .slice Ap0_0 p0.fQuestions.length cp0_0, .slice Ap0_1 p0.fAnswers.length cp0_1, .slice Ap0_2 p0.fAuthorities.length cp0_2, .slice Ap0_3 p0.fExtras.length cp0_3] 62 (0, 0)) :: H, (1000, ⟨.slice A333 x331.fL.length c334, 145, 2, x331.fL.length, x331.fL.flatMap Gref04_Place.enc⟩) :: R, φ⟩ (fun W h => (ok_front (t := 100540) (t' := 1000) (ok_frontR (t := 11) (t' := 1000) h rfl) rfl)) Try.call74 rfl rfl (c_ref04_Packer_Number (w64 x325.fType) 2 g10 x331 A333 c334 hc334 _ hx339) (fun ⟨A340, c341⟩ hc341 => ?_)
            refine g_sta _ (fun W h => (ok_frontR (t := 2000) (t' := 11) (ok_front (t := 1000) (t' := 100540) h rfl) rfl)) <| g_nil <| d_then ?_
            refine c_flat [(1, .pointer (some ⟨g1, 0, none⟩)), (4, .pointer (some ⟨g10, 0, none⟩)), (5, .int .i64 i292), (6, .pointer (some ⟨g329, 0, none⟩))] ⟨rfl, rfl, rfl, rfl, trivial⟩ (fun u => ?_)
            refine c_sta ⟨w0, M, (100540, g10, .cells #[.string x338.fB, .slice A340 x338.fL.length c341] 38 (0, 0)) :: (100060, g329, .cells #[.string x325.fName, .int .u16 x325.fType, .int .u16 x325.fClass] 74 (0, 0)) :: (100010, g1, .cells #[.int .u16 p0.fID, .bool p0.fResponse, .bool p0.fAuthoritative, .bool p0.fTruncated, .bool p0.fDesired, .bool p0.fAvailable, .int .i64 p0.fOpcode, .int .i64 p0.fCode, .slice Ap0_0 p0.fQuestions.length cp0_0, .slice Ap0_1 p0.fAnswers.length cp0_1, .slice Ap0_2 p0.fAuthorities.length cp0_2, .slice Ap0_3 p0.fExtras.length cp0_3] 62 (0, 0)) :: H, (11, ⟨.slice A340 x338.fL.length c341, 145, 2, x338.fL.length, x338.fL.flatMap Gref04_Place.enc⟩) :: R, φ⟩ (fun _ h => h) <| c_region <| g_v rfl r_move <| g_v rfl (r_field (n := 2) Try.underlying74 rfl Try.sizeOf24 rfl rfl) <| g_v rfl (r_load (tag := 100060) rfl rfl rfl Try.isAgg24) <| g_v rfl (r_conv Try.underlying24 Try.underlying3 rfl rfl) ?_
            replace hm := bnd hm
            obtain ⟨x343, hx344, hm⟩ := hm
            refine g_cn ⟨w0, M, (1000, g10, .cells #[.string x338.fB, .slice A340 x338.fL.length c341] 38 (0, 0)) :: (100060, g329, .cells #[.string x325.fName, .int .u16 x325.fType, .int .u16 x325.fClass] 74 (0, 0)) :: (100010, g1, .cells #[.int .u16 p0.fID, .bool p0.fResponse, .bool p0.fAuthoritative, .bool p0.fTruncated, .bool p0.fDesired, .bool p0.fAvailable, .int .i64 p0.fOpcode, .int .i64 p0.fCode, .slice Ap0_0 p0.fQuestions.length cp0_0, .slice Ap0_1 p0.fAnswers.length cp0_1, .slice Ap0_2 p0.fAuthorities.length cp0_2, .slice Ap0_3 p0.fExtras.length cp0_3] 62 (0, 0)) :: H, (1000, ⟨.slice A340 x338.fL.length c341, 145, 2, x338.fL.length, x338.fL.flatMap Gref04_Place.enc⟩) :: R, φ⟩ (fun W h => (ok_front (t := 100540) (t' := 1000) (ok_frontR (t := 11) (t' := 1000) h rfl) rfl)) Try.call74 rfl rfl (c_ref04_Packer_Number (w64 x325.fClass) 2 g10 x338 A340 c341 hc341 _ hx344) (fun ⟨A345, c346⟩ hc346 => ?_)
            refine g_sta _ (fun W h => (ok_frontR (t := 2000) (t' := 11) (ok_front (t := 1000) (t' := 100540) h rfl) rfl)) <| g_nil <| d_normal_block <| d_then <| c_region <| g_v rfl r_move <| g_v rfl (r_add rfl rfl rfl) <| g_v rfl r_assign <| g_nil ?_
            obtain ⟨n348, hn348, hlp⟩ := nx_inl hm hnx4
            exact d_round (n348, x343.fL, w64 (i292 + 1), x343.fB, A345, c346) ⟨hlp, hc346⟩ hn348 ⟨rfl, rfl, rfl, trivial⟩ (fun W h => (h.dropH (t := 100060) rfl).phi (fun W hφ => hφ))
          ·
           replace hm := ite_f hm (of_decide_eq_false h324)
           refine c_exit <| d_exit_then <| d_exit_then <| d_exit_block ?_
           replace hm := nx_out (C := (fun e => Sum.elim (fun e => m_ref06_all_j1 p0 e.1 e.2) (fun x => some x) e = some r)) hm hnx4 hr4
           exact d_round (l289, s293, A290, c291) ⟨hm, hc291⟩ Nat.zero_lt_one ⟨rfl, rfl, trivial⟩ (fun W h => h.phi (fun W hφ => hφ))
         ·
          unfold m_ref06_all_j1 at hm
          refine d_flat [(1, .pointer (some ⟨g1, 0, none⟩)), (4, .pointer (some ⟨g10, 0, none⟩))] ⟨rfl, rfl, trivial⟩ (fun u => ?_)
          refine d_sta ⟨w0, M, (100540, g10, .cells #[.string s148, .slice A146 l145.length c147] 38 (0, 0)) :: (100010, g1, .cells #[.int .u16 p0.fID, .bool p0.fResponse, .bool p0.fAuthoritative, .bool p0.fTruncated, .bool p0.fDesired, .bool p0.fAvailable, .int .i64 p0.fOpcode, .int .i64 p0.fCode, .slice Ap0_0 p0.fQuestions.length cp0_0, .slice Ap0_1 p0.fAnswers.length cp0_1, .slice Ap0_2 p0.fAuthorities.length cp0_2, .slice Ap0_3 p0.fExtras.length cp0_3] 62 (0, 0)) :: H, (11, ⟨.slice A146 l145.length c147, 145, 2, l145.length, l145.flatMap Gref04_Place.enc⟩) :: R, φ⟩ (fun _ h => h) <| d_then <| c_seq <| c_region <| g_v rfl r_assign <| g_nil <| d_then <| c_seq <| c_region <| g_v rfl r_move ?_
          refine g_v rfl (r_field (n := 9) Try.underlying62 rfl Try.sizeOf32 rfl rfl) <| g_v rfl (r_load (tag := 100010) rfl rfl rfl Try.isAgg32) <| g_sta _ (fun W h => nilR h 12 27 5) ?_
          replace hm := bnd hm
          obtain ⟨l149, hl149, hm⟩ := hm
          refine g_e rfl (e_appR (enc := GRR.enc) (l := []) (l1 := p0.fAnswers) (l2 := l149) (tag := 12) Try.underlying32 inf27_23 rfl (by decide) (by decide) (fun _ => rfl) (fun _ => rfl) rfl (Nat.le_refl 0) rfl rfl (fun W hS => fp0_1 W (ok_pre (H1 := [_, _]) (R1 := [_, _]) hS (fun W h => h))) hl149) (fun ⟨A150, c151⟩ hc151 => ?_)
          refine g_v rfl r_assign <| g_nil <| d_then <| c_seq <| c_region <| g_v rfl r_move <| g_v rfl (r_field (n := 10) Try.underlying62 rfl Try.sizeOf32 rfl rfl) <| g_v rfl (r_load (tag := 100010) rfl rfl rfl Try.isAgg32) ?_
          replace hm := bnd hm
          obtain ⟨l152, hl152, hm⟩ := hm
          refine g_e rfl (e_appR (enc := GRR.enc) (l := l149) (l1 := p0.fAuthorities) (l2 := l152) (tag := 12) Try.underlying32 inf27_23 rfl (by decide) (by decide) (fun _ => rfl) (fun _ => rfl) rfl hc151 rfl rfl (fun W hS => fp0_2 W (ok_pre (H1 := [_, _]) (R1 := [_, _]) hS (fun W h => h))) hl152) (fun ⟨A153, c154⟩ hc154 => ?_)
          refine g_v rfl r_assign <| g_nil <| d_then ?_
          refine c_flat [(1, .pointer (some ⟨g1, 0, none⟩)), (4, .pointer (some ⟨g10, 0, none⟩)), (8, .slice A153 l152.length c154)] ⟨rfl, rfl, rfl, trivial⟩ (fun u => ?_)
          refine c_sta ⟨w0, M, (100540, g10, .cells #[.string s148, .slice A146 l145.length c147] 38 (0, 0)) :: (100010, g1, .cells #[.int .u16 p0.fID, .bool p0.fResponse, .bool p0.fAuthoritative, .bool p0.fTruncated, .bool p0.fDesired, .bool p0.fAvailable, .int .i64 p0.fOpcode, .int .i64 p0.fCode, .slice Ap0_0 p0.fQuestions.length cp0_0, .slice Ap0_1 p0.fAnswers.length cp0_1, .slice Ap0_2 p0.fAuthorities.length cp0_2, .slice Ap0_3 p0.fExtras.length cp0_3] 62 (0, 0)) :: H, (12, ⟨.slice A153 l152.length c154, 27, 5, l152.length, l152.flatMap GRR.enc⟩) :: (11, ⟨.slice A146 l145.length c147, 145, 2, l145.length, l145.flatMap Gref04_Place.enc⟩) :: R, φ⟩ (fun _ h => h) <| c_seq <| c_region <| g_v rfl r_move <| g_v rfl (r_field (n := 11) Try.underlying62 rfl Try.sizeOf32 rfl rfl) <| g_v rfl (r_load (tag := 100010) rfl rfl rfl Try.isAgg32) ?_
          replace hm := bnd hm
          obtain ⟨l155, hl155, hm⟩ := hm
          refine g_e rfl (e_appR (enc := GRR.enc) (l := l152) (l1 := p0.fExtras) (l2 := l155) (tag := 12) Try.underlying32 inf27_23 rfl (by decide) (by decide) (fun _ => rfl) (fun _ => rfl) rfl hc154 rfl rfl (fun W hS => fp0_3 W (ok_pre (H1 := [_, _]) (R1 := [_, _]) hS (fun W h => h))) hl155) (fun ⟨A156, c157⟩ hc157 => ?_)
          refine g_v rfl r_assign <| g_nil <| d_then <| c_seq <| c_seq <| c_region <| g_v rfl r_assign <| g_nil <| d_then ?_
          refine c_cut (ι := (List Gref04_Place) × ByteArray × Option Addr × Nat) [4] (fun ⟨l200, s203, A201, c202⟩ => []) (fun ⟨l200, s203, A201, c202⟩ => ⟨w0, M, (100540, g10, .cells #[.string s203, .slice A201 l200.length c202] 38 (0, 0)) :: H, (11, ⟨.slice A201 l200.length c202, 145, 2, l200.length, l200.flatMap Gref04_Place.enc⟩) :: R, φ⟩) (fun ⟨l200, s203, A201, c202⟩ => m_ref06_all_j2 l200 s203 = some r ∧ l200.length ≤ c202) ?_ (fun ⟨l200, s203, A201, c202⟩ u ⟨hm, hc202⟩ => ?_)
          ·
           refine c_block ?_
           replace hm := bnd hm
           obtain ⟨out3, hl3, hr3⟩ := hm
           obtain ⟨n245', hl3⟩ := loop_lp hl3
           refine c_loopU (ι := Nat × (List Gref04_Place) × Int × ByteArray × Option Addr × Nat) [4, 8, 9] (fun ⟨n245, l222, i225, s226, A223, c224⟩ => [(9, .int .i64 i225)]) (fun ⟨n245, l222, i225, s226, A223, c224⟩ => ⟨w0, M, (100540, g10, .cells #[.string s226, .slice A223 l222.length c224] 38 (0, 0)) :: H, (12, ⟨.slice A156 l155.length c157, 27, 5, l155.length, l155.flatMap GRR.enc⟩) :: (11, ⟨.slice A223 l222.length c224, 145, 2, l222.length, l222.flatMap Gref04_Place.enc⟩) :: R, φ⟩) (fun ⟨n245, l222, i225, s226, A223, c224⟩ => Lp (fun s => m_ref06_all_s3 l155 s.1 s.2.1 s.2.2) n245 (l222, i225, s226) out3 ∧ l222.length ≤ c224) (fun ⟨n245, l222, i225, s226, A223, c224⟩ => n245) (n245', l145, 0, s148, A146, c147) ⟨hl3, hc147⟩ ⟨rfl, rfl, rfl, trivial⟩ (fun W h => (h.dropH (t := 100010) rfl).phi (fun W hφ => hφ)) (fun ⟨n245, l222, i225, s226, A223, c224⟩ u ⟨hlp, hc224⟩ => ?_)
           obtain ⟨o3, hm, hnx3⟩ := lp_step hlp
           clear hlp
           replace hm : m_ref06_all_s3 l155 l222 i225 s226 = some o3 := hm
           unfold m_ref06_all_s3 at hm
           refine c_flat [(4, .pointer (some ⟨g10, 0, none⟩)), (8, .slice A156 l155.length c157), (9, .int .i64 i225)] ⟨rfl, rfl, rfl, trivial⟩ (fun u => ?_)
           refine c_sta ⟨w0, M, (100540, g10, .cells #[.string s226, .slice A223 l222.length c224] 38 (0, 0)) :: H, (12, ⟨.slice A156 l155.length c157, 27, 5, l155.length, l155.flatMap GRR.enc⟩) :: (11, ⟨.slice A223 l222.length c224, 145, 2, l222.length, l222.flatMap Gref04_Place.enc⟩) :: R, φ⟩ (fun _ h => h) <| c_seq <| c_seq <| c_region <| g_v rfl r_move <| g_v rfl r_move <| g_v rfl (r_lenL Try.underlying32 rfl) <| g_v rfl (r_lss rfl rfl) <| g_nil <| d_then ?_
           refine c_cond rfl (fun h246 => ?_) (fun h246 => ?_)
           ·
            replace hm := ite_t hm (of_decide_eq_true h246)
            refine c_skip <| d_then <| c_seq <| c_block <| c_seq <| c_region <| g_v rfl r_move <| g_v rfl r_move <| g_v rfl r_move ?_
            replace hm := bnd hm
            obtain ⟨x247, hx247, hm⟩ := hm
            refine g_know _ (fun W hS => cl_at (p := (Sta.ok ⟨w0, M, (100540, g10, .cells #[.string s226, .slice A223 l222.length c224] 38 (0, 0)) :: H, (12, ⟨.slice A156 l155.length c157, 27, 5, l155.length, l155.flatMap GRR.enc⟩) :: (11, ⟨.slice A223 l222.length c224, 145, 2, l222.length, l222.flatMap Gref04_Place.enc⟩) :: R, φ⟩)) (sz := 5) (fun _ => rfl) (by decide) hS (fun W hS => rowCl (S := ⟨w0, M, (100540, g10, .cells #[.string s226, .slice A223 l222.length c224] 38 (0, 0)) :: H, (12, ⟨.slice A156 l155.length c157, 27, 5, l155.length, l155.flatMap GRR.enc⟩) :: (11, ⟨.slice A223 l222.length c224, 145, 2, l222.length, l222.flatMap Gref04_Place.enc⟩) :: R, φ⟩) (tag := 12) rfl W hS) hx247) ?_
            rintro ⟨ad248, hA250, f249⟩
            refine g_v rfl (r_ix Try.underlying32 Try.sizeOf27 rfl hA250 rfl hx247) <| g_v rfl (r_ldA rfl Try.isAgg27 Try.sizeOf27 (fun W hS => (f249 W hS).take 5) rfl) ?_
            replace hm := bnd hm
            obtain ⟨⟨x251, x252⟩, hx253, hm⟩ := hm
            refine g_cn ⟨w0, M, (1000, g10, .cells #[.string s226, .slice A223 l222.length c224] 38 (0, 0)) :: H, (1000, ⟨.slice A223 l222.length c224, 145, 2, l222.length, l222.flatMap Gref04_Place.enc⟩) :: (12, ⟨.slice A156 l155.length c157, 27, 5, l155.length, l155.flatMap GRR.enc⟩) :: R, φ⟩ (fun W h => (ok_front (t := 100540) (t' := 1000) (ok_frontR (t := 11) (t' := 1000) h rfl) rfl)) Try.call24 rfl rfl (c_ref05_Put x247 g10 (⟨s226, l222⟩ : Gref04_Packer) A223 c224 hc224 _ hx253) (fun ⟨A254, c255⟩ hc255 => ?_)
            refine g_sta _ (fun W h => (ok_frontR (t := 2000) (t' := 11) (ok_front (t := 1000) (t' := 100540) h rfl) rfl)) <| g_v rfl r_assign <| g_nil <| d_then ?_
            refine c_flat [(4, .pointer (some ⟨g10, 0, none⟩)), (8, .slice A156 l155.length c157), (9, .int .i64 i225), (10, .int .i64 x251)] ⟨rfl, rfl, rfl, rfl, trivial⟩ (fun u => ?_)
            refine c_sta ⟨w0, M, (100540, g10, .cells #[.string x252.fB, .slice A254 x252.fL.length c255] 38 (0, 0)) :: H, (11, ⟨.slice A254 x252.fL.length c255, 145, 2, x252.fL.length, x252.fL.flatMap Gref04_Place.enc⟩) :: (12, ⟨.slice A156 l155.length c157, 27, 5, l155.length, l155.flatMap GRR.enc⟩) :: R, φ⟩ (fun _ h => h) <| c_seq <| c_region <| g_v rfl r_move <| g_v rfl (r_neq rfl rfl) <| g_nil <| d_then ?_
            refine c_cond rfl (fun h258 => ?_) (fun h258 => ?_)
            ·
             replace hm := ite_t hm (of_decide_eq_true h258)
             refine c_seq <| c_region <| g_v rfl r_move <| g_v rfl r_assign <| g_v rfl r_assign <| g_nil <| d_then <| c_ret <| d_ret_block <| d_ret_then ?_
             refine d_ret_then <| d_ret_block <| d_ret_then <| d_ret_then ?_
             replace hm := nx_out (C := (fun e => Sum.elim (fun e => m_ref06_all_j2 e.1 e.2) (fun x => some x) e = some r)) hm hnx3 hr3
             replace hm : some ((⟨#[]⟩ : ByteArray), x251) = some r := hm
             replace hm := Option.some.inj hm
             subst hm
             refine d_retC () Try.results87 ?_ trivial (fun W h => ok_pre (H1 := [_]) (R1 := [_, _]) h (fun W hφ => hφ)) (.inr rfl)
             refine res_tmp <| res_tmp <| res_nil ?_
             exact rfl
            ·
             replace hm := ite_f hm (of_decide_eq_false h258)
             refine c_skip <| d_normal_block <| d_then <| c_region <| g_v rfl r_move <| g_v rfl (r_add rfl rfl rfl) <| g_v rfl r_assign <| g_nil ?_
             obtain ⟨n259, hn259, hlp⟩ := nx_inl hm hnx3
             exact d_round (n259, x252.fL, w64 (i225 + 1), x252.fB, A254, c255) ⟨hlp, hc255⟩ hn259 ⟨rfl, rfl, rfl, trivial⟩ (fun W h => (ok_frontR (t := 12) (t' := 12) (ok_frontR (t := 11) (t' := 11) h rfl) rfl).phi (fun W hφ => hφ))
           ·
            replace hm := ite_f hm (of_decide_eq_false h246)
            refine c_exit <| d_exit_then <| d_exit_then <| d_exit_block ?_
            replace hm := nx_out (C := (fun e => Sum.elim (fun e => m_ref06_all_j2 e.1 e.2) (fun x => some x) e = some r)) hm hnx3 hr3
            exact d_round (l222, s226, A223, c224) ⟨hm, hc224⟩ Nat.zero_lt_one ⟨rfl, trivial⟩ (fun W h => (h.dropR (t := 12) rfl).phi (fun W hφ => hφ))
          ·
           unfold m_ref06_all_j2 at hm
           refine d_flat [(4, .pointer (some ⟨g10, 0, none⟩))] ⟨rfl, trivial⟩ (fun u => ?_)
           refine d_sta ⟨w0, M, (100540, g10, .cells #[.string s203, .slice A201 l200.length c202] 38 (0, 0)) :: H, (11, ⟨.slice A201 l200.length c202, 145, 2, l200.length, l200.flatMap Gref04_Place.enc⟩) :: R, φ⟩ (fun _ h => h) <| d_then <| c_seq <| c_region <| g_v rfl r_move <| g_v rfl (r_nilck rfl) <| g_v rfl (r_field (n := 0) Try.underlying38 rfl Try.sizeOf9 rfl rfl) <| g_v rfl (r_load (tag := 100540) rfl rfl rfl Try.isAgg9) <| g_v rfl r_assign <| g_v rfl r_assign ?_
           refine g_nil <| d_then <| c_ret ?_
           replace hm := Option.some.inj hm
           subst hm
           refine d_retC () Try.results87 ?_ trivial (fun W h => ok_pre (H1 := [_]) (R1 := [_]) h (fun W hφ => hφ)) (.inr rfl)
           refine res_tmp <| res_tmp <| res_nil ?_
           exact rfl
       ·
        replace hm := ite_t hm (of_decide_eq_true h8)
        refine g_no rfl rfl rfl rfl rfl h8 <| g_no rfl rfl rfl rfl rfl h8 <| g_no rfl rfl rfl rfl rfl h8 <| g_v rfl (r_pick1 rfl h8) <| g_nil <| d_then ?_
        refine c_flat [(1, .pointer (some ⟨g1, 0, none⟩)), (52, .bool true)] ⟨rfl, rfl, trivial⟩ (fun u => ?_)
        refine c_sta ⟨w0, M, (100010, g1, .cells #[.int .u16 p0.fID, .bool p0.fResponse, .bool p0.fAuthoritative, .bool p0.fTruncated, .bool p0.fDesired, .bool p0.fAvailable, .int .i64 p0.fOpcode, .int .i64 p0.fCode, .slice Ap0_0 p0.fQuestions.length cp0_0, .slice Ap0_1 p0.fAnswers.length cp0_1, .slice Ap0_2 p0.fAuthorities.length cp0_2, .slice Ap0_3 p0.fExtras.length cp0_3] 62 (0, 0)) :: H, R, φ⟩ (fun _ h => h) <| c_cond1 rfl rfl <| c_seq <| c_region <| g_v rfl r_assign <| g_v rfl r_assign <| g_nil <| d_then <| c_ret <| d_ret_then ?_
        replace hm := Option.some.inj hm
        subst hm
        refine d_retC () Try.results87 ?_ trivial (fun W h => ok_pre (H1 := [_]) (R1 := []) h (fun W hφ => hφ)) (.inr rfl)
        refine res_tmp <| res_tmp <| res_nil ?_
        exact rfl
      ·
       replace hm := ite_t hm (of_decide_eq_true h7)
       refine g_no rfl rfl rfl rfl rfl h7 <| g_no rfl rfl rfl rfl rfl h7 <| g_no rfl rfl rfl rfl rfl h7 <| g_v rfl (r_pick1 rfl h7) <| g_v rfl r_move <| g_no rfl rfl rfl rfl rfl rfl <| g_no rfl rfl rfl rfl rfl rfl <| g_no rfl rfl rfl rfl rfl rfl <| g_no rfl rfl rfl rfl rfl rfl <| g_v rfl (r_pick1 rfl rfl) ?_
       refine g_nil <| d_then ?_
       refine c_flat [(1, .pointer (some ⟨g1, 0, none⟩)), (52, .bool true)] ⟨rfl, rfl, trivial⟩ (fun u => ?_)
       refine c_sta ⟨w0, M, (100010, g1, .cells #[.int .u16 p0.fID, .bool p0.fResponse, .bool p0.fAuthoritative, .bool p0.fTruncated, .bool p0.fDesired, .bool p0.fAvailable, .int .i64 p0.fOpcode, .int .i64 p0.fCode, .slice Ap0_0 p0.fQuestions.length cp0_0, .slice Ap0_1 p0.fAnswers.length cp0_1, .slice Ap0_2 p0.fAuthorities.length cp0_2, .slice Ap0_3 p0.fExtras.length cp0_3] 62 (0, 0)) :: H, R, φ⟩ (fun _ h => h) <| c_cond1 rfl rfl <| c_seq <| c_region <| g_v rfl r_assign <| g_v rfl r_assign <| g_nil <| d_then <| c_ret <| d_ret_then ?_
       replace hm := Option.some.inj hm
       subst hm
       refine d_retC () Try.results87 ?_ trivial (fun W h => ok_pre (H1 := [_]) (R1 := []) h (fun W hφ => hφ)) (.inr rfl)
       refine res_tmp <| res_tmp <| res_nil ?_
       exact rfl
     ·
      replace hm := ite_t hm (of_decide_eq_true h6)
      refine g_no rfl rfl rfl rfl rfl h6 <| g_no rfl rfl rfl rfl rfl h6 <| g_no rfl rfl rfl rfl rfl h6 <| g_v rfl (r_pick1 rfl h6) <| g_v rfl r_move <| g_no rfl rfl rfl rfl rfl rfl <| g_no rfl rfl rfl rfl rfl rfl <| g_no rfl rfl rfl rfl rfl rfl <| g_no rfl rfl rfl rfl rfl rfl <| g_v rfl (r_pick1 rfl rfl) ?_
      refine g_v rfl r_move <| g_no rfl rfl rfl rfl rfl rfl <| g_no rfl rfl rfl rfl rfl rfl <| g_no rfl rfl rfl rfl rfl rfl <| g_no rfl rfl rfl rfl rfl rfl <| g_v rfl (r_pick1 rfl rfl) <| g_nil <| d_then ?_
      refine c_flat [(1, .pointer (some ⟨g1, 0, none⟩)), (52, .bool true)] ⟨rfl, rfl, trivial⟩ (fun u => ?_)
      refine c_sta ⟨w0, M, (100010, g1, .cells #[.int .u16 p0.fID, .bool p0.fResponse, .bool p0.fAuthoritative, .bool p0.fTruncated, .bool p0.fDesired, .bool p0.fAvailable, .int .i64 p0.fOpcode, .int .i64 p0.fCode, .slice Ap0_0 p0.fQuestions.length cp0_0, .slice Ap0_1 p0.fAnswers.length cp0_1, .slice Ap0_2 p0.fAuthorities.length cp0_2, .slice Ap0_3 p0.fExtras.length cp0_3] 62 (0, 0)) :: H, R, φ⟩ (fun _ h => h) <| c_cond1 rfl rfl <| c_seq <| c_region <| g_v rfl r_assign <| g_v rfl r_assign <| g_nil <| d_then <| c_ret <| d_ret_then ?_
      replace hm := Option.some.inj hm
      subst hm
      refine d_retC () Try.results87 ?_ trivial (fun W h => ok_pre (H1 := [_]) (R1 := []) h (fun W hφ => hφ)) (.inr rfl)
      refine res_tmp <| res_tmp <| res_nil ?_
      exact rfl
    ·
     replace hm := ite_t hm (of_decide_eq_true h5)
     refine g_no rfl rfl rfl rfl rfl h5 <| g_no rfl rfl rfl rfl rfl h5 <| g_no rfl rfl rfl rfl rfl h5 <| g_v rfl (r_pick1 rfl h5) <| g_v rfl r_move <| g_no rfl rfl rfl rfl rfl rfl <| g_no rfl rfl rfl rfl rfl rfl <| g_no rfl rfl rfl rfl rfl rfl <| g_no rfl rfl rfl rfl rfl rfl <| g_v rfl (r_pick1 rfl rfl) ?_
     refine g_v rfl r_move <| g_no rfl rfl rfl rfl rfl rfl <| g_no rfl rfl rfl rfl rfl rfl <| g_no rfl rfl rfl rfl rfl rfl <| g_no rfl rfl rfl rfl rfl rfl <| g_v rfl (r_pick1 rfl rfl) <| g_v rfl r_move <| g_no rfl rfl rfl rfl rfl rfl <| g_no rfl rfl rfl rfl rfl rfl <| g_no rfl rfl rfl rfl rfl rfl ?_
     refine g_no rfl rfl rfl rfl rfl rfl <| g_v rfl (r_pick1 rfl rfl) <| g_nil <| d_then ?_
     refine c_flat [(1, .pointer (some ⟨g1, 0, none⟩)), (52, .bool true)] ⟨rfl, rfl, trivial⟩ (fun u => ?_)
     refine c_sta ⟨w0, M, (100010, g1, .cells #[.int .u16 p0.fID, .bool p0.fResponse, .bool p0.fAuthoritative, .bool p0.fTruncated, .bool p0.fDesired, .bool p0.fAvailable, .int .i64 p0.fOpcode, .int .i64 p0.fCode, .slice Ap0_0 p0.fQuestions.length cp0_0, .slice Ap0_1 p0.fAnswers.length cp0_1, .slice Ap0_2 p0.fAuthorities.length cp0_2, .slice Ap0_3 p0.fExtras.length cp0_3] 62 (0, 0)) :: H, R, φ⟩ (fun _ h => h) <| c_cond1 rfl rfl <| c_seq <| c_region <| g_v rfl r_assign <| g_v rfl r_assign <| g_nil <| d_then <| c_ret <| d_ret_then ?_
     replace hm := Option.some.inj hm
     subst hm
     refine d_retC () Try.results87 ?_ trivial (fun W h => ok_pre (H1 := [_]) (R1 := []) h (fun W hφ => hφ)) (.inr rfl)
     refine res_tmp <| res_tmp <| res_nil ?_
     exact rfl
   ·
    replace hm := ite_t hm (of_decide_eq_true h4)
    refine g_no rfl rfl rfl rfl rfl h4 <| g_no rfl rfl rfl rfl rfl h4 <| g_v rfl (r_pick1 rfl h4) <| g_v rfl r_move <| g_no rfl rfl rfl rfl rfl rfl <| g_no rfl rfl rfl rfl rfl rfl <| g_no rfl rfl rfl rfl rfl rfl <| g_no rfl rfl rfl rfl rfl rfl <| g_v rfl (r_pick1 rfl rfl) <| g_v rfl r_move ?_
    refine g_no rfl rfl rfl rfl rfl rfl <| g_no rfl rfl rfl rfl rfl rfl <| g_no rfl rfl rfl rfl rfl rfl <| g_no rfl rfl rfl rfl rfl rfl <| g_v rfl (r_pick1 rfl rfl) <| g_v rfl r_move <| g_no rfl rfl rfl rfl rfl rfl <| g_no rfl rfl rfl rfl rfl rfl <| g_no rfl rfl rfl rfl rfl rfl <| g_no rfl rfl rfl rfl rfl rfl ?_
    refine g_v rfl (r_pick1 rfl rfl) <| g_v rfl r_move <| g_no rfl rfl rfl rfl rfl rfl <| g_no rfl rfl rfl rfl rfl rfl <| g_no rfl rfl rfl rfl rfl rfl <| g_no rfl rfl rfl rfl rfl rfl <| g_v rfl (r_pick1 rfl rfl) <| g_nil <| d_then ?_
    refine c_flat [(1, .pointer (some ⟨g1, 0, none⟩)), (52, .bool true)] ⟨rfl, rfl, trivial⟩ (fun u => ?_)
    refine c_sta ⟨w0, M, (100010, g1, .cells #[.int .u16 p0.fID, .bool p0.fResponse, .bool p0.fAuthoritative, .bool p0.fTruncated, .bool p0.fDesired, .bool p0.fAvailable, .int .i64 p0.fOpcode, .int .i64 p0.fCode, .slice Ap0_0 p0.fQuestions.length cp0_0, .slice Ap0_1 p0.fAnswers.length cp0_1, .slice Ap0_2 p0.fAuthorities.length cp0_2, .slice Ap0_3 p0.fExtras.length cp0_3] 62 (0, 0)) :: H, R, φ⟩ (fun _ h => h) <| c_cond1 rfl rfl <| c_seq <| c_region <| g_v rfl r_assign <| g_v rfl r_assign <| g_nil <| d_then <| c_ret <| d_ret_then ?_
    replace hm := Option.some.inj hm
    subst hm
    refine d_retC () Try.results87 ?_ trivial (fun W h => ok_pre (H1 := [_]) (R1 := []) h (fun W hφ => hφ)) (.inr rfl)
    refine res_tmp <| res_tmp <| res_nil ?_
    exact rfl
  ·
   replace hm := ite_t hm (of_decide_eq_true h3)
   refine g_no rfl rfl rfl rfl rfl h3 <| g_no rfl rfl rfl rfl rfl h3 <| g_v rfl (r_pick1 rfl h3) <| g_v rfl r_move <| g_no rfl rfl rfl rfl rfl rfl <| g_no rfl rfl rfl rfl rfl rfl <| g_no rfl rfl rfl rfl rfl rfl <| g_v rfl (r_pick1 rfl rfl) <| g_v rfl r_move <| g_no rfl rfl rfl rfl rfl rfl ?_
   refine g_no rfl rfl rfl rfl rfl rfl <| g_no rfl rfl rfl rfl rfl rfl <| g_no rfl rfl rfl rfl rfl rfl <| g_v rfl (r_pick1 rfl rfl) <| g_v rfl r_move <| g_no rfl rfl rfl rfl rfl rfl <| g_no rfl rfl rfl rfl rfl rfl <| g_no rfl rfl rfl rfl rfl rfl <| g_no rfl rfl rfl rfl rfl rfl <| g_v rfl (r_pick1 rfl rfl) ?_
   refine g_v rfl r_move <| g_no rfl rfl rfl rfl rfl rfl <| g_no rfl rfl rfl rfl rfl rfl <| g_no rfl rfl rfl rfl rfl rfl <| g_no rfl rfl rfl rfl rfl rfl <| g_v rfl (r_pick1 rfl rfl) <| g_v rfl r_move <| g_no rfl rfl rfl rfl rfl rfl <| g_no rfl rfl rfl rfl rfl rfl <| g_no rfl rfl rfl rfl rfl rfl ?_
   refine g_no rfl rfl rfl rfl rfl rfl <| g_v rfl (r_pick1 rfl rfl) <| g_nil <| d_then ?_
   refine c_flat [(1, .pointer (some ⟨g1, 0, none⟩)), (52, .bool true)] ⟨rfl, rfl, trivial⟩ (fun u => ?_)
   refine c_sta ⟨w0, M, (100010, g1, .cells #[.int .u16 p0.fID, .bool p0.fResponse, .bool p0.fAuthoritative, .bool p0.fTruncated, .bool p0.fDesired, .bool p0.fAvailable, .int .i64 p0.fOpcode, .int .i64 p0.fCode, .slice Ap0_0 p0.fQuestions.length cp0_0, .slice Ap0_1 p0.fAnswers.length cp0_1, .slice Ap0_2 p0.fAuthorities.length cp0_2, .slice Ap0_3 p0.fExtras.length cp0_3] 62 (0, 0)) :: H, R, φ⟩ (fun _ h => h) <| c_cond1 rfl rfl <| c_seq <| c_region <| g_v rfl r_assign <| g_v rfl r_assign <| g_nil <| d_then <| c_ret <| d_ret_then ?_
   replace hm := Option.some.inj hm
   subst hm
   refine d_retC () Try.results87 ?_ trivial (fun W h => ok_pre (H1 := [_]) (R1 := []) h (fun W hφ => hφ)) (.inr rfl)
   refine res_tmp <| res_tmp <| res_nil ?_
   exact rfl
 ·
  replace hm := ite_t hm (of_decide_eq_true h2)
  refine g_no rfl rfl rfl rfl rfl h2 <| g_no rfl rfl rfl rfl rfl h2 <| g_v rfl (r_pick1 rfl h2) <| g_v rfl r_move <| g_no rfl rfl rfl rfl rfl rfl <| g_no rfl rfl rfl rfl rfl rfl <| g_no rfl rfl rfl rfl rfl rfl <| g_v rfl (r_pick1 rfl rfl) <| g_v rfl r_move <| g_no rfl rfl rfl rfl rfl rfl ?_
  refine g_no rfl rfl rfl rfl rfl rfl <| g_no rfl rfl rfl rfl rfl rfl <| g_v rfl (r_pick1 rfl rfl) <| g_v rfl r_move <| g_no rfl rfl rfl rfl rfl rfl <| g_no rfl rfl rfl rfl rfl rfl <| g_no rfl rfl rfl rfl rfl rfl <| g_no rfl rfl rfl rfl rfl rfl <| g_v rfl (r_pick1 rfl rfl) <| g_v rfl r_move ?_
  refine g_no rfl rfl rfl rfl rfl rfl <| g_no rfl rfl rfl rfl rfl rfl <| g_no rfl rfl rfl rfl rfl rfl <| g_no rfl rfl rfl rfl rfl rfl <| g_v rfl (r_pick1 rfl rfl) <| g_v rfl r_move <| g_no rfl rfl rfl rfl rfl rfl <| g_no rfl rfl rfl rfl rfl rfl <| g_no rfl rfl rfl rfl rfl rfl <| g_no rfl rfl rfl rfl rfl rfl ?_
  refine g_v rfl (r_pick1 rfl rfl) <| g_v rfl r_move <| g_no rfl rfl rfl rfl rfl rfl <| g_no rfl rfl rfl rfl rfl rfl <| g_no rfl rfl rfl rfl rfl rfl <| g_no rfl rfl rfl rfl rfl rfl <| g_v rfl (r_pick1 rfl rfl) <| g_nil <| d_then ?_
  refine c_flat [(1, .pointer (some ⟨g1, 0, none⟩)), (52, .bool true)] ⟨rfl, rfl, trivial⟩ (fun u => ?_)
  refine c_sta ⟨w0, M, (100010, g1, .cells #[.int .u16 p0.fID, .bool p0.fResponse, .bool p0.fAuthoritative, .bool p0.fTruncated, .bool p0.fDesired, .bool p0.fAvailable, .int .i64 p0.fOpcode, .int .i64 p0.fCode, .slice Ap0_0 p0.fQuestions.length cp0_0, .slice Ap0_1 p0.fAnswers.length cp0_1, .slice Ap0_2 p0.fAuthorities.length cp0_2, .slice Ap0_3 p0.fExtras.length cp0_3] 62 (0, 0)) :: H, R, φ⟩ (fun _ h => h) <| c_cond1 rfl rfl <| c_seq <| c_region <| g_v rfl r_assign <| g_v rfl r_assign <| g_nil <| d_then <| c_ret <| d_ret_then ?_
  replace hm := Option.some.inj hm
  subst hm
  refine d_retC () Try.results87 ?_ trivial (fun W h => ok_pre (H1 := [_]) (R1 := []) h (fun W hφ => hφ)) (.inr rfl)
  refine res_tmp <| res_tmp <| res_nil ?_
  exact rfl
noncomputable def m_ref06_Bytes_j1 (x2 : ByteArray) (x3 : Int) : Option (ByteArray × Int) :=
  some (x2, x3)
noncomputable def m_ref06_Bytes (p0 : GMessage) : Option (ByteArray × Int) :=
  (m_ref06_all p0).bind fun (z5 : ByteArray × Int) =>
  if z5.2 = 0 then
    if 4096 < (z5.1.size : Int) then
      some ((⟨#[]⟩ : ByteArray), 11)
    else
      m_ref06_Bytes_j1 z5.1 z5.2
  else
    m_ref06_Bytes_j1 z5.1 z5.2
theorem c_ref06_Bytes {w0 : World} {M : Nat → Prop} {H : List (Nat × Nat × Obj)} {R : List (Nat × Row)} {φ : World → Prop} (p0 : GMessage) (Ap0_0 : Option Addr) (cp0_0 : Nat) (hcp0_0 : p0.fQuestions.length ≤ cp0_0) (fp0_0 : ∀ W, (Sta.mk w0 M H R φ).ok W → Cl W Ap0_0 (p0.fQuestions.flatMap GQuestion.enc)) (Ap0_1 : Option Addr) (cp0_1 : Nat) (hcp0_1 : p0.fAnswers.length ≤ cp0_1) (fp0_1 : ∀ W, (Sta.mk w0 M H R φ).ok W → Cl W Ap0_1 (p0.fAnswers.flatMap GRR.enc)) (Ap0_2 : Option Addr) (cp0_2 : Nat) (hcp0_2 : p0.fAuthorities.length ≤ cp0_2) (fp0_2 : ∀ W, (Sta.mk w0 M H R φ).ok W → Cl W Ap0_2 (p0.fAuthorities.flatMap GRR.enc)) (Ap0_3 : Option Addr) (cp0_3 : Nat) (hcp0_3 : p0.fExtras.length ≤ cp0_3) (fp0_3 : ∀ W, (Sta.mk w0 M H R φ).ok W → Cl W Ap0_3 (p0.fExtras.flatMap GRR.enc)) (r : ByteArray × Int) (hm : m_ref06_Bytes p0 = some r) :
    Cn Try.prog 41 #[.agg #[.int .u16 p0.fID, .bool p0.fResponse, .bool p0.fAuthoritative, .bool p0.fTruncated, .bool p0.fDesired, .bool p0.fAvailable, .int .i64 p0.fOpcode, .int .i64 p0.fCode, .slice Ap0_0 p0.fQuestions.length cp0_0, .slice Ap0_1 p0.fAnswers.length cp0_1, .slice Ap0_2 p0.fAuthorities.length cp0_2, .slice Ap0_3 p0.fExtras.length cp0_3]] ⟨w0, M, H, R, φ⟩ (fun x : Unit => .tuple #[.string r.1, .int .i64 r.2]) (fun x => True) (fun x => ⟨w0, M, H, R, φ⟩) := by
 unfold m_ref06_Bytes at hm
 refine cn_intro (fn := Try.f41) (N := 20) Try.func41 rfl Try.ntmps41 rfl <| c_seq <| c_region ?_
 refine g_e rfl (e_box 100010 rfl) (fun g1 _ => ?_)
 refine g_v rfl r_assign <| g_v rfl r_assign <| g_nil <| d_then <| c_seq <| c_region <| g_v rfl (r_loadA (tag := 100010) rfl rfl Try.isAgg62 Try.sizeOf62 rfl rfl) ?_
 replace hm := bnd hm
 obtain ⟨⟨x2, x3⟩, hx4, hm⟩ := hm
 refine g_cn ⟨w0, M, _, _, φ⟩ (fun _ h => h) Try.call87 rfl rfl (c_ref06_all p0 Ap0_0 cp0_0 hcp0_0 (fun W hS => fp0_0 W (ok_pre (H1 := [_]) (R1 := []) hS (fun W h => h))) Ap0_1 cp0_1 hcp0_1 (fun W hS => fp0_1 W (ok_pre (H1 := [_]) (R1 := []) hS (fun W h => h))) Ap0_2 cp0_2 hcp0_2 (fun W hS => fp0_2 W (ok_pre (H1 := [_]) (R1 := []) hS (fun W h => h))) Ap0_3 cp0_3 hcp0_3 (fun W hS => fp0_3 W (ok_pre (H1 := [_]) (R1 := []) hS (fun W h => h))) _ hx4) (fun _ _ => ?_)
 refine g_v rfl r_move <| g_v rfl (r_extract rfl rfl) <| g_v rfl (r_extract rfl rfl) <| g_v rfl r_assign <| g_v rfl r_assign <| g_nil <| d_then ?_
 refine c_flat [(4, .string x2), (5, .int .i64 x3)] ⟨rfl, rfl, trivial⟩ (fun u => ?_)
 refine c_sta ⟨w0, M, (100010, g1, .cells #[.int .u16 p0.fID, .bool p0.fResponse, .bool p0.fAuthoritative, .bool p0.fTruncated, .bool p0.fDesired, .bool p0.fAvailable, .int .i64 p0.fOpcode, .int .i64 p0.fCode, .slice Ap0_0 p0.fQuestions.length cp0_0, .slice Ap0_1 p0.fAnswers.length cp0_1, .slice Ap0_2 p0.fAuthorities.length cp0_2, .slice Ap0_3 p0.fExtras.length cp0_3] 62 (0, 0)) :: H, R, φ⟩ (fun _ h => h) <| c_seq ?_
 refine c_cut (ι := Unit) [4, 5] (fun _ => []) (fun _ => ⟨w0, M, H, R, φ⟩) (fun _ => m_ref06_Bytes_j1 x2 x3 = some r) ?_ (fun _ u hm => ?_)
 ·
  refine c_seq <| c_region <| g_v rfl r_move <| g_v rfl (r_eql rfl rfl) <| g_v rfl r_move ?_
  refine g_if rfl rfl rfl rfl rfl (fun h8 => ?_) (fun h8 => ?_)
  ·
   replace hm := ite_t hm (of_decide_eq_true h8)
   refine g_v rfl r_move <| g_do rfl rfl rfl rfl rfl h8 <| g_v rfl (r_len Try.underlying9 rfl) <| g_do rfl rfl rfl rfl rfl h8 <| g_v rfl (r_gtr rfl rfl) <| g_v rfl (r_pick1 rfl h8) <| g_nil <| d_then ?_
   refine c_cond rfl (fun h9 => ?_) (fun h9 => ?_)
   ·
    replace hm := ite_t hm (of_decide_eq_true h9)
    refine c_seq <| c_region <| g_v rfl r_assign <| g_v rfl r_assign <| g_nil <| d_then ?_
    refine c_flat [(2, .string (⟨#[]⟩ : ByteArray)), (3, .int .i64 11)] ⟨rfl, rfl, trivial⟩ (fun u => ?_)
    refine c_ret <| d_ret_then <| d_ret_then ?_
    replace hm := Option.some.inj hm
    subst hm
    refine d_retC () Try.results41 ?_ trivial (fun W h => ok_pre (H1 := [_]) (R1 := []) h (fun W hφ => hφ)) (.inr rfl)
    refine res_tmp <| res_tmp <| res_nil ?_
    exact rfl
   ·
    replace hm := ite_f hm (of_decide_eq_false h9)
    refine c_skip ?_
    exact d_round () hm Nat.zero_lt_one ⟨rfl, rfl, trivial⟩ (fun W h => (h.dropH (t := 100010) rfl).phi (fun W hφ => hφ))
  ·
   replace hm := ite_f hm (of_decide_eq_false h8)
   refine g_no rfl rfl rfl rfl rfl h8 <| g_no rfl rfl rfl rfl rfl h8 <| g_v rfl (r_pick0 rfl h8) <| g_nil <| d_then <| c_cond0 rfl rfl <| c_skip ?_
   exact d_round () hm Nat.zero_lt_one ⟨rfl, rfl, trivial⟩ (fun W h => (h.dropH (t := 100010) rfl).phi (fun W hφ => hφ))
 ·
  unfold m_ref06_Bytes_j1 at hm
  refine d_flat [(4, .string x2), (5, .int .i64 x3)] ⟨rfl, rfl, trivial⟩ (fun u => ?_)
  refine d_sta ⟨w0, M, H, R, φ⟩ (fun _ h => h) <| d_then <| c_seq <| c_region <| g_v rfl r_move <| g_v rfl r_move <| g_v rfl r_assign <| g_v rfl r_assign <| g_nil <| d_then ?_
  refine c_ret ?_
  replace hm := Option.some.inj hm
  subst hm
  refine d_retC () Try.results41 ?_ trivial (fun W h => ok_pre (H1 := []) (R1 := []) h (fun W hφ => hφ)) (.inr rfl)
  refine res_tmp <| res_tmp <| res_nil ?_
  exact rfl
noncomputable def m_ref06_long (p0 : GMessage) : Option Bool :=
  (m_ref06_all p0).bind fun (z5 : ByteArray × Int) =>
  some (decide (z5.2 = 0))
theorem c_ref06_long {w0 : World} {M : Nat → Prop} {H : List (Nat × Nat × Obj)} {R : List (Nat × Row)} {φ : World → Prop} (p0 : GMessage) (Ap0_0 : Option Addr) (cp0_0 : Nat) (hcp0_0 : p0.fQuestions.length ≤ cp0_0) (fp0_0 : ∀ W, (Sta.mk w0 M H R φ).ok W → Cl W Ap0_0 (p0.fQuestions.flatMap GQuestion.enc)) (Ap0_1 : Option Addr) (cp0_1 : Nat) (hcp0_1 : p0.fAnswers.length ≤ cp0_1) (fp0_1 : ∀ W, (Sta.mk w0 M H R φ).ok W → Cl W Ap0_1 (p0.fAnswers.flatMap GRR.enc)) (Ap0_2 : Option Addr) (cp0_2 : Nat) (hcp0_2 : p0.fAuthorities.length ≤ cp0_2) (fp0_2 : ∀ W, (Sta.mk w0 M H R φ).ok W → Cl W Ap0_2 (p0.fAuthorities.flatMap GRR.enc)) (Ap0_3 : Option Addr) (cp0_3 : Nat) (hcp0_3 : p0.fExtras.length ≤ cp0_3) (fp0_3 : ∀ W, (Sta.mk w0 M H R φ).ok W → Cl W Ap0_3 (p0.fExtras.flatMap GRR.enc)) (r : Bool) (hm : m_ref06_long p0 = some r) :
    Cn Try.prog 95 #[.agg #[.int .u16 p0.fID, .bool p0.fResponse, .bool p0.fAuthoritative, .bool p0.fTruncated, .bool p0.fDesired, .bool p0.fAvailable, .int .i64 p0.fOpcode, .int .i64 p0.fCode, .slice Ap0_0 p0.fQuestions.length cp0_0, .slice Ap0_1 p0.fAnswers.length cp0_1, .slice Ap0_2 p0.fAuthorities.length cp0_2, .slice Ap0_3 p0.fExtras.length cp0_3]] ⟨w0, M, H, R, φ⟩ (fun x : Unit => .bool r) (fun x => True) (fun x => ⟨w0, M, H, R, φ⟩) := by
 unfold m_ref06_long at hm
 refine cn_intro (fn := Try.f95) (N := 12) Try.func95 rfl Try.ntmps95 rfl <| c_seq <| c_region ?_
 refine g_e rfl (e_box 100010 rfl) (fun g1 _ => ?_)
 refine g_v rfl r_assign <| g_nil <| d_then <| c_seq <| c_region <| g_v rfl (r_loadA (tag := 100010) rfl rfl Try.isAgg62 Try.sizeOf62 rfl rfl) ?_
 replace hm := bnd hm
 obtain ⟨⟨x2, x3⟩, hx4, hm⟩ := hm
 refine g_cn ⟨w0, M, _, _, φ⟩ (fun _ h => h) Try.call87 rfl rfl (c_ref06_all p0 Ap0_0 cp0_0 hcp0_0 (fun W hS => fp0_0 W (ok_pre (H1 := [_]) (R1 := []) hS (fun W h => h))) Ap0_1 cp0_1 hcp0_1 (fun W hS => fp0_1 W (ok_pre (H1 := [_]) (R1 := []) hS (fun W h => h))) Ap0_2 cp0_2 hcp0_2 (fun W hS => fp0_2 W (ok_pre (H1 := [_]) (R1 := []) hS (fun W h => h))) Ap0_3 cp0_3 hcp0_3 (fun W hS => fp0_3 W (ok_pre (H1 := [_]) (R1 := []) hS (fun W h => h))) _ hx4) (fun _ _ => ?_)
 refine g_v rfl r_move <| g_v rfl (r_extract rfl rfl) <| g_v rfl (r_extract rfl rfl) <| g_v rfl r_assign <| g_v rfl r_assign <| g_nil <| d_then ?_
 refine c_flat [(4, .int .i64 x3)] ⟨rfl, trivial⟩ (fun u => ?_)
 refine c_sta ⟨w0, M, (100010, g1, .cells #[.int .u16 p0.fID, .bool p0.fResponse, .bool p0.fAuthoritative, .bool p0.fTruncated, .bool p0.fDesired, .bool p0.fAvailable, .int .i64 p0.fOpcode, .int .i64 p0.fCode, .slice Ap0_0 p0.fQuestions.length cp0_0, .slice Ap0_1 p0.fAnswers.length cp0_1, .slice Ap0_2 p0.fAuthorities.length cp0_2, .slice Ap0_3 p0.fExtras.length cp0_3] 62 (0, 0)) :: H, R, φ⟩ (fun _ h => h) <| c_seq <| c_region <| g_v rfl r_move <| g_v rfl (r_eql rfl rfl) <| g_v rfl r_assign <| g_nil <| d_then <| c_ret ?_
 replace hm := Option.some.inj hm
 subst hm
 refine d_retC () Try.results95 ?_ trivial (fun W h => ok_pre (H1 := [_]) (R1 := []) h (fun W hφ => hφ)) (.inr rfl)
 refine res_tmp <| res_nil ?_
 exact rfl
noncomputable def m_ref06_Fit_j1  : Option (ByteArray × Int) :=
  some ((⟨#[]⟩ : ByteArray), 11)
noncomputable def m_ref06_Fit_j6 (i201 : Int) (l279 : List GRR) (b202 : Bool) (l203 : List GRR) (l285 : List GRR) : Option ((Int × Bool × (List GRR) × (List GRR) × (List GRR)) ⊕ (Unit ⊕ (ByteArray × Int))) :=
  if i201 = 2 then
    some (.inl (w64 (i201 + 1), true, ([] : List GRR), l285, l279))
  else
    some (.inl (w64 (i201 + 1), b202, l203, l285, l279))
noncomputable def m_ref06_Fit_j5 (i201 : Int) (b202 : Bool) (l203 : List GRR) (l207 : List GRR) (l279 : List GRR) : Option ((Int × Bool × (List GRR) × (List GRR) × (List GRR)) ⊕ (Unit ⊕ (ByteArray × Int))) :=
  if i201 = 1 then
    m_ref06_Fit_j6 i201 l279 b202 l203 ([] : List GRR)
  else
    m_ref06_Fit_j6 i201 l279 b202 l203 l207
noncomputable def m_ref06_Fit_j4 (i201 : Int) (b202 : Bool) (l203 : List GRR) (l207 : List GRR) (l211 : List GRR) : Option ((Int × Bool × (List GRR) × (List GRR) × (List GRR)) ⊕ (Unit ⊕ (ByteArray × Int))) :=
  if i201 = 0 then
    m_ref06_Fit_j5 i201 b202 l203 l207 ([] : List GRR)
  else
    m_ref06_Fit_j5 i201 b202 l203 l207 l211
noncomputable def m_ref06_Fit_j3 (x263 : Int) (x262 : ByteArray) (p1 : Int) (i201 : Int) (b202 : Bool) (l203 : List GRR) (l207 : List GRR) (l211 : List GRR) : Option ((Int × Bool × (List GRR) × (List GRR) × (List GRR)) ⊕ (Unit ⊕ (ByteArray × Int))) :=
  if x263 = 0 then
    if (x262.size : Int) ≤ p1 then
      some (.inr (.inr (x262, 0)))
    else
      m_ref06_Fit_j4 i201 b202 l203 l207 l211
  else
    m_ref06_Fit_j4 i201 b202 l203 l207 l211
noncomputable def m_ref06_Fit_s2 (p0 : GMessage) (p1 : Int) (i201 : Int) (b202 : Bool) (l203 : List GRR) (l207 : List GRR) (l211 : List GRR) : Option ((Int × Bool × (List GRR) × (List GRR) × (List GRR)) ⊕ (Unit ⊕ (ByteArray × Int))) :=
  if i201 < 4 then
    (m_ref06_Bytes (⟨p0.fID, p0.fResponse, p0.fAuthoritative, b202, p0.fDesired, p0.fAvailable, p0.fOpcode, p0.fCode, p0.fQuestions, l203, l207, l211⟩ : GMessage)).bind fun (z265 : ByteArray × Int) =>
    if z265.2 ≠ 0 then
      if z265.2 ≠ 11 then
        some (.inr (.inr ((⟨#[]⟩ : ByteArray), z265.2)))
      else
        if z265.2 = 11 then
          (m_ref06_long (⟨p0.fID, p0.fResponse, p0.fAuthoritative, b202, p0.fDesired, p0.fAvailable, p0.fOpcode, p0.fCode, p0.fQuestions, l203, l207, l211⟩ : GMessage)).bind fun x300 =>
          if x300 = true then
            m_ref06_Fit_j3 z265.2 z265.1 p1 i201 b202 l203 l207 l211
          else
            some (.inr (.inr ((⟨#[]⟩ : ByteArray), z265.2)))
        else
          m_ref06_Fit_j3 z265.2 z265.1 p1 i201 b202 l203 l207 l211
    else
      if z265.2 = 11 then
        (m_ref06_long (⟨p0.fID, p0.fResponse, p0.fAuthoritative, b202, p0.fDesired, p0.fAvailable, p0.fOpcode, p0.fCode, p0.fQuestions, l203, l207, l211⟩ : GMessage)).bind fun x304 =>
        if x304 = true then
          m_ref06_Fit_j3 z265.2 z265.1 p1 i201 b202 l203 l207 l211
        else
          some (.inr (.inr ((⟨#[]⟩ : ByteArray), z265.2)))
      else
        m_ref06_Fit_j3 z265.2 z265.1 p1 i201 b202 l203 l207 l211
  else
    some (.inr (.inl ()))
noncomputable def m_ref06_Fit (p0 : GMessage) (p1 : Int) : Option (ByteArray × Int) :=
  (loop (fun s => m_ref06_Fit_s2 p0 p1 s.1 s.2.1 s.2.2.1 s.2.2.2.1 s.2.2.2.2) (0, p0.fTruncated, p0.fAnswers, p0.fAuthorities, p0.fExtras)).bind fun e => Sum.elim (fun e => m_ref06_Fit_j1) (fun x => some x) e
theorem c_ref06_Fit {w0 : World} {M : Nat → Prop} {H : List (Nat × Nat × Obj)} {R : List (Nat × Row)} {φ : World → Prop} (p0 : GMessage) (Ap0_0 : Option Addr) (cp0_0 : Nat) (hcp0_0 : p0.fQuestions.length ≤ cp0_0) (fp0_0 : ∀ W, (Sta.mk w0 M H R φ).ok W → Cl W Ap0_0 (p0.fQuestions.flatMap GQuestion.enc)) (Ap0_1 : Option Addr) (cp0_1 : Nat) (hcp0_1 : p0.fAnswers.length ≤ cp0_1) (fp0_1 : ∀ W, φ W → Cl W Ap0_1 (p0.fAnswers.flatMap GRR.enc)) (Ap0_2 : Option Addr) (cp0_2 : Nat) (hcp0_2 : p0.fAuthorities.length ≤ cp0_2) (fp0_2 : ∀ W, φ W → Cl W Ap0_2 (p0.fAuthorities.flatMap GRR.enc)) (Ap0_3 : Option Addr) (cp0_3 : Nat) (hcp0_3 : p0.fExtras.length ≤ cp0_3) (fp0_3 : ∀ W, φ W → Cl W Ap0_3 (p0.fExtras.flatMap GRR.enc)) (p1 : Int) (r : ByteArray × Int) (hm : m_ref06_Fit p0 p1 = some r) :
    Cn Try.prog 55 #[.agg #[.int .u16 p0.fID, .bool p0.fResponse, .bool p0.fAuthoritative, .bool p0.fTruncated, .bool p0.fDesired, .bool p0.fAvailable, .int .i64 p0.fOpcode, .int .i64 p0.fCode, .slice Ap0_0 p0.fQuestions.length cp0_0, .slice Ap0_1 p0.fAnswers.length cp0_1, .slice Ap0_2 p0.fAuthorities.length cp0_2, .slice Ap0_3 p0.fExtras.length cp0_3], .int .i64 p1] ⟨w0, M, H, R, φ⟩ (fun x : Unit => .tuple #[.string r.1, .int .i64 r.2]) (fun x => True) (fun x => ⟨w0, M, H, R, φ⟩) := by
 unfold m_ref06_Fit at hm
 refine cn_intro (fn := Try.f55) (N := 53) Try.func55 rfl Try.ntmps55 rfl <| c_seq <| c_region ?_
 refine g_e rfl (e_box 100020 rfl) (fun g1 _ => ?_)
 refine g_v rfl r_assign <| g_v rfl r_assign <| g_nil <| d_then <| c_seq <| c_seq <| c_region <| g_v rfl r_assign <| g_nil <| d_then ?_
 refine c_cut (ι := Unit) [] (fun _ => []) (fun _ => ⟨w0, M, H, R, φ⟩) (fun _ => m_ref06_Fit_j1 = some r) ?_ (fun _ u hm => ?_)
 ·
  refine c_block ?_
  replace hm := bnd hm
  obtain ⟨out2, hl2, hr2⟩ := hm
  obtain ⟨n259', hl2⟩ := loop_lp hl2
  refine c_loopU (ι := Nat × Int × Bool × (List GRR) × (List GRR) × (List GRR) × Option Addr × Nat × Option Addr × Nat × Option Addr × Nat) [1, 2, 6] (fun ⟨n259, i201, b202, l203, l207, l211, A204, c205, A208, c209, A212, c213⟩ => [(6, .int .i64 i201)]) (fun ⟨n259, i201, b202, l203, l207, l211, A204, c205, A208, c209, A212, c213⟩ => ⟨w0, M, (100020, g1, .cells #[.int .u16 p0.fID, .bool p0.fResponse, .bool p0.fAuthoritative, .bool b202, .bool p0.fDesired, .bool p0.fAvailable, .int .i64 p0.fOpcode, .int .i64 p0.fCode, .slice Ap0_0 p0.fQuestions.length cp0_0, .slice A204 l203.length c205, .slice A208 l207.length c209, .slice A212 l211.length c213] 62 (0, 0)) :: H, R, fun W => φ W ∧ Cl W A204 (l203.flatMap GRR.enc) ∧ Cl W A208 (l207.flatMap GRR.enc) ∧ Cl W A212 (l211.flatMap GRR.enc)⟩) (fun ⟨n259, i201, b202, l203, l207, l211, A204, c205, A208, c209, A212, c213⟩ => Lp (fun s => m_ref06_Fit_s2 p0 p1 s.1 s.2.1 s.2.2.1 s.2.2.2.1 s.2.2.2.2) n259 (i201, b202, l203, l207, l211) out2 ∧ l203.length ≤ c205 ∧ l207.length ≤ c209 ∧ l211.length ≤ c213) (fun ⟨n259, i201, b202, l203, l207, l211, A204, c205, A208, c209, A212, c213⟩ => n259) (n259', 0, p0.fTruncated, p0.fAnswers, p0.fAuthorities, p0.fExtras, Ap0_1, cp0_1, Ap0_2, cp0_2, Ap0_3, cp0_3) ⟨hl2, hcp0_1, hcp0_2, hcp0_3⟩ ⟨rfl, rfl, rfl, trivial⟩ (fun W h => h.phi (fun W hφ => ⟨hφ, (fun W h => fp0_1 W h) W hφ, (fun W h => fp0_2 W h) W hφ, (fun W h => fp0_3 W h) W hφ⟩)) (fun ⟨n259, i201, b202, l203, l207, l211, A204, c205, A208, c209, A212, c213⟩ u ⟨hlp, hc205, hc209, hc213⟩ => ?_)
  obtain ⟨o2, hm, hnx2⟩ := lp_step hlp
  clear hlp
  replace hm : m_ref06_Fit_s2 p0 p1 i201 b202 l203 l207 l211 = some o2 := hm
  unfold m_ref06_Fit_s2 at hm
  refine c_abs (fun φ260 q260' => ?_)
  have q260 : ∀ W, φ260 W → φ W := fun W h => (q260' W h).1
  have f206 := fun (W : World) (h : φ260 W) => (q260' W h).2.1
  have f210 := fun (W : World) (h : φ260 W) => (q260' W h).2.2.1
  have f214 := fun (W : World) (h : φ260 W) => (q260' W h).2.2.2
  refine c_flat [(1, .int .i64 p1), (2, .pointer (some ⟨g1, 0, none⟩)), (6, .int .i64 i201)] ⟨rfl, rfl, rfl, trivial⟩ (fun u => ?_)
  refine c_sta ⟨w0, M, (100020, g1, .cells #[.int .u16 p0.fID, .bool p0.fResponse, .bool p0.fAuthoritative, .bool b202, .bool p0.fDesired, .bool p0.fAvailable, .int .i64 p0.fOpcode, .int .i64 p0.fCode, .slice Ap0_0 p0.fQuestions.length cp0_0, .slice A204 l203.length c205, .slice A208 l207.length c209, .slice A212 l211.length c213] 62 (0, 0)) :: H, R, φ260⟩ (fun _ h => h) <| c_seq <| c_seq <| c_region <| g_v rfl r_move <| g_v rfl (r_lss rfl rfl) <| g_nil <| d_then ?_
  refine c_cond rfl (fun h261 => ?_) (fun h261 => ?_)
  ·
   replace hm := ite_t hm (of_decide_eq_true h261)
   refine c_skip <| d_then <| c_seq <| c_block <| c_seq <| c_region <| g_v rfl (r_loadA (tag := 100020) rfl rfl Try.isAgg62 Try.sizeOf62 rfl rfl) ?_
   replace hm := bnd hm
   obtain ⟨⟨x262, x263⟩, hx264, hm⟩ := hm
   refine g_cn ⟨w0, M, _, _, φ260⟩ (fun _ h => h) Try.call41 rfl rfl (c_ref06_Bytes (⟨p0.fID, p0.fResponse, p0.fAuthoritative, b202, p0.fDesired, p0.fAvailable, p0.fOpcode, p0.fCode, p0.fQuestions, l203, l207, l211⟩ : GMessage) Ap0_0 cp0_0 hcp0_0 (fun W hS => fp0_0 W (ok_pre (H1 := [_]) (R1 := []) hS (fun W h => (q260 _ h)))) A204 c205 hc205 (fun W hS => f206 W hS.now) A208 c209 hc209 (fun W hS => f210 W hS.now) A212 c213 hc213 (fun W hS => f214 W hS.now) _ hx264) (fun _ _ => ?_)
   refine g_v rfl r_move <| g_v rfl (r_extract rfl rfl) <| g_v rfl (r_extract rfl rfl) <| g_v rfl r_assign <| g_v rfl r_assign <| g_nil <| d_then ?_
   refine c_flat [(1, .int .i64 p1), (2, .pointer (some ⟨g1, 0, none⟩)), (6, .int .i64 i201), (7, .string x262), (8, .int .i64 x263)] ⟨rfl, rfl, rfl, rfl, rfl, trivial⟩ (fun u => ?_)
   refine c_seq ?_
   refine c_cut (ι := Unit) [1, 2, 6, 7, 8] (fun _ => []) (fun _ => ⟨w0, M, (100020, g1, .cells #[.int .u16 p0.fID, .bool p0.fResponse, .bool p0.fAuthoritative, .bool b202, .bool p0.fDesired, .bool p0.fAvailable, .int .i64 p0.fOpcode, .int .i64 p0.fCode, .slice Ap0_0 p0.fQuestions.length cp0_0, .slice A204 l203.length c205, .slice A208 l207.length c209, .slice A212 l211.length c213] 62 (0, 0)) :: H, R, φ260⟩) (fun _ => m_ref06_Fit_j3 x263 x262 p1 i201 b202 l203 l207 l211 = some o2) ?_ (fun _ u hm => ?_)
   ·
    refine c_seq <| c_region <| g_v rfl r_move <| g_v rfl (r_neq rfl rfl) <| g_v rfl r_move ?_
    refine g_if rfl rfl rfl rfl rfl (fun h297 => ?_) (fun h297 => ?_)
    ·
     replace hm := ite_t hm (of_decide_eq_true h297)
     refine g_v rfl r_move <| g_do rfl rfl rfl rfl rfl h297 <| g_v rfl (r_neq rfl rfl) <| g_v rfl (r_pick1 rfl h297) <| g_v rfl r_move ?_
     refine g_if rfl rfl rfl rfl rfl (fun h298 => ?_) (fun h298 => ?_)
     ·
      replace hm := ite_f hm (of_decide_eq_false h298)
      refine g_v rfl r_move <| g_do rfl rfl rfl rfl rfl h298 <| g_v rfl (r_eql rfl rfl) <| g_do rfl rfl rfl rfl rfl h298 <| g_v rfl r_move ?_
      refine g_if rfl rfl rfl rfl rfl (fun h299 => ?_) (fun h299 => ?_)
      ·
       replace hm := ite_t hm (of_decide_eq_true h299)
       refine g_v rfl (r_loadA (tag := 100020) rfl rfl Try.isAgg62 Try.sizeOf62 rfl rfl) <| g_do rfl rfl rfl rfl rfl h299 ?_
       replace hm := bnd hm
       obtain ⟨x300, hx301, hm⟩ := hm
       refine g_cn ⟨w0, M, _, _, φ260⟩ (fun _ h => h) Try.call95 rfl rfl (c_ref06_long (⟨p0.fID, p0.fResponse, p0.fAuthoritative, b202, p0.fDesired, p0.fAvailable, p0.fOpcode, p0.fCode, p0.fQuestions, l203, l207, l211⟩ : GMessage) Ap0_0 cp0_0 hcp0_0 (fun W hS => fp0_0 W (ok_pre (H1 := [_]) (R1 := []) hS (fun W h => (q260 _ h)))) A204 c205 hc205 (fun W hS => f206 W hS.now) A208 c209 hc209 (fun W hS => f210 W hS.now) A212 c213 hc213 (fun W hS => f214 W hS.now) _ hx301) (fun _ _ => ?_)
       refine g_do rfl rfl rfl rfl rfl h299 <| g_v rfl (r_not rfl) <| g_do rfl rfl rfl rfl rfl h298 <| g_v rfl (r_pick1 rfl h299) <| g_v rfl (r_pick0 rfl h298) <| g_nil <| d_then ?_
       refine c_flat [(1, .int .i64 p1), (2, .pointer (some ⟨g1, 0, none⟩)), (6, .int .i64 i201), (7, .string x262), (8, .int .i64 x263), (32, .bool (!x300))] ⟨rfl, rfl, rfl, rfl, rfl, rfl, trivial⟩ (fun u => ?_)
       refine c_cond rfl (fun h302 => ?_) (fun h302 => ?_)
       ·
        have h302' : x300 = false := by revert h302; cases x300 <;> simp
        replace hm := ite_f hm (bool_nt h302')
        refine c_seq <| c_region <| g_v rfl r_move <| g_v rfl r_assign <| g_v rfl r_assign <| g_nil <| d_then <| c_ret <| d_ret_then <| d_ret_then ?_
        refine d_ret_block <| d_ret_then <| d_ret_then <| d_ret_block <| d_ret_then <| d_ret_then ?_
        replace hm := nx_out (C := (fun e => Sum.elim (fun e => m_ref06_Fit_j1) (fun x => some x) e = some r)) hm hnx2 hr2
        replace hm : some ((⟨#[]⟩ : ByteArray), x263) = some r := hm
        replace hm := Option.some.inj hm
        subst hm
        refine d_retC () Try.results55 ?_ trivial (fun W h => ok_pre (H1 := [_]) (R1 := []) h (fun W hφ => (q260 _ hφ))) (.inr rfl)
        refine res_tmp <| res_tmp <| res_nil ?_
        exact rfl
       ·
        have h302' : x300 = true := by revert h302; cases x300 <;> simp
        replace hm := ite_t hm h302'
        refine c_skip ?_
        exact d_round () hm Nat.zero_lt_one ⟨rfl, rfl, rfl, rfl, rfl, trivial⟩ (fun W h => h.phi (fun W hφ => hφ))
      ·
       replace hm := ite_f hm (of_decide_eq_false h299)
       refine g_no rfl rfl rfl rfl rfl h299 <| g_no rfl rfl rfl rfl rfl h299 <| g_do rfl rfl rfl rfl rfl h298 <| g_v rfl (r_pick0 rfl h299) <| g_v rfl (r_pick0 rfl h298) <| g_nil <| d_then ?_
       refine c_flat [(1, .int .i64 p1), (2, .pointer (some ⟨g1, 0, none⟩)), (6, .int .i64 i201), (7, .string x262), (8, .int .i64 x263), (32, .bool false)] ⟨rfl, rfl, rfl, rfl, rfl, rfl, trivial⟩ (fun u => ?_)
       refine c_cond0 rfl rfl <| c_skip ?_
       exact d_round () hm Nat.zero_lt_one ⟨rfl, rfl, rfl, rfl, rfl, trivial⟩ (fun W h => h.phi (fun W hφ => hφ))
     ·
      replace hm := ite_t hm (of_decide_eq_true h298)
      refine g_no rfl rfl rfl rfl rfl h298 <| g_no rfl rfl rfl rfl rfl h298 <| g_nu rfl rfl rfl rfl rfl <| g_nu rfl rfl rfl rfl rfl <| g_nu rfl rfl rfl rfl rfl <| g_no rfl rfl rfl rfl rfl h298 <| g_v rfl (r_pick1 rfl h298) <| g_nil <| d_then <| c_cond1 rfl rfl ?_
      refine c_seq <| c_region <| g_v rfl r_move <| g_v rfl r_assign <| g_v rfl r_assign <| g_nil <| d_then ?_
      refine c_flat [(4, .string (⟨#[]⟩ : ByteArray)), (5, .int .i64 x263)] ⟨rfl, rfl, trivial⟩ (fun u => ?_)
      refine c_ret <| d_ret_then <| d_ret_then <| d_ret_block <| d_ret_then <| d_ret_then <| d_ret_block <| d_ret_then <| d_ret_then ?_
      replace hm := nx_out (C := (fun e => Sum.elim (fun e => m_ref06_Fit_j1) (fun x => some x) e = some r)) hm hnx2 hr2
      replace hm : some ((⟨#[]⟩ : ByteArray), x263) = some r := hm
      replace hm := Option.some.inj hm
      subst hm
      refine d_retC () Try.results55 ?_ trivial (fun W h => ok_pre (H1 := [_]) (R1 := []) h (fun W hφ => (q260 _ hφ))) (.inr rfl)
      refine res_tmp <| res_tmp <| res_nil ?_
      exact rfl
    ·
     replace hm := ite_f hm (of_decide_eq_false h297)
     refine g_no rfl rfl rfl rfl rfl h297 <| g_v rfl (r_pick0 rfl h297) <| g_v rfl r_move <| g_do rfl rfl rfl rfl rfl rfl <| g_v rfl r_move <| g_do rfl rfl rfl rfl rfl rfl <| g_v rfl (r_eql rfl rfl) <| g_do rfl rfl rfl rfl rfl rfl <| g_v rfl r_move ?_
     refine g_if rfl rfl rfl rfl rfl (fun h303 => ?_) (fun h303 => ?_)
     ·
      replace hm := ite_t hm (of_decide_eq_true h303)
      refine g_v rfl (r_loadA (tag := 100020) rfl rfl Try.isAgg62 Try.sizeOf62 rfl rfl) <| g_do rfl rfl rfl rfl rfl h303 ?_
      replace hm := bnd hm
      obtain ⟨x304, hx305, hm⟩ := hm
      refine g_cn ⟨w0, M, _, _, φ260⟩ (fun _ h => h) Try.call95 rfl rfl (c_ref06_long (⟨p0.fID, p0.fResponse, p0.fAuthoritative, b202, p0.fDesired, p0.fAvailable, p0.fOpcode, p0.fCode, p0.fQuestions, l203, l207, l211⟩ : GMessage) Ap0_0 cp0_0 hcp0_0 (fun W hS => fp0_0 W (ok_pre (H1 := [_]) (R1 := []) hS (fun W h => (q260 _ h)))) A204 c205 hc205 (fun W hS => f206 W hS.now) A208 c209 hc209 (fun W hS => f210 W hS.now) A212 c213 hc213 (fun W hS => f214 W hS.now) _ hx305) (fun _ _ => ?_)
      refine g_do rfl rfl rfl rfl rfl h303 <| g_v rfl (r_not rfl) <| g_do rfl rfl rfl rfl rfl rfl <| g_v rfl (r_pick1 rfl h303) <| g_v rfl (r_pick0 rfl rfl) <| g_nil <| d_then ?_
      refine c_flat [(1, .int .i64 p1), (2, .pointer (some ⟨g1, 0, none⟩)), (6, .int .i64 i201), (7, .string x262), (8, .int .i64 x263), (32, .bool (!x304))] ⟨rfl, rfl, rfl, rfl, rfl, rfl, trivial⟩ (fun u => ?_)
      refine c_cond rfl (fun h306 => ?_) (fun h306 => ?_)
      ·
       have h306' : x304 = false := by revert h306; cases x304 <;> simp
       replace hm := ite_f hm (bool_nt h306')
       refine c_seq <| c_region <| g_v rfl r_move <| g_v rfl r_assign <| g_v rfl r_assign <| g_nil <| d_then <| c_ret <| d_ret_then <| d_ret_then ?_
       refine d_ret_block <| d_ret_then <| d_ret_then <| d_ret_block <| d_ret_then <| d_ret_then ?_
       replace hm := nx_out (C := (fun e => Sum.elim (fun e => m_ref06_Fit_j1) (fun x => some x) e = some r)) hm hnx2 hr2
       replace hm : some ((⟨#[]⟩ : ByteArray), x263) = some r := hm
       replace hm := Option.some.inj hm
       subst hm
       refine d_retC () Try.results55 ?_ trivial (fun W h => ok_pre (H1 := [_]) (R1 := []) h (fun W hφ => (q260 _ hφ))) (.inr rfl)
       refine res_tmp <| res_tmp <| res_nil ?_
       exact rfl
      ·
       have h306' : x304 = true := by revert h306; cases x304 <;> simp
       replace hm := ite_t hm h306'
       refine c_skip ?_
       exact d_round () hm Nat.zero_lt_one ⟨rfl, rfl, rfl, rfl, rfl, trivial⟩ (fun W h => h.phi (fun W hφ => hφ))
     ·
      replace hm := ite_f hm (of_decide_eq_false h303)
      refine g_no rfl rfl rfl rfl rfl h303 <| g_no rfl rfl rfl rfl rfl h303 <| g_do rfl rfl rfl rfl rfl rfl <| g_v rfl (r_pick0 rfl h303) <| g_v rfl (r_pick0 rfl rfl) <| g_nil <| d_then ?_
      refine c_flat [(1, .int .i64 p1), (2, .pointer (some ⟨g1, 0, none⟩)), (6, .int .i64 i201), (7, .string x262), (8, .int .i64 x263), (32, .bool false)] ⟨rfl, rfl, rfl, rfl, rfl, rfl, trivial⟩ (fun u => ?_)
      refine c_cond0 rfl rfl <| c_skip ?_
      exact d_round () hm Nat.zero_lt_one ⟨rfl, rfl, rfl, rfl, rfl, trivial⟩ (fun W h => h.phi (fun W hφ => hφ))
   ·
    unfold m_ref06_Fit_j3 at hm
    refine d_flat [(1, .int .i64 p1), (2, .pointer (some ⟨g1, 0, none⟩)), (6, .int .i64 i201), (7, .string x262), (8, .int .i64 x263)] ⟨rfl, rfl, rfl, rfl, rfl, trivial⟩ (fun u => ?_)
    refine d_then <| c_seq ?_
    refine c_cut (ι := Unit) [1, 2, 6] (fun _ => []) (fun _ => ⟨w0, M, (100020, g1, .cells #[.int .u16 p0.fID, .bool p0.fResponse, .bool p0.fAuthoritative, .bool b202, .bool p0.fDesired, .bool p0.fAvailable, .int .i64 p0.fOpcode, .int .i64 p0.fCode, .slice Ap0_0 p0.fQuestions.length cp0_0, .slice A204 l203.length c205, .slice A208 l207.length c209, .slice A212 l211.length c213] 62 (0, 0)) :: H, R, φ260⟩) (fun _ => m_ref06_Fit_j4 i201 b202 l203 l207 l211 = some o2) ?_ (fun _ u hm => ?_)
    ·
     refine c_seq <| c_region <| g_v rfl r_move <| g_v rfl (r_eql rfl rfl) <| g_v rfl r_move ?_
     refine g_if rfl rfl rfl rfl rfl (fun h295 => ?_) (fun h295 => ?_)
     ·
      replace hm := ite_t hm (of_decide_eq_true h295)
      refine g_v rfl r_move <| g_do rfl rfl rfl rfl rfl h295 <| g_v rfl (r_len Try.underlying9 rfl) <| g_do rfl rfl rfl rfl rfl h295 <| g_v rfl r_move <| g_do rfl rfl rfl rfl rfl h295 <| g_v rfl (r_leq rfl rfl) <| g_v rfl (r_pick1 rfl h295) <| g_nil <| d_then ?_
      refine c_cond rfl (fun h296 => ?_) (fun h296 => ?_)
      ·
       replace hm := ite_t hm (of_decide_eq_true h296)
       refine c_seq <| c_region <| g_v rfl r_move <| g_v rfl r_assign <| g_v rfl r_assign <| g_nil <| d_then ?_
       refine c_flat [(4, .string x262), (5, .int .i64 0)] ⟨rfl, rfl, trivial⟩ (fun u => ?_)
       refine c_ret <| d_ret_then <| d_ret_then <| d_ret_block <| d_ret_then <| d_ret_then <| d_ret_block <| d_ret_then <| d_ret_then ?_
       replace hm := nx_out (C := (fun e => Sum.elim (fun e => m_ref06_Fit_j1) (fun x => some x) e = some r)) hm hnx2 hr2
       replace hm : some (x262, 0) = some r := hm
       replace hm := Option.some.inj hm
       subst hm
       refine d_retC () Try.results55 ?_ trivial (fun W h => ok_pre (H1 := [_]) (R1 := []) h (fun W hφ => (q260 _ hφ))) (.inr rfl)
       refine res_tmp <| res_tmp <| res_nil ?_
       exact rfl
      ·
       replace hm := ite_f hm (of_decide_eq_false h296)
       refine c_skip ?_
       exact d_round () hm Nat.zero_lt_one ⟨rfl, rfl, rfl, trivial⟩ (fun W h => h.phi (fun W hφ => hφ))
     ·
      replace hm := ite_f hm (of_decide_eq_false h295)
      refine g_no rfl rfl rfl rfl rfl h295 <| g_no rfl rfl rfl rfl rfl h295 <| g_no rfl rfl rfl rfl rfl h295 <| g_v rfl (r_pick0 rfl h295) <| g_nil <| d_then <| c_cond0 rfl rfl <| c_skip ?_
      exact d_round () hm Nat.zero_lt_one ⟨rfl, rfl, rfl, trivial⟩ (fun W h => h.phi (fun W hφ => hφ))
    ·
     unfold m_ref06_Fit_j4 at hm
     refine d_flat [(1, .int .i64 p1), (2, .pointer (some ⟨g1, 0, none⟩)), (6, .int .i64 i201)] ⟨rfl, rfl, rfl, trivial⟩ (fun u => ?_)
     refine d_then <| c_seq ?_
     refine c_cut (ι := (List GRR) × Option Addr × Nat) [1, 2, 6] (fun ⟨l279, A280, c281⟩ => []) (fun ⟨l279, A280, c281⟩ => ⟨w0, M, (100020, g1, .cells #[.int .u16 p0.fID, .bool p0.fResponse, .bool p0.fAuthoritative, .bool b202, .bool p0.fDesired, .bool p0.fAvailable, .int .i64 p0.fOpcode, .int .i64 p0.fCode, .slice Ap0_0 p0.fQuestions.length cp0_0, .slice A204 l203.length c205, .slice A208 l207.length c209, .slice A280 l279.length c281] 62 (0, 0)) :: H, R, fun W => φ260 W ∧ Cl W A280 (l279.flatMap GRR.enc)⟩) (fun ⟨l279, A280, c281⟩ => m_ref06_Fit_j5 i201 b202 l203 l207 l279 = some o2 ∧ l279.length ≤ c281) ?_ (fun ⟨l279, A280, c281⟩ u ⟨hm, hc281⟩ => ?_)
     ·
      refine c_seq <| c_region <| g_v rfl r_move <| g_v rfl (r_eql rfl rfl) <| g_nil <| d_then ?_
      refine c_cond rfl (fun h294 => ?_) (fun h294 => ?_)
      ·
       replace hm := ite_t hm (of_decide_eq_true h294)
       refine c_region <| g_v rfl (r_field (n := 11) Try.underlying62 rfl Try.sizeOf32 rfl rfl) <| g_storeL (tag := 100020) rfl rfl rfl rfl Try.sizeOf32 rfl rfl <| g_nil ?_
       exact d_round (([] : List GRR), none, 0) ⟨hm, (Nat.le_refl 0)⟩ Nat.zero_lt_one ⟨rfl, rfl, rfl, trivial⟩ (fun W h => h.phi (fun W hφ => ⟨hφ, (fun W _ => Cl.nil _ _) W hφ⟩))
      ·
       replace hm := ite_f hm (of_decide_eq_false h294)
       refine c_skip ?_
       exact d_round (l211, A212, c213) ⟨hm, hc213⟩ Nat.zero_lt_one ⟨rfl, rfl, rfl, trivial⟩ (fun W h => h.phi (fun W hφ => ⟨hφ, (fun W h => f214 W h) W hφ⟩))
     ·
      unfold m_ref06_Fit_j5 at hm
      refine d_abs (fun φ283 q283' => ?_)
      have q283 : ∀ W, φ283 W → φ260 W := fun W h => (q283' W h).1
      have f282 := fun (W : World) (h : φ283 W) => (q283' W h).2
      refine d_flat [(1, .int .i64 p1), (2, .pointer (some ⟨g1, 0, none⟩)), (6, .int .i64 i201)] ⟨rfl, rfl, rfl, trivial⟩ (fun u => ?_)
      refine d_sta ⟨w0, M, (100020, g1, .cells #[.int .u16 p0.fID, .bool p0.fResponse, .bool p0.fAuthoritative, .bool b202, .bool p0.fDesired, .bool p0.fAvailable, .int .i64 p0.fOpcode, .int .i64 p0.fCode, .slice Ap0_0 p0.fQuestions.length cp0_0, .slice A204 l203.length c205, .slice A208 l207.length c209, .slice A280 l279.length c281] 62 (0, 0)) :: H, R, φ283⟩ (fun _ h => h) <| d_then <| c_seq ?_
      refine c_cut (ι := (List GRR) × Option Addr × Nat) [1, 2, 6] (fun ⟨l285, A286, c287⟩ => []) (fun ⟨l285, A286, c287⟩ => ⟨w0, M, (100020, g1, .cells #[.int .u16 p0.fID, .bool p0.fResponse, .bool p0.fAuthoritative, .bool b202, .bool p0.fDesired, .bool p0.fAvailable, .int .i64 p0.fOpcode, .int .i64 p0.fCode, .slice Ap0_0 p0.fQuestions.length cp0_0, .slice A204 l203.length c205, .slice A286 l285.length c287, .slice A280 l279.length c281] 62 (0, 0)) :: H, R, fun W => φ283 W ∧ Cl W A286 (l285.flatMap GRR.enc)⟩) (fun ⟨l285, A286, c287⟩ => m_ref06_Fit_j6 i201 l279 b202 l203 l285 = some o2 ∧ l285.length ≤ c287) ?_ (fun ⟨l285, A286, c287⟩ u ⟨hm, hc287⟩ => ?_)
      ·
       refine c_seq <| c_region <| g_v rfl r_move <| g_v rfl (r_eql rfl rfl) <| g_nil <| d_then ?_
       refine c_cond rfl (fun h293 => ?_) (fun h293 => ?_)
       ·
        replace hm := ite_t hm (of_decide_eq_true h293)
        refine c_region <| g_v rfl (r_field (n := 10) Try.underlying62 rfl Try.sizeOf32 rfl rfl) <| g_storeL (tag := 100020) rfl rfl rfl rfl Try.sizeOf32 rfl rfl <| g_nil ?_
        exact d_round (([] : List GRR), none, 0) ⟨hm, (Nat.le_refl 0)⟩ Nat.zero_lt_one ⟨rfl, rfl, rfl, trivial⟩ (fun W h => h.phi (fun W hφ => ⟨hφ, (fun W _ => Cl.nil _ _) W hφ⟩))
       ·
        replace hm := ite_f hm (of_decide_eq_false h293)
        refine c_skip ?_
        exact d_round (l207, A208, c209) ⟨hm, hc209⟩ Nat.zero_lt_one ⟨rfl, rfl, rfl, trivial⟩ (fun W h => h.phi (fun W hφ => ⟨hφ, (fun W h => f210 W (q283 _ h)) W hφ⟩))
      ·
       unfold m_ref06_Fit_j6 at hm
       refine d_abs (fun φ289 q289' => ?_)
       have q289 : ∀ W, φ289 W → φ283 W := fun W h => (q289' W h).1
       have f288 := fun (W : World) (h : φ289 W) => (q289' W h).2
       refine d_flat [(1, .int .i64 p1), (2, .pointer (some ⟨g1, 0, none⟩)), (6, .int .i64 i201)] ⟨rfl, rfl, rfl, trivial⟩ (fun u => ?_)
       refine d_sta ⟨w0, M, (100020, g1, .cells #[.int .u16 p0.fID, .bool p0.fResponse, .bool p0.fAuthoritative, .bool b202, .bool p0.fDesired, .bool p0.fAvailable, .int .i64 p0.fOpcode, .int .i64 p0.fCode, .slice Ap0_0 p0.fQuestions.length cp0_0, .slice A204 l203.length c205, .slice A286 l285.length c287, .slice A280 l279.length c281] 62 (0, 0)) :: H, R, φ289⟩ (fun _ h => h) <| d_then <| c_seq <| c_region <| g_v rfl r_move <| g_v rfl (r_eql rfl rfl) <| g_nil <| d_then ?_
       refine c_cond rfl (fun h290 => ?_) (fun h290 => ?_)
       ·
        replace hm := ite_t hm (of_decide_eq_true h290)
        refine c_seq <| c_region <| g_v rfl (r_field (n := 9) Try.underlying62 rfl Try.sizeOf32 rfl rfl) <| g_storeL (tag := 100020) rfl rfl rfl rfl Try.sizeOf32 rfl rfl <| g_nil <| d_then <| c_region <| g_v rfl (r_field (n := 3) Try.underlying62 rfl Try.sizeOf4 rfl rfl) <| g_storeL (tag := 100020) rfl rfl rfl rfl Try.sizeOf4 rfl rfl <| g_nil ?_
        refine d_normal_block <| d_then <| c_region <| g_v rfl r_move <| g_v rfl (r_add rfl rfl rfl) <| g_v rfl r_assign <| g_nil ?_
        obtain ⟨n291, hn291, hlp⟩ := nx_inl hm hnx2
        exact d_round (n291, w64 (i201 + 1), true, ([] : List GRR), l285, l279, none, 0, A286, c287, A280, c281) ⟨hlp, (Nat.le_refl 0), hc287, hc281⟩ hn291 ⟨rfl, rfl, rfl, trivial⟩ (fun W h => h.phi (fun W hφ => ⟨(q260 _ (q283 _ (q289 _ hφ))), (fun W _ => Cl.nil _ _) W hφ, (fun W h => f288 W h) W hφ, (fun W h => f282 W (q289 _ h)) W hφ⟩))
       ·
        replace hm := ite_f hm (of_decide_eq_false h290)
        refine c_skip <| d_normal_block <| d_then <| c_region <| g_v rfl r_move <| g_v rfl (r_add rfl rfl rfl) <| g_v rfl r_assign <| g_nil ?_
        obtain ⟨n292, hn292, hlp⟩ := nx_inl hm hnx2
        exact d_round (n292, w64 (i201 + 1), b202, l203, l285, l279, A204, c205, A286, c287, A280, c281) ⟨hlp, hc205, hc287, hc281⟩ hn292 ⟨rfl, rfl, rfl, trivial⟩ (fun W h => h.phi (fun W hφ => ⟨(q260 _ (q283 _ (q289 _ hφ))), (fun W h => f206 W (q283 _ (q289 _ h))) W hφ, (fun W h => f288 W h) W hφ, (fun W h => f282 W (q289 _ h)) W hφ⟩))
  ·
   replace hm := ite_f hm (of_decide_eq_false h261)
   refine c_exit <| d_exit_then <| d_exit_then <| d_exit_block ?_
   replace hm := nx_out (C := (fun e => Sum.elim (fun e => m_ref06_Fit_j1) (fun x => some x) e = some r)) hm hnx2 hr2
   exact d_round () hm Nat.zero_lt_one trivial (fun W h => (h.dropH (t := 100020) rfl).phi (fun W hφ => (q260 _ hφ)))
 ·
  unfold m_ref06_Fit_j1 at hm
  refine d_flat [] trivial (fun u => ?_)
  refine d_sta ⟨w0, M, H, R, φ⟩ (fun _ h => h) <| d_then <| c_seq <| c_region <| g_v rfl r_assign <| g_v rfl r_assign <| g_nil <| d_then <| c_ret ?_
  replace hm := Option.some.inj hm
  subst hm
  refine d_retC () Try.results55 ?_ trivial (fun W h => ok_pre (H1 := []) (R1 := []) h (fun W hφ => hφ)) (.inr rfl)
  refine res_tmp <| res_tmp <| res_nil ?_
  exact rfl
noncomputable def m_law06_MessageFits (p0 : GMessage) (p1 : Int) : Option Bool :=
  (m_law06_awake).bind fun x2 =>
  (m_law06_small p0).bind fun x4 =>
  (m_message_Fit x4 p1).bind fun (z22 : ByteArray × Int) =>
  (m_ref06_Fit x4 p1).bind fun (z26 : ByteArray × Int) =>
  if x2 = true then
    if z22.1 = z26.1 then
      if z22.2 = z26.2 then
        if z22.2 ≠ 0 then
          some true
        else
          if (z22.1.size : Int) ≤ p1 then
            some (decide ((z22.1.size : Int) ≤ 4096))
          else
            some false
      else
        some false
    else
      some false
  else
    some false
theorem c_law06_MessageFits {w0 : World} {M : Nat → Prop} {H : List (Nat × Nat × Obj)} {R : List (Nat × Row)} {φ : World → Prop} (p0 : GMessage) (Ap0_0 : Option Addr) (cp0_0 : Nat) (hcp0_0 : p0.fQuestions.length ≤ cp0_0) (fp0_0 : ∀ W, (Sta.mk w0 M H R φ).ok W → Cl W Ap0_0 (p0.fQuestions.flatMap GQuestion.enc)) (Ap0_1 : Option Addr) (cp0_1 : Nat) (hcp0_1 : p0.fAnswers.length ≤ cp0_1) (fp0_1 : ∀ W, (Sta.mk w0 M H R φ).ok W → Cl W Ap0_1 (p0.fAnswers.flatMap GRR.enc)) (Ap0_2 : Option Addr) (cp0_2 : Nat) (hcp0_2 : p0.fAuthorities.length ≤ cp0_2) (fp0_2 : ∀ W, (Sta.mk w0 M H R φ).ok W → Cl W Ap0_2 (p0.fAuthorities.flatMap GRR.enc)) (Ap0_3 : Option Addr) (cp0_3 : Nat) (hcp0_3 : p0.fExtras.length ≤ cp0_3) (fp0_3 : ∀ W, (Sta.mk w0 M H R φ).ok W → Cl W Ap0_3 (p0.fExtras.flatMap GRR.enc)) (p1 : Int) (r : Bool) (hm : m_law06_MessageFits p0 p1 = some r) :
    Cn Try.prog 15 #[.agg #[.int .u16 p0.fID, .bool p0.fResponse, .bool p0.fAuthoritative, .bool p0.fTruncated, .bool p0.fDesired, .bool p0.fAvailable, .int .i64 p0.fOpcode, .int .i64 p0.fCode, .slice Ap0_0 p0.fQuestions.length cp0_0, .slice Ap0_1 p0.fAnswers.length cp0_1, .slice Ap0_2 p0.fAuthorities.length cp0_2, .slice Ap0_3 p0.fExtras.length cp0_3], .int .i64 p1] ⟨w0, M, H, R, φ⟩ (fun x : Unit => .bool r) (fun x => True) (fun x => ⟨w0, M, H, R, φ⟩) := by
 unfold m_law06_MessageFits at hm
 refine cn_intro (fn := Try.f15) (N := 51) Try.func15 rfl Try.ntmps15 rfl <| c_seq <| c_region ?_
 refine g_e rfl (e_box 100020 rfl) (fun g1 _ => ?_)
 refine g_v rfl r_assign <| g_nil <| d_then <| c_seq <| c_region ?_
 replace hm := bnd hm
 obtain ⟨x2, hx3, hm⟩ := hm
 refine g_cn ⟨w0, M, _, _, φ⟩ (fun _ h => h) Try.call38 rfl rfl (c_law06_awake  _ hx3) (fun _ _ => ?_)
 refine g_v rfl r_assign <| g_nil <| d_then <| c_seq <| c_region <| g_v rfl (r_loadA (tag := 100020) rfl rfl Try.isAgg62 Try.sizeOf62 rfl rfl) ?_
 replace hm := bnd hm
 obtain ⟨x4, hx5, hm⟩ := hm
 refine g_cn ⟨w0, M, _, _, φ⟩ (fun _ h => h) Try.call39 rfl rfl (c_law06_small p0 Ap0_0 cp0_0 hcp0_0 (fun W hS => fp0_0 W (ok_pre (H1 := [_]) (R1 := []) hS (fun W h => h))) Ap0_1 cp0_1 hcp0_1 (fun W hS => fp0_1 W (ok_pre (H1 := [_]) (R1 := []) hS (fun W h => h))) Ap0_2 cp0_2 hcp0_2 (fun W hS => fp0_2 W (ok_pre (H1 := [_]) (R1 := []) hS (fun W h => h))) Ap0_3 cp0_3 hcp0_3 (fun W hS => fp0_3 W (ok_pre (H1 := [_]) (R1 := []) hS (fun W h => h))) _ hx5) (fun ⟨A6, c7, A9, c10, A12, c13, A15, c16⟩ ⟨hc7, hc10, hc13, hc16⟩ => ?_)
 refine g_abs (fun φ18 q18' => ?_)
 have q18 : ∀ W, φ18 W → φ W := fun W h => (q18' W h).1
 have f8 := fun (W : World) (h : φ18 W) => (q18' W h).2.1
 have f11 := fun (W : World) (h : φ18 W) => (q18' W h).2.2.1
 have f14 := fun (W : World) (h : φ18 W) => (q18' W h).2.2.2.1
 have f17 := fun (W : World) (h : φ18 W) => (q18' W h).2.2.2.2
 refine g_storeL (tag := 100020) rfl rfl rfl rfl Try.sizeOf62 rfl rfl <| g_nil <| d_then <| c_seq <| c_region <| g_v rfl (r_loadA (tag := 100020) rfl rfl Try.isAgg62 Try.sizeOf62 rfl rfl) <| g_v rfl r_move ?_
 replace hm := bnd hm
 obtain ⟨⟨x19, x20⟩, hx21, hm⟩ := hm
 refine g_cn ⟨w0, M, _, _, φ18⟩ (fun _ h => h) Try.call54 rfl rfl (c_message_Fit x4 A6 c7 hc7 (fun W hS => f8 W hS.now) A9 c10 hc10 (fun W h => f11 W h) A12 c13 hc13 (fun W h => f14 W h) A15 c16 hc16 (fun W h => f17 W h) p1 _ hx21) (fun _ _ => ?_)
 refine g_v rfl r_move <| g_v rfl (r_extract rfl rfl) <| g_v rfl (r_extract rfl rfl) <| g_v rfl r_assign <| g_v rfl r_assign <| g_nil <| d_then ?_
 refine c_flat [(1, .int .i64 p1), (2, .pointer (some ⟨g1, 0, none⟩)), (5, .bool x2), (6, .string x19), (7, .int .i64 x20)] ⟨rfl, rfl, rfl, rfl, rfl, trivial⟩ (fun u => ?_)
 refine c_sta ⟨w0, M, (100020, g1, .cells #[.int .u16 x4.fID, .bool x4.fResponse, .bool x4.fAuthoritative, .bool x4.fTruncated, .bool x4.fDesired, .bool x4.fAvailable, .int .i64 x4.fOpcode, .int .i64 x4.fCode, .slice A6 x4.fQuestions.length c7, .slice A9 x4.fAnswers.length c10, .slice A12 x4.fAuthorities.length c13, .slice A15 x4.fExtras.length c16] 62 (0, 0)) :: H, R, φ18⟩ (fun _ h => h) <| c_seq <| c_region <| g_v rfl (r_loadA (tag := 100020) rfl rfl Try.isAgg62 Try.sizeOf62 rfl rfl) <| g_v rfl r_move ?_
 replace hm := bnd hm
 obtain ⟨⟨x23, x24⟩, hx25, hm⟩ := hm
 refine g_cn ⟨w0, M, _, _, φ18⟩ (fun _ h => h) Try.call55 rfl rfl (c_ref06_Fit x4 A6 c7 hc7 (fun W hS => f8 W hS.now) A9 c10 hc10 (fun W h => f11 W h) A12 c13 hc13 (fun W h => f14 W h) A15 c16 hc16 (fun W h => f17 W h) p1 _ hx25) (fun _ _ => ?_)
 refine g_v rfl r_move <| g_v rfl (r_extract rfl rfl) <| g_v rfl (r_extract rfl rfl) <| g_v rfl r_assign <| g_v rfl r_assign <| g_nil <| d_then <| c_seq <| c_region <| g_v rfl r_move ?_
 refine g_v rfl r_move ?_
 refine g_if rfl rfl rfl rfl rfl (fun h27 => ?_) (fun h27 => ?_)
 ·
  replace hm := ite_t hm h27
  refine g_v rfl r_move <| g_do rfl rfl rfl rfl rfl h27 <| g_v rfl r_move <| g_do rfl rfl rfl rfl rfl h27 <| g_v rfl (r_eqlT rfl rfl) <| g_v rfl (r_pick1 rfl h27) <| g_v rfl r_move ?_
  refine g_if rfl rfl rfl rfl rfl (fun h28 => ?_) (fun h28 => ?_)
  ·
   replace hm := ite_t hm (of_decide_eq_true h28)
   refine g_v rfl r_move <| g_do rfl rfl rfl rfl rfl h28 <| g_v rfl r_move <| g_do rfl rfl rfl rfl rfl h28 <| g_v rfl (r_eql rfl rfl) <| g_v rfl (r_pick1 rfl h28) <| g_v rfl r_move ?_
   refine g_if rfl rfl rfl rfl rfl (fun h29 => ?_) (fun h29 => ?_)
   ·
    replace hm := ite_t hm (of_decide_eq_true h29)
    refine g_v rfl r_move <| g_do rfl rfl rfl rfl rfl h29 <| g_v rfl (r_neq rfl rfl) <| g_do rfl rfl rfl rfl rfl h29 <| g_v rfl r_move ?_
    refine g_if rfl rfl rfl rfl rfl (fun h30 => ?_) (fun h30 => ?_)
    ·
     replace hm := ite_f hm (of_decide_eq_false h30)
     refine g_v rfl r_move <| g_do rfl rfl rfl rfl rfl h30 <| g_v rfl (r_len Try.underlying9 rfl) <| g_do rfl rfl rfl rfl rfl h30 <| g_v rfl r_move <| g_do rfl rfl rfl rfl rfl h30 <| g_v rfl (r_leq rfl rfl) <| g_do rfl rfl rfl rfl rfl h30 <| g_v rfl r_move ?_
     refine g_if rfl rfl rfl rfl rfl (fun h31 => ?_) (fun h31 => ?_)
     ·
      replace hm := ite_t hm (of_decide_eq_true h31)
      refine g_v rfl r_move <| g_do rfl rfl rfl rfl rfl h31 <| g_v rfl (r_len Try.underlying9 rfl) <| g_do rfl rfl rfl rfl rfl h31 <| g_v rfl (r_leq rfl rfl) <| g_do rfl rfl rfl rfl rfl h30 <| g_v rfl (r_pick1 rfl h31) <| g_do rfl rfl rfl rfl rfl h29 <| g_v rfl (r_pick0 rfl h30) <| g_v rfl (r_pick1 rfl h29) ?_
      refine g_v rfl r_assign <| g_nil <| d_then ?_
      refine c_flat [(4, .bool (decide ((x19.size : Int) ≤ 4096)))] ⟨rfl, trivial⟩ (fun u => ?_)
      refine c_ret ?_
      replace hm := Option.some.inj hm
      subst hm
      refine d_retC () Try.results15 ?_ trivial (fun W h => ok_pre (H1 := [_]) (R1 := []) h (fun W hφ => (q18 _ hφ))) (.inr rfl)
      refine res_tmp <| res_nil ?_
      exact rfl
     ·
      replace hm := ite_f hm (of_decide_eq_false h31)
      refine g_no rfl rfl rfl rfl rfl h31 <| g_no rfl rfl rfl rfl rfl h31 <| g_do rfl rfl rfl rfl rfl h30 <| g_v rfl (r_pick0 rfl h31) <| g_do rfl rfl rfl rfl rfl h29 <| g_v rfl (r_pick0 rfl h30) <| g_v rfl (r_pick1 rfl h29) <| g_v rfl r_assign <| g_nil <| d_then ?_
      refine c_flat [(4, .bool false)] ⟨rfl, trivial⟩ (fun u => ?_)
      refine c_ret ?_
      replace hm := Option.some.inj hm
      subst hm
      refine d_retC () Try.results15 ?_ trivial (fun W h => ok_pre (H1 := [_]) (R1 := []) h (fun W hφ => (q18 _ hφ))) (.inr rfl)
      refine res_tmp <| res_nil ?_
      exact rfl
    ·
     replace hm := ite_t hm (of_decide_eq_true h30)
     refine g_no rfl rfl rfl rfl rfl h30 <| g_no rfl rfl rfl rfl rfl h30 <| g_no rfl rfl rfl rfl rfl h30 <| g_no rfl rfl rfl rfl rfl h30 <| g_nu rfl rfl rfl rfl rfl <| g_nu rfl rfl rfl rfl rfl <| g_nu rfl rfl rfl rfl rfl <| g_no rfl rfl rfl rfl rfl h30 <| g_do rfl rfl rfl rfl rfl h29 <| g_v rfl (r_pick1 rfl h30) ?_
     refine g_v rfl (r_pick1 rfl h29) <| g_v rfl r_assign <| g_nil <| d_then ?_
     refine c_flat [(4, .bool true)] ⟨rfl, trivial⟩ (fun u => ?_)
     refine c_ret ?_
     replace hm := Option.some.inj hm
     subst hm
     refine d_retC () Try.results15 ?_ trivial (fun W h => ok_pre (H1 := [_]) (R1 := []) h (fun W hφ => (q18 _ hφ))) (.inr rfl)
     refine res_tmp <| res_nil ?_
     exact rfl
   ·
    replace hm := ite_f hm (of_decide_eq_false h29)
    refine g_no rfl rfl rfl rfl rfl h29 <| g_no rfl rfl rfl rfl rfl h29 <| g_nu rfl rfl rfl rfl rfl <| g_nu rfl rfl rfl rfl rfl <| g_nu rfl rfl rfl rfl rfl <| g_nu rfl rfl rfl rfl rfl <| g_nu rfl rfl rfl rfl rfl <| g_nu rfl rfl rfl rfl rfl <| g_nu rfl rfl rfl rfl rfl <| g_nu rfl rfl rfl rfl rfl ?_
    refine g_nu rfl rfl rfl rfl rfl <| g_no rfl rfl rfl rfl rfl h29 <| g_v rfl (r_pick0 rfl h29) <| g_v rfl r_assign <| g_nil <| d_then ?_
    refine c_flat [(4, .bool false)] ⟨rfl, trivial⟩ (fun u => ?_)
    refine c_ret ?_
    replace hm := Option.some.inj hm
    subst hm
    refine d_retC () Try.results15 ?_ trivial (fun W h => ok_pre (H1 := [_]) (R1 := []) h (fun W hφ => (q18 _ hφ))) (.inr rfl)
    refine res_tmp <| res_nil ?_
    exact rfl
  ·
   replace hm := ite_f hm (of_decide_eq_false h28)
   refine g_no rfl rfl rfl rfl rfl h28 <| g_no rfl rfl rfl rfl rfl h28 <| g_v rfl (r_pick0 rfl h28) <| g_v rfl r_move <| g_no rfl rfl rfl rfl rfl rfl <| g_no rfl rfl rfl rfl rfl rfl <| g_no rfl rfl rfl rfl rfl rfl <| g_nu rfl rfl rfl rfl rfl <| g_nu rfl rfl rfl rfl rfl <| g_nu rfl rfl rfl rfl rfl ?_
   refine g_nu rfl rfl rfl rfl rfl <| g_nu rfl rfl rfl rfl rfl <| g_nu rfl rfl rfl rfl rfl <| g_nu rfl rfl rfl rfl rfl <| g_nu rfl rfl rfl rfl rfl <| g_nu rfl rfl rfl rfl rfl <| g_no rfl rfl rfl rfl rfl rfl <| g_v rfl (r_pick0 rfl rfl) <| g_v rfl r_assign <| g_nil ?_
   refine d_then ?_
   refine c_flat [(4, .bool false)] ⟨rfl, trivial⟩ (fun u => ?_)
   refine c_ret ?_
   replace hm := Option.some.inj hm
   subst hm
   refine d_retC () Try.results15 ?_ trivial (fun W h => ok_pre (H1 := [_]) (R1 := []) h (fun W hφ => (q18 _ hφ))) (.inr rfl)
   refine res_tmp <| res_nil ?_
   exact rfl
 ·
  replace hm := ite_f hm (bool_nt h27)
  refine g_no rfl rfl rfl rfl rfl h27 <| g_no rfl rfl rfl rfl rfl h27 <| g_v rfl (r_pick0 rfl h27) <| g_v rfl r_move <| g_no rfl rfl rfl rfl rfl rfl <| g_no rfl rfl rfl rfl rfl rfl <| g_no rfl rfl rfl rfl rfl rfl <| g_v rfl (r_pick0 rfl rfl) <| g_v rfl r_move <| g_no rfl rfl rfl rfl rfl rfl ?_
  refine g_no rfl rfl rfl rfl rfl rfl <| g_no rfl rfl rfl rfl rfl rfl <| g_nu rfl rfl rfl rfl rfl <| g_nu rfl rfl rfl rfl rfl <| g_nu rfl rfl rfl rfl rfl <| g_nu rfl rfl rfl rfl rfl <| g_nu rfl rfl rfl rfl rfl <| g_nu rfl rfl rfl rfl rfl <| g_nu rfl rfl rfl rfl rfl <| g_nu rfl rfl rfl rfl rfl ?_
  refine g_nu rfl rfl rfl rfl rfl <| g_no rfl rfl rfl rfl rfl rfl <| g_v rfl (r_pick0 rfl rfl) <| g_v rfl r_assign <| g_nil <| d_then ?_
  refine c_flat [(4, .bool false)] ⟨rfl, trivial⟩ (fun u => ?_)
  refine c_ret ?_
  replace hm := Option.some.inj hm
  subst hm
  refine d_retC () Try.results15 ?_ trivial (fun W h => ok_pre (H1 := [_]) (R1 := []) h (fun W hφ => (q18 _ hφ))) (.inr rfl)
  refine res_tmp <| res_nil ?_
  exact rfl
end Go.Proofs.Ytpdhdpefdgndeaa
