import Derived.Test.YtpdhdpefdgndeaaWMFA
set_option maxRecDepth 100000
set_option maxHeartbeats 4000000
set_option linter.unusedVariables false
set_option linter.unusedSimpArgs false
namespace Go.Proofs.Ytpdhdpefdgndeaa
open Go.RowKit Go.Proofs.YtpdhdpefdgndeaaW.PrintLast
noncomputable def m_message_Bytes_j1 (x2 : ByteArray) (x3 : Int) : Option (ByteArray × Int) :=
  some (x2, x3)
noncomputable def m_message_Bytes (p0 : GMessage) : Option (ByteArray × Int) :=
  (m_message_whole p0).bind fun (z5 : ByteArray × Int) =>
  if z5.2 = 0 then
    if 4096 < (z5.1.size : Int) then
      some ((⟨#[]⟩ : ByteArray), 11)
    else
      m_message_Bytes_j1 z5.1 z5.2
  else
    m_message_Bytes_j1 z5.1 z5.2
theorem c_message_Bytes {w0 : World} {M : Nat → Prop} {H : List (Nat × Nat × Obj)} {R : List (Nat × Row)} {φ : World → Prop} (p0 : GMessage) (Ap0_0 : Option Addr) (cp0_0 : Nat) (hcp0_0 : p0.fQuestions.length ≤ cp0_0) (fp0_0 : ∀ W, (Sta.mk w0 M H R φ).ok W → Cl W Ap0_0 (p0.fQuestions.flatMap GQuestion.enc)) (Ap0_1 : Option Addr) (cp0_1 : Nat) (hcp0_1 : p0.fAnswers.length ≤ cp0_1) (fp0_1 : ∀ W, φ W → Cl W Ap0_1 (p0.fAnswers.flatMap GRR.enc)) (Ap0_2 : Option Addr) (cp0_2 : Nat) (hcp0_2 : p0.fAuthorities.length ≤ cp0_2) (fp0_2 : ∀ W, φ W → Cl W Ap0_2 (p0.fAuthorities.flatMap GRR.enc)) (Ap0_3 : Option Addr) (cp0_3 : Nat) (hcp0_3 : p0.fExtras.length ≤ cp0_3) (fp0_3 : ∀ W, φ W → Cl W Ap0_3 (p0.fExtras.flatMap GRR.enc)) (r : ByteArray × Int) (hm : m_message_Bytes p0 = some r) :
    Cn Try.prog 40 #[.agg #[.int .u16 p0.fID, .bool p0.fResponse, .bool p0.fAuthoritative, .bool p0.fTruncated, .bool p0.fDesired, .bool p0.fAvailable, .int .i64 p0.fOpcode, .int .i64 p0.fCode, .slice Ap0_0 p0.fQuestions.length cp0_0, .slice Ap0_1 p0.fAnswers.length cp0_1, .slice Ap0_2 p0.fAuthorities.length cp0_2, .slice Ap0_3 p0.fExtras.length cp0_3]] ⟨w0, M, H, R, φ⟩ (fun x : Unit => .tuple #[.string r.1, .int .i64 r.2]) (fun x => True) (fun x => ⟨w0, M, H, R, φ⟩) := by
 unfold m_message_Bytes at hm
 refine cn_intro (fn := Try.f40) (N := 20) Try.func40 rfl Try.ntmps40 rfl <| c_seq <| c_region ?_
 refine g_e rfl (e_box 100010 rfl) (fun g1 _ => ?_)
 refine g_v rfl r_assign <| g_v rfl r_assign <| g_nil <| d_then <| c_seq <| c_region <| g_v rfl (r_loadA (tag := 100010) rfl rfl Try.isAgg62 Try.sizeOf62 rfl rfl) ?_
 replace hm := bnd hm
 obtain ⟨⟨x2, x3⟩, hx4, hm⟩ := hm
 refine g_cn ⟨w0, M, _, _, φ⟩ (fun _ h => h) Try.call86 rfl rfl (c_message_whole p0 Ap0_0 cp0_0 hcp0_0 (fun W hS => fp0_0 W (ok_pre (H1 := [_]) (R1 := []) hS (fun W h => h))) Ap0_1 cp0_1 hcp0_1 (fun W h => fp0_1 W h) Ap0_2 cp0_2 hcp0_2 (fun W h => fp0_2 W h) Ap0_3 cp0_3 hcp0_3 (fun W h => fp0_3 W h) _ hx4) (fun _ _ => ?_)
 refine g_v rfl r_move <| g_v rfl (r_extract rfl rfl) <| g_v rfl (r_extract rfl rfl) <| g_v rfl r_assign <| g_v rfl r_assign <| g_nil <| d_then ?_
 refine c_flat [(4, .string x2), (5, .int .i64 x3)] ⟨rfl, rfl, trivial⟩ (fun u => ?_)
 refine c_sta ⟨w0, M, (100010, g1, .cells #[.int .u16 p0.fID, .bool p0.fResponse, .bool p0.fAuthoritative, .bool p0.fTruncated, .bool p0.fDesired, .bool p0.fAvailable, .int .i64 p0.fOpcode, .int .i64 p0.fCode, .slice Ap0_0 p0.fQuestions.length cp0_0, .slice Ap0_1 p0.fAnswers.length cp0_1, .slice Ap0_2 p0.fAuthorities.length cp0_2, .slice Ap0_3 p0.fExtras.length cp0_3] 62 (0, 0)) :: H, R, φ⟩ (fun _ h => h) <| c_seq ?_
 refine c_cut (ι := Unit) [4, 5] (fun _ => []) (fun _ => ⟨w0, M, H, R, φ⟩) (fun _ => m_message_Bytes_j1 x2 x3 = some r) ?_ (fun _ u hm => ?_)
 ·
  refine c_seq <| c_region <| g_v rfl r_move <| g_v rfl (r_eql rfl rfl) <| g_v rfl r_move ?_
  refine g_if rfl rfl rfl rfl rfl (fun h8 => ?_) (fun h8 => ?_)
  ·
   replace hm := ite_t hm (of_decide_eq_true h8)
   refine g_v rfl r_move <| g_do rfl rfl rfl rfl rfl h8 <| g_v rfl (r_len Try.underlying9 rfl) <| g_do rfl rfl rfl rfl rfl h8 <| g_v rfl (r_gtr rfl rfl) <| g_v rfl (r_pick1 rfl h8) <| g_nil <| d_then ?_
   refine c_cond rfl (fun h9 => ?_) (fun h9 => ?_)
   ·
    replace hm := ite_t hm (of_decide_eq_true h9)
    refine c_seq <| c_region <| g_v rfl r_assign <| g_v rfl r_assign <| g_nil <| d_then ?_
    refine c_flat [(2, .string (⟨#[]⟩ : ByteArray)), (3, .int .i64 11)] ⟨rfl, rfl, trivial⟩ (fun u => ?_)
    refine c_ret <| d_ret_then <| d_ret_then ?_
    replace hm := Option.some.inj hm
    subst hm
    refine d_retC () Try.results40 ?_ trivial (fun W h => ok_pre (H1 := [_]) (R1 := []) h (fun W hφ => hφ)) (.inr rfl)
    refine res_tmp <| res_tmp <| res_nil ?_
    exact rfl
   ·
    replace hm := ite_f hm (of_decide_eq_false h9)
    refine c_skip ?_
    exact d_round () hm Nat.zero_lt_one ⟨rfl, rfl, trivial⟩ (fun W h => (h.dropH (t := 100010) rfl).phi (fun W hφ => hφ))
  ·
   replace hm := ite_f hm (of_decide_eq_false h8)
   refine g_no rfl rfl rfl rfl rfl h8 <| g_no rfl rfl rfl rfl rfl h8 <| g_v rfl (r_pick0 rfl h8) <| g_nil <| d_then <| c_cond0 rfl rfl <| c_skip ?_
   exact d_round () hm Nat.zero_lt_one ⟨rfl, rfl, trivial⟩ (fun W h => (h.dropH (t := 100010) rfl).phi (fun W hφ => hφ))
 ·
  unfold m_message_Bytes_j1 at hm
  refine d_flat [(4, .string x2), (5, .int .i64 x3)] ⟨rfl, rfl, trivial⟩ (fun u => ?_)
  refine d_sta ⟨w0, M, H, R, φ⟩ (fun _ h => h) <| d_then <| c_seq <| c_region <| g_v rfl r_move <| g_v rfl r_move <| g_v rfl r_assign <| g_v rfl r_assign <| g_nil <| d_then ?_
  refine c_ret ?_
  replace hm := Option.some.inj hm
  subst hm
  refine d_retC () Try.results40 ?_ trivial (fun W h => ok_pre (H1 := []) (R1 := []) h (fun W hφ => hφ)) (.inr rfl)
  refine res_tmp <| res_tmp <| res_nil ?_
  exact rfl
theorem bld62_16  : ∀ W, (Instr.build 62 #[]).run Try.prog W = .ok (.agg #[.int .u16 0, .bool false, .bool false, .bool false, .bool false, .bool false, .int .i64 0, .int .i64 0, .slice none 0 0, .slice none 0 0, .slice none 0 0, .slice none 0 0]) W := fun _ => by kernel_rfl
noncomputable def m_pack_Raw (p0 : ByteArray) (p1 : Int) (p2 : Int) : Option (ByteArray × Int × Int) :=
  if p1 < 0 then
    some ((⟨#[]⟩ : ByteArray), 0, 10)
  else
    if p2 < 0 then
      some ((⟨#[]⟩ : ByteArray), 0, 10)
    else
      if (p0.size : Int) < p1 then
        some ((⟨#[]⟩ : ByteArray), 0, 10)
      else
        if w64 ((p0.size : Int) - p1) < p2 then
          some ((⟨#[]⟩ : ByteArray), 0, 10)
        else
          (scutMid p0 p1 (w64 (p1 + p2))).bind fun s5 =>
          some (s5, w64 (p1 + p2), 0)
theorem c_pack_Raw {w0 : World} {M : Nat → Prop} {H : List (Nat × Nat × Obj)} {R : List (Nat × Row)} {φ : World → Prop} (p0 : ByteArray) (p1 : Int) (p2 : Int) (r : ByteArray × Int × Int) (hm : m_pack_Raw p0 p1 p2 = some r) :
    Cn Try.prog 60 #[.string p0, .int .i64 p1, .int .i64 p2] ⟨w0, M, H, R, φ⟩ (fun x : Unit => .tuple #[.string r.1, .int .i64 r.2.1, .int .i64 r.2.2]) (fun x => True) (fun x => ⟨w0, M, H, R, φ⟩) := by
 unfold m_pack_Raw at hm
 refine cn_intro (fn := Try.f60) (N := 38) Try.func60 rfl Try.ntmps60 rfl <| c_seq <| c_region <| g_v rfl r_assign <| g_v rfl r_assign <| g_v rfl r_assign <| g_nil <| d_then <| c_seq <| c_seq ?_
 refine c_region <| g_v rfl r_move <| g_v rfl (r_lss rfl rfl) <| g_v rfl r_move ?_
 refine g_if rfl rfl rfl rfl rfl (fun h1 => ?_) (fun h1 => ?_)
 ·
  replace hm := ite_f hm (of_decide_eq_false h1)
  refine g_v rfl r_move <| g_do rfl rfl rfl rfl rfl h1 <| g_v rfl (r_lss rfl rfl) <| g_v rfl (r_pick0 rfl h1) <| g_v rfl r_move ?_
  refine g_if rfl rfl rfl rfl rfl (fun h2 => ?_) (fun h2 => ?_)
  ·
   replace hm := ite_f hm (of_decide_eq_false h2)
   refine g_v rfl r_move <| g_do rfl rfl rfl rfl rfl h2 <| g_v rfl r_move <| g_do rfl rfl rfl rfl rfl h2 <| g_v rfl (r_len Try.underlying9 rfl) <| g_do rfl rfl rfl rfl rfl h2 <| g_v rfl (r_gtr rfl rfl) <| g_v rfl (r_pick0 rfl h2) <| g_v rfl r_move ?_
   refine g_if rfl rfl rfl rfl rfl (fun h3 => ?_) (fun h3 => ?_)
   ·
    replace hm := ite_f hm (of_decide_eq_false h3)
    refine g_v rfl r_move <| g_do rfl rfl rfl rfl rfl h3 <| g_v rfl r_move <| g_do rfl rfl rfl rfl rfl h3 <| g_v rfl (r_len Try.underlying9 rfl) <| g_do rfl rfl rfl rfl rfl h3 <| g_v rfl r_move <| g_do rfl rfl rfl rfl rfl h3 <| g_v rfl (r_sub rfl rfl rfl) <| g_do rfl rfl rfl rfl rfl h3 ?_
    refine g_v rfl (r_gtr rfl rfl) <| g_v rfl (r_pick0 rfl h3) <| g_nil <| d_then ?_
    refine c_flat [(0, .string p0), (1, .int .i64 p1), (2, .int .i64 p2), (28, .bool (decide (w64 ((p0.size : Int) - p1) < p2)))] ⟨rfl, rfl, rfl, rfl, trivial⟩ (fun u => ?_)
    refine c_sta ⟨w0, M, H, R, φ⟩ (fun _ h => h) ?_
    refine c_cond rfl (fun h4 => ?_) (fun h4 => ?_)
    ·
     replace hm := ite_t hm (of_decide_eq_true h4)
     refine c_seq <| c_region <| g_v rfl r_assign <| g_v rfl r_assign <| g_v rfl r_assign <| g_nil <| d_then <| c_ret <| d_ret_then ?_
     replace hm := Option.some.inj hm
     subst hm
     refine d_retC () Try.results60 ?_ trivial (fun W h => ok_pre (H1 := []) (R1 := []) h (fun W hφ => hφ)) (.inr rfl)
     refine res_tmp <| res_tmp <| res_tmp <| res_nil ?_
     exact rfl
    ·
     replace hm := ite_f hm (of_decide_eq_false h4)
     refine c_skip <| d_then <| c_seq <| c_region <| g_v rfl r_move <| g_v rfl r_move <| g_v rfl r_move <| g_v rfl r_move <| g_v rfl (r_add rfl rfl rfl) ?_
     replace hm := bnd hm
     obtain ⟨s5, hs5, hm⟩ := hm
     refine g_v rfl (r_scutMid Try.underlying9 rfl rfl rfl hs5) <| g_v rfl r_move <| g_v rfl r_move <| g_v rfl (r_add rfl rfl rfl) <| g_v rfl r_assign <| g_v rfl r_assign <| g_v rfl r_assign <| g_nil <| d_then ?_
     refine c_flat [(6, .string s5), (7, .int .i64 (w64 (p1 + p2))), (8, .int .i64 0)] ⟨rfl, rfl, rfl, trivial⟩ (fun u => ?_)
     refine c_ret ?_
     replace hm := Option.some.inj hm
     subst hm
     refine d_retC () Try.results60 ?_ trivial (fun W h => ok_pre (H1 := []) (R1 := []) h (fun W hφ => hφ)) (.inr rfl)
     refine res_tmp <| res_tmp <| res_tmp <| res_nil ?_
     exact rfl
   ·
    replace hm := ite_t hm (of_decide_eq_true h3)
    refine g_no rfl rfl rfl rfl rfl h3 <| g_no rfl rfl rfl rfl rfl h3 <| g_no rfl rfl rfl rfl rfl h3 <| g_no rfl rfl rfl rfl rfl h3 <| g_no rfl rfl rfl rfl rfl h3 <| g_v rfl (r_pick1 rfl h3) <| g_nil <| d_then ?_
    refine c_flat [(0, .string p0), (1, .int .i64 p1), (2, .int .i64 p2), (28, .bool true)] ⟨rfl, rfl, rfl, rfl, trivial⟩ (fun u => ?_)
    refine c_sta ⟨w0, M, H, R, φ⟩ (fun _ h => h) <| c_cond1 rfl rfl <| c_seq <| c_region <| g_v rfl r_assign <| g_v rfl r_assign <| g_v rfl r_assign <| g_nil <| d_then <| c_ret ?_
    refine d_ret_then ?_
    replace hm := Option.some.inj hm
    subst hm
    refine d_retC () Try.results60 ?_ trivial (fun W h => ok_pre (H1 := []) (R1 := []) h (fun W hφ => hφ)) (.inr rfl)
    refine res_tmp <| res_tmp <| res_tmp <| res_nil ?_
    exact rfl
  ·
   replace hm := ite_t hm (of_decide_eq_true h2)
   refine g_no rfl rfl rfl rfl rfl h2 <| g_no rfl rfl rfl rfl rfl h2 <| g_no rfl rfl rfl rfl rfl h2 <| g_v rfl (r_pick1 rfl h2) <| g_v rfl r_move <| g_no rfl rfl rfl rfl rfl rfl <| g_no rfl rfl rfl rfl rfl rfl <| g_no rfl rfl rfl rfl rfl rfl <| g_no rfl rfl rfl rfl rfl rfl <| g_no rfl rfl rfl rfl rfl rfl ?_
   refine g_no rfl rfl rfl rfl rfl rfl <| g_v rfl (r_pick1 rfl rfl) <| g_nil <| d_then ?_
   refine c_flat [(0, .string p0), (1, .int .i64 p1), (2, .int .i64 p2), (28, .bool true)] ⟨rfl, rfl, rfl, rfl, trivial⟩ (fun u => ?_)
   refine c_sta ⟨w0, M, H, R, φ⟩ (fun _ h => h) <| c_cond1 rfl rfl <| c_seq <| c_region <| g_v rfl r_assign <| g_v rfl r_assign <| g_v rfl r_assign <| g_nil <| d_then <| c_ret ?_
   refine d_ret_then ?_
   replace hm := Option.some.inj hm
   subst hm
   refine d_retC () Try.results60 ?_ trivial (fun W h => ok_pre (H1 := []) (R1 := []) h (fun W hφ => hφ)) (.inr rfl)
   refine res_tmp <| res_tmp <| res_tmp <| res_nil ?_
   exact rfl
 ·
  replace hm := ite_t hm (of_decide_eq_true h1)
  refine g_no rfl rfl rfl rfl rfl h1 <| g_v rfl (r_pick1 rfl h1) <| g_v rfl r_move <| g_no rfl rfl rfl rfl rfl rfl <| g_no rfl rfl rfl rfl rfl rfl <| g_no rfl rfl rfl rfl rfl rfl <| g_no rfl rfl rfl rfl rfl rfl <| g_v rfl (r_pick1 rfl rfl) <| g_v rfl r_move <| g_no rfl rfl rfl rfl rfl rfl ?_
  refine g_no rfl rfl rfl rfl rfl rfl <| g_no rfl rfl rfl rfl rfl rfl <| g_no rfl rfl rfl rfl rfl rfl <| g_no rfl rfl rfl rfl rfl rfl <| g_no rfl rfl rfl rfl rfl rfl <| g_v rfl (r_pick1 rfl rfl) <| g_nil <| d_then ?_
  refine c_flat [(0, .string p0), (1, .int .i64 p1), (2, .int .i64 p2), (28, .bool true)] ⟨rfl, rfl, rfl, rfl, trivial⟩ (fun u => ?_)
  refine c_sta ⟨w0, M, H, R, φ⟩ (fun _ h => h) <| c_cond1 rfl rfl <| c_seq <| c_region <| g_v rfl r_assign <| g_v rfl r_assign <| g_v rfl r_assign <| g_nil <| d_then <| c_ret ?_
  refine d_ret_then ?_
  replace hm := Option.some.inj hm
  subst hm
  refine d_retC () Try.results60 ?_ trivial (fun W h => ok_pre (H1 := []) (R1 := []) h (fun W hφ => hφ)) (.inr rfl)
  refine res_tmp <| res_tmp <| res_tmp <| res_nil ?_
  exact rfl
noncomputable def m_pack_number_j1 (x2 : Int) (x3 : Int) (i17 : Int) : Option (Int × Int × Int) :=
  some (i17, x2, x3)
noncomputable def m_pack_number_s2 (x1 : ByteArray) (i22 : Int) (i23 : Int) : Option ((Int × Int) ⊕ Int) :=
  if i23 < (x1.size : Int) then
    (sat_ x1 i23).bind fun b30 =>
    some (.inl (orI .u32 (IntKind.u32.wrap (i22 * 256)) (IntKind.u32.wrap b30), w64 (i23 + 1)))
  else
    some (.inr i22)
noncomputable def m_pack_number (p0 : ByteArray) (p1 : Int) (p2 : Int) : Option (Int × Int × Int) :=
  (m_pack_Raw p0 p1 p2).bind fun (z5 : ByteArray × Int × Int) =>
  (loop (fun s => m_pack_number_s2 z5.1 s.1 s.2) (0, 0)).bind fun e => m_pack_number_j1 z5.2.1 z5.2.2 e
theorem c_pack_number {w0 : World} {M : Nat → Prop} {H : List (Nat × Nat × Obj)} {R : List (Nat × Row)} {φ : World → Prop} (p0 : ByteArray) (p1 : Int) (p2 : Int) (r : Int × Int × Int) (hm : m_pack_number p0 p1 p2 = some r) :
    Cn Try.prog 98 #[.string p0, .int .i64 p1, .int .i64 p2] ⟨w0, M, H, R, φ⟩ (fun x : Unit => .tuple #[.int .u32 r.1, .int .i64 r.2.1, .int .i64 r.2.2]) (fun x => True) (fun x => ⟨w0, M, H, R, φ⟩) := by
 unfold m_pack_number at hm
 refine cn_intro (fn := Try.f98) (N := 38) Try.func98 rfl Try.ntmps98 rfl <| c_seq <| c_region <| g_v rfl r_assign <| g_v rfl r_assign <| g_v rfl r_assign <| g_nil <| d_then <| c_seq <| c_region ?_
 refine g_v rfl r_move <| g_v rfl r_move <| g_v rfl r_move ?_
 replace hm := bnd hm
 obtain ⟨⟨x1, x2, x3⟩, hx4, hm⟩ := hm
 refine g_cn ⟨w0, M, _, _, φ⟩ (fun _ h => h) Try.call60 rfl rfl (c_pack_Raw p0 p1 p2 _ hx4) (fun _ _ => ?_)
 refine g_v rfl r_move <| g_v rfl (r_extract rfl rfl) <| g_v rfl (r_extract rfl rfl) <| g_v rfl (r_extract rfl rfl) <| g_v rfl r_assign <| g_v rfl r_assign <| g_v rfl r_assign <| g_nil <| d_then ?_
 refine c_flat [(9, .string x1), (10, .int .i64 x2), (11, .int .i64 x3)] ⟨rfl, rfl, rfl, trivial⟩ (fun u => ?_)
 refine c_sta ⟨w0, M, H, R, φ⟩ (fun _ h => h) <| c_seq <| c_region <| g_v rfl r_assign <| g_nil <| d_then <| c_seq <| c_seq <| c_region <| g_v rfl r_move ?_
 refine g_v rfl (r_len Try.underlying9 rfl) <| g_v rfl r_move <| g_nil <| d_then ?_
 refine c_cut (ι := Int) [10, 11, 12] (fun i17 => [(12, .int .u32 i17)]) (fun i17 => ⟨w0, M, H, R, φ⟩) (fun i17 => m_pack_number_j1 x2 x3 i17 = some r) ?_ (fun i17 u hm => ?_)
 ·
  refine c_block ?_
  replace hm := bnd hm
  obtain ⟨out2, hl2, hr2⟩ := hm
  obtain ⟨n28', hl2⟩ := loop_lp hl2
  refine c_loopU (ι := Nat × Int × Int) [9, 10, 11, 12, 23, 24] (fun ⟨n28, i22, i23⟩ => [(12, .int .u32 i22), (24, .int .i64 i23)]) (fun ⟨n28, i22, i23⟩ => ⟨w0, M, H, R, φ⟩) (fun ⟨n28, i22, i23⟩ => Lp (fun s => m_pack_number_s2 x1 s.1 s.2) n28 (i22, i23) out2) (fun ⟨n28, i22, i23⟩ => n28) (n28', 0, 0) hl2 ⟨rfl, rfl, rfl, rfl, rfl, rfl, trivial⟩ (fun W h => h.phi (fun W hφ => hφ)) (fun ⟨n28, i22, i23⟩ u hlp => ?_)
  obtain ⟨o2, hm, hnx2⟩ := lp_step hlp
  clear hlp
  replace hm : m_pack_number_s2 x1 i22 i23 = some o2 := hm
  unfold m_pack_number_s2 at hm
  refine c_flat [(9, .string x1), (10, .int .i64 x2), (11, .int .i64 x3), (12, .int .u32 i22), (23, .int .i64 (x1.size : Int)), (24, .int .i64 i23)] ⟨rfl, rfl, rfl, rfl, rfl, rfl, trivial⟩ (fun u => ?_)
  refine c_seq <| c_region <| g_v rfl (r_lss rfl rfl) <| g_nil <| d_then <| c_seq ?_
  refine c_cond rfl (fun h29 => ?_) (fun h29 => ?_)
  ·
   replace hm := ite_t hm (of_decide_eq_true h29)
   refine c_skip <| d_then <| c_seq <| c_block <| c_seq <| c_region <| g_v rfl r_move <| g_v rfl r_assign <| g_nil <| d_then ?_
   refine c_region <| g_v rfl r_move <| g_v rfl (r_shl (n := 256) rfl rfl (by decide) (by decide) (by decide)) <| g_v rfl r_move <| g_v rfl r_move ?_
   replace hm := bnd hm
   obtain ⟨b30, hb30, hm⟩ := hm
   refine g_v rfl (r_sat Try.underlying9 rfl rfl hb30) <| g_v rfl (r_conv Try.underlying5 Try.underlying25 rfl rfl) <| g_v rfl (r_bits_or rfl rfl) <| g_v rfl r_assign <| g_nil <| d_normal_block <| d_then ?_
   refine c_flat [(9, .string x1), (10, .int .i64 x2), (11, .int .i64 x3), (12, .int .u32 (orI .u32 (IntKind.u32.wrap (i22 * 256)) (IntKind.u32.wrap b30))), (23, .int .i64 (x1.size : Int)), (24, .int .i64 i23)] ⟨rfl, rfl, rfl, rfl, rfl, rfl, trivial⟩ (fun u => ?_)
   refine c_region <| g_v rfl (r_add rfl rfl rfl) <| g_v rfl r_move <| g_nil ?_
   obtain ⟨n31, hn31, hlp⟩ := nx_inl hm hnx2
   exact d_round (n31, orI .u32 (IntKind.u32.wrap (i22 * 256)) (IntKind.u32.wrap b30), w64 (i23 + 1)) hlp hn31 ⟨rfl, rfl, rfl, rfl, rfl, rfl, trivial⟩ (fun W h => h.phi (fun W hφ => hφ))
  ·
   replace hm := ite_f hm (of_decide_eq_false h29)
   refine c_exit <| d_exit_then <| d_exit_then <| d_exit_block ?_
   replace hm := nx_out (C := (fun e => m_pack_number_j1 x2 x3 e = some r)) hm hnx2 hr2
   exact d_round i22 hm Nat.zero_lt_one ⟨rfl, rfl, rfl, trivial⟩ (fun W h => h.phi (fun W hφ => hφ))
 ·
  unfold m_pack_number_j1 at hm
  refine d_flat [(10, .int .i64 x2), (11, .int .i64 x3), (12, .int .u32 i17)] ⟨rfl, rfl, rfl, trivial⟩ (fun u => ?_)
  refine d_then <| c_seq <| c_region <| g_v rfl r_move <| g_v rfl r_move <| g_v rfl r_move <| g_v rfl r_assign <| g_v rfl r_assign <| g_v rfl r_assign <| g_nil ?_
  refine d_then <| c_ret ?_
  replace hm := Option.some.inj hm
  subst hm
  refine d_retC () Try.results98 ?_ trivial (fun W h => ok_pre (H1 := []) (R1 := []) h (fun W hφ => hφ)) (.inr rfl)
  refine res_tmp <| res_tmp <| res_tmp <| res_nil ?_
  exact rfl
noncomputable def m_pack_Word (p0 : ByteArray) (p1 : Int) : Option (Int × Int × Int) :=
  (m_pack_number p0 p1 2).bind fun (z5 : Int × Int × Int) =>
  some (IntKind.u16.wrap z5.1, z5.2.1, z5.2.2)
theorem c_pack_Word {w0 : World} {M : Nat → Prop} {H : List (Nat × Nat × Obj)} {R : List (Nat × Row)} {φ : World → Prop} (p0 : ByteArray) (p1 : Int) (r : Int × Int × Int) (hm : m_pack_Word p0 p1 = some r) :
    Cn Try.prog 58 #[.string p0, .int .i64 p1] ⟨w0, M, H, R, φ⟩ (fun x : Unit => .tuple #[.int .u16 r.1, .int .i64 r.2.1, .int .i64 r.2.2]) (fun x => True) (fun x => ⟨w0, M, H, R, φ⟩) := by
 unfold m_pack_Word at hm
 refine cn_intro (fn := Try.f58) (N := 21) Try.func58 rfl Try.ntmps58 rfl <| c_seq <| c_region <| g_v rfl r_assign <| g_v rfl r_assign <| g_v rfl r_assign <| g_nil <| d_then <| c_seq <| c_region ?_
 refine g_v rfl r_move <| g_v rfl r_move ?_
 replace hm := bnd hm
 obtain ⟨⟨x1, x2, x3⟩, hx4, hm⟩ := hm
 refine g_cn ⟨w0, M, _, _, φ⟩ (fun _ h => h) Try.call98 rfl rfl (c_pack_number p0 p1 2 _ hx4) (fun _ _ => ?_)
 refine g_v rfl r_move <| g_v rfl (r_extract rfl rfl) <| g_v rfl (r_extract rfl rfl) <| g_v rfl (r_extract rfl rfl) <| g_v rfl r_assign <| g_v rfl r_assign <| g_v rfl r_assign <| g_nil <| d_then ?_
 refine c_flat [(7, .int .u32 x1), (8, .int .i64 x2), (9, .int .i64 x3)] ⟨rfl, rfl, rfl, trivial⟩ (fun u => ?_)
 refine c_sta ⟨w0, M, H, R, φ⟩ (fun _ h => h) <| c_seq <| c_region <| g_v rfl r_move <| g_v rfl (r_conv Try.underlying25 Try.underlying24 rfl rfl) <| g_v rfl r_move <| g_v rfl r_move <| g_v rfl r_assign <| g_v rfl r_assign <| g_v rfl r_assign ?_
 refine g_nil <| d_then <| c_ret ?_
 replace hm := Option.some.inj hm
 subst hm
 refine d_retC () Try.results58 ?_ trivial (fun W h => ok_pre (H1 := []) (R1 := []) h (fun W hφ => hφ)) (.inr rfl)
 refine res_tmp <| res_tmp <| res_tmp <| res_nil ?_
 exact rfl
noncomputable def m_message_flags_has (p0 : Int) (p1 : Int) : Option Bool :=
  some (decide (andI .u16 p0 p1 ≠ 0))
theorem c_message_flags_has {w0 : World} {M : Nat → Prop} {H : List (Nat × Nat × Obj)} {R : List (Nat × Row)} {φ : World → Prop} (p0 : Int) (p1 : Int) (r : Bool) (hm : m_message_flags_has p0 p1 = some r) :
    Cn Try.prog 93 #[.int .u16 p0, .int .u16 p1] ⟨w0, M, H, R, φ⟩ (fun x : Unit => .bool r) (fun x => True) (fun x => ⟨w0, M, H, R, φ⟩) := by
 unfold m_message_flags_has at hm
 refine cn_intro (fn := Try.f93) (N := 9) Try.func93 rfl Try.ntmps93 rfl <| c_seq <| c_region <| g_v rfl r_assign <| g_nil <| d_then <| c_seq <| c_region <| g_v rfl r_move <| g_v rfl r_move ?_
 refine g_v rfl (r_bits_and rfl rfl) <| g_v rfl (r_neq rfl rfl) <| g_v rfl r_assign <| g_nil <| d_then <| c_ret ?_
 replace hm := Option.some.inj hm
 subst hm
 refine d_retC () Try.results93 ?_ trivial (fun W h => ok_pre (H1 := []) (R1 := []) h (fun W hφ => hφ)) (.inr rfl)
 refine res_tmp <| res_nil ?_
 exact rfl
theorem bld62_17 (z0 : Int) (z1 : Bool) (z2 : Bool) (z3 : Bool) (z4 : Bool) (z5 : Bool) (z6 : Int) (z7 : Int) : ∀ W, (Instr.build 62 #[(0, .int .u16 z0), (1, .bool z1), (2, .bool z2), (3, .bool z3), (4, .bool z4), (5, .bool z5), (6, .int .i64 z6), (7, .int .i64 z7)]).run Try.prog W = .ok (.agg #[.int .u16 z0, .bool z1, .bool z2, .bool z3, .bool z4, .bool z5, .int .i64 z6, .int .i64 z7, .slice none 0 0, .slice none 0 0, .slice none 0 0, .slice none 0 0]) W := fun _ => by kernel_rfl
noncomputable def m_message_Head (p0 : ByteArray) : Option (GMessage × Int) :=
  if (p0.size : Int) < 12 then
    some ((⟨0, false, false, false, false, false, 0, 0, ([] : List GQuestion), ([] : List GRR), ([] : List GRR), ([] : List GRR)⟩ : GMessage), 10)
  else
    (m_pack_Word p0 0).bind fun (z7 : Int × Int × Int) =>
    (m_pack_Word p0 2).bind fun (z12 : Int × Int × Int) =>
    (m_message_flags_has z12.1 32768).bind fun x13 =>
    (m_message_flags_has z12.1 1024).bind fun x15 =>
    (m_message_flags_has z12.1 512).bind fun x17 =>
    (m_message_flags_has z12.1 256).bind fun x19 =>
    (m_message_flags_has z12.1 128).bind fun x21 =>
    some ((⟨z7.1, x13, x15, x17, x19, x21, w64 (andI .u16 (z12.1 / 2048) 15), w64 (andI .u16 z12.1 15), ([] : List GQuestion), ([] : List GRR), ([] : List GRR), ([] : List GRR)⟩ : GMessage), 0)
theorem c_message_Head {w0 : World} {M : Nat → Prop} {H : List (Nat × Nat × Obj)} {R : List (Nat × Row)} {φ : World → Prop} (p0 : ByteArray) (r : GMessage × Int) (hm : m_message_Head p0 = some r) :
    Cn Try.prog 45 #[.string p0] ⟨w0, M, H, R, φ⟩ (fun x : Option Addr × Nat × Option Addr × Nat × Option Addr × Nat × Option Addr × Nat => .tuple #[.agg #[.int .u16 r.1.fID, .bool r.1.fResponse, .bool r.1.fAuthoritative, .bool r.1.fTruncated, .bool r.1.fDesired, .bool r.1.fAvailable, .int .i64 r.1.fOpcode, .int .i64 r.1.fCode, .slice x.1 r.1.fQuestions.length x.2.1, .slice x.2.2.1 r.1.fAnswers.length x.2.2.2.1, .slice x.2.2.2.2.1 r.1.fAuthorities.length x.2.2.2.2.2.1, .slice x.2.2.2.2.2.2.1 r.1.fExtras.length x.2.2.2.2.2.2.2], .int .i64 r.2]) (fun x => r.1.fQuestions.length ≤ x.2.1 ∧ r.1.fAnswers.length ≤ x.2.2.2.1 ∧ r.1.fAuthorities.length ≤ x.2.2.2.2.2.1 ∧ r.1.fExtras.length ≤ x.2.2.2.2.2.2.2) (fun x => ⟨w0, M, H, R, fun W => φ W ∧ Cl W x.1 (r.1.fQuestions.flatMap GQuestion.enc) ∧ Cl W x.2.2.1 (r.1.fAnswers.flatMap GRR.enc) ∧ Cl W x.2.2.2.2.1 (r.1.fAuthorities.flatMap GRR.enc) ∧ Cl W x.2.2.2.2.2.2.1 (r.1.fExtras.flatMap GRR.enc)⟩) := by
 unfold m_message_Head at hm
 refine cn_intro (fn := Try.f45) (N := 48) Try.func45 rfl Try.ntmps45 rfl <| c_seq <| c_region ?_
 refine g_e rfl (e_alloc 100020 Try.zeroValue62) (fun g1 _ => ?_)
 refine g_v rfl r_assign <| g_nil <| d_then <| c_seq <| c_seq <| c_region <| g_v rfl r_move <| g_v rfl (r_len Try.underlying9 rfl) <| g_v rfl (r_lss rfl rfl) <| g_nil ?_
 refine d_then ?_
 refine c_cond rfl (fun h2 => ?_) (fun h2 => ?_)
 ·
  replace hm := ite_t hm (of_decide_eq_true h2)
  refine c_seq <| c_region <| g_v rfl (r_build _ rfl (bld62_16)) <| g_storeL (tag := 100020) rfl rfl rfl rfl Try.sizeOf62 rfl rfl <| g_v rfl r_assign <| g_nil <| d_then <| c_ret <| d_ret_then ?_
  replace hm := Option.some.inj hm
  subst hm
  refine d_retC (none, 0, none, 0, none, 0, none, 0) Try.results45 ?_ ⟨(Nat.le_refl 0), (Nat.le_refl 0), (Nat.le_refl 0), (Nat.le_refl 0)⟩ (fun W h => ok_pre (H1 := [_]) (R1 := []) h (fun W hφ => ⟨hφ, (fun W _ => Cl.nil _ _) W hφ, (fun W _ => Cl.nil _ _) W hφ, (fun W _ => Cl.nil _ _) W hφ, (fun W _ => Cl.nil _ _) W hφ⟩)) (.inr rfl)
  refine res_agg (tag := 100020) rfl rfl Try.isAgg62 Try.sizeOf62 <| res_tmp <| res_nil ?_
  exact rfl
 ·
  replace hm := ite_f hm (of_decide_eq_false h2)
  refine c_skip <| d_then <| c_seq <| c_region <| g_v rfl r_move ?_
  replace hm := bnd hm
  obtain ⟨⟨x3, x4, x5⟩, hx6, hm⟩ := hm
  refine g_cn ⟨w0, M, _, _, φ⟩ (fun _ h => h) Try.call58 rfl rfl (c_pack_Word p0 0 _ hx6) (fun _ _ => ?_)
  refine g_v rfl r_move <| g_v rfl (r_extract rfl rfl) <| g_v rfl (r_extract rfl rfl) <| g_v rfl (r_extract rfl rfl) <| g_v rfl r_assign <| g_v rfl r_assign <| g_v rfl r_assign <| g_nil <| d_then ?_
  refine c_flat [(0, .string p0), (2, .pointer (some ⟨g1, 0, none⟩)), (4, .int .u16 x3)] ⟨rfl, rfl, rfl, trivial⟩ (fun u => ?_)
  refine c_sta ⟨w0, M, (100020, g1, .cells #[.int .u16 0, .bool false, .bool false, .bool false, .bool false, .bool false, .int .i64 0, .int .i64 0, .slice none 0 0, .slice none 0 0, .slice none 0 0, .slice none 0 0] 62 (0, 0)) :: H, R, φ⟩ (fun _ h => h) <| c_seq <| c_region <| g_v rfl r_move ?_
  replace hm := bnd hm
  obtain ⟨⟨x8, x9, x10⟩, hx11, hm⟩ := hm
  refine g_cn ⟨w0, M, _, _, φ⟩ (fun _ h => h) Try.call58 rfl rfl (c_pack_Word p0 2 _ hx11) (fun _ _ => ?_)
  refine g_v rfl r_move <| g_v rfl (r_extract rfl rfl) <| g_v rfl (r_extract rfl rfl) <| g_v rfl (r_extract rfl rfl) <| g_v rfl r_assign <| g_v rfl r_assign <| g_v rfl r_assign <| g_nil <| d_then ?_
  refine c_flat [(2, .pointer (some ⟨g1, 0, none⟩)), (4, .int .u16 x3), (7, .int .u16 x8)] ⟨rfl, rfl, rfl, trivial⟩ (fun u => ?_)
  refine c_seq <| c_region <| g_v rfl r_move <| g_v rfl (r_mkf rfl) <| g_v rfl r_assign <| g_nil <| d_then <| c_seq <| c_region <| g_v rfl r_move ?_
  refine g_v rfl r_move ?_
  replace hm := bnd hm
  obtain ⟨x13, hx14, hm⟩ := hm
  refine g_cnv ⟨w0, M, _, _, φ⟩ (fun _ h => h) Try.call93 rfl rfl rfl (c_message_flags_has x8 32768 _ hx14) (fun _ _ => ?_)
  refine g_v rfl r_move ?_
  replace hm := bnd hm
  obtain ⟨x15, hx16, hm⟩ := hm
  refine g_cnv ⟨w0, M, _, _, φ⟩ (fun _ h => h) Try.call93 rfl rfl rfl (c_message_flags_has x8 1024 _ hx16) (fun _ _ => ?_)
  refine g_v rfl r_move ?_
  replace hm := bnd hm
  obtain ⟨x17, hx18, hm⟩ := hm
  refine g_cnv ⟨w0, M, _, _, φ⟩ (fun _ h => h) Try.call93 rfl rfl rfl (c_message_flags_has x8 512 _ hx18) (fun _ _ => ?_)
  refine g_v rfl r_move ?_
  replace hm := bnd hm
  obtain ⟨x19, hx20, hm⟩ := hm
  refine g_cnv ⟨w0, M, _, _, φ⟩ (fun _ h => h) Try.call93 rfl rfl rfl (c_message_flags_has x8 256 _ hx20) (fun _ _ => ?_)
  refine g_v rfl r_move ?_
  replace hm := bnd hm
  obtain ⟨x21, hx22, hm⟩ := hm
  refine g_cnv ⟨w0, M, _, _, φ⟩ (fun _ h => h) Try.call93 rfl rfl rfl (c_message_flags_has x8 128 _ hx22) (fun _ _ => ?_)
  refine g_v rfl r_move <| g_v rfl (r_shr (n := 2048) rfl rfl (by decide) (by decide) (by decide)) <| g_v rfl (r_bits_and rfl rfl) <| g_v rfl (r_conv Try.underlying24 Try.underlying3 rfl rfl) <| g_v rfl r_move <| g_v rfl (r_bits_and rfl rfl) <| g_v rfl (r_conv Try.underlying24 Try.underlying3 rfl rfl) <| g_v rfl (r_build _ rfl (bld62_17 _ _ _ _ _ _ _ _)) <| g_storeL (tag := 100020) rfl rfl rfl rfl Try.sizeOf62 rfl rfl <| g_v rfl r_assign ?_
  refine g_nil <| d_then ?_
  refine c_flat [(2, .pointer (some ⟨g1, 0, none⟩)), (3, .int .i64 0)] ⟨rfl, rfl, trivial⟩ (fun u => ?_)
  refine c_sta ⟨w0, M, (100020, g1, .cells #[.int .u16 x3, .bool x13, .bool x15, .bool x17, .bool x19, .bool x21, .int .i64 (w64 (andI .u16 (x8 / 2048) 15)), .int .i64 (w64 (andI .u16 x8 15)), .slice none 0 0, .slice none 0 0, .slice none 0 0, .slice none 0 0] 62 (0, 0)) :: H, R, φ⟩ (fun _ h => h) <| c_ret ?_
  replace hm := Option.some.inj hm
  subst hm
  refine d_retC (none, 0, none, 0, none, 0, none, 0) Try.results45 ?_ ⟨(Nat.le_refl 0), (Nat.le_refl 0), (Nat.le_refl 0), (Nat.le_refl 0)⟩ (fun W h => ok_pre (H1 := [_]) (R1 := []) h (fun W hφ => ⟨hφ, (fun W _ => Cl.nil _ _) W hφ, (fun W _ => Cl.nil _ _) W hφ, (fun W _ => Cl.nil _ _) W hφ, (fun W _ => Cl.nil _ _) W hφ⟩)) (.inr rfl)
  refine res_agg (tag := 100020) rfl rfl Try.isAgg62 Try.sizeOf62 <| res_tmp <| res_nil ?_
  exact rfl
noncomputable def m_message_Read_c1 (p0 : Int) (o0 : ByteArray) : Option Int :=
  (m_pack_Word o0 (w64 (4 + (w64 (2 * p0))))).bind fun (z5 : Int × Int × Int) =>
  some z5.1
theorem c_message_Read_c1 {w0 : World} {M : Nat → Prop} {H : List (Nat × Nat × Obj)} {R : List (Nat × Row)} {φ : World → Prop} (p0 : Int) (go0 : Nat) (o0 : ByteArray) (r : Int) (hm : m_message_Read_c1 p0 o0 = some r) :
    Cn Try.prog 88 #[.int .i64 p0, .pointer (some ⟨go0, 0, none⟩)] ⟨w0, M, (1000, go0, .cells #[.string o0] 9 (0, 0)) :: H, R, φ⟩ (fun x : Unit => .int .u16 r) (fun x => True) (fun x => ⟨w0, M, (1000, go0, .cells #[.string o0] 9 (0, 0)) :: H, R, φ⟩) := by
 unfold m_message_Read_c1 at hm
 refine cn_intro (fn := Try.f88) (N := 17) Try.func88 rfl Try.ntmps88 rfl <| c_seq <| c_region <| g_v rfl r_assign <| g_nil <| d_then <| c_seq <| c_region <| g_v rfl (r_load (tag := 1000) rfl rfl rfl Try.isAgg9) <| g_v rfl r_move ?_
 refine g_v rfl (r_mul rfl rfl rfl) <| g_v rfl (r_add rfl rfl rfl) ?_
 replace hm := bnd hm
 obtain ⟨⟨x1, x2, x3⟩, hx4, hm⟩ := hm
 refine g_cn ⟨w0, M, _, _, φ⟩ (fun _ h => h) Try.call58 rfl rfl (c_pack_Word o0 (w64 (4 + (w64 (2 * p0)))) _ hx4) (fun _ _ => ?_)
 refine g_v rfl r_move <| g_v rfl (r_extract rfl rfl) <| g_v rfl (r_extract rfl rfl) <| g_v rfl (r_extract rfl rfl) <| g_v rfl r_assign <| g_v rfl r_assign <| g_v rfl r_assign <| g_nil <| d_then ?_
 refine c_flat [(4, .int .u16 x1)] ⟨rfl, trivial⟩ (fun u => ?_)
 refine c_sta ⟨w0, M, (1000, go0, .cells #[.string o0] 9 (0, 0)) :: H, R, φ⟩ (fun _ h => h) <| c_seq <| c_region <| g_v rfl r_move <| g_v rfl r_assign <| g_nil <| d_then <| c_ret ?_
 replace hm := Option.some.inj hm
 subst hm
 refine d_retC () Try.results88 ?_ trivial (fun W h => h.phi (fun W hφ => hφ)) (.inr rfl)
 refine res_tmp <| res_nil ?_
 exact rfl
noncomputable def m_pack_Byte (p0 : ByteArray) (p1 : Int) : Option (Int × Int × Int) :=
  (m_pack_number p0 p1 1).bind fun (z5 : Int × Int × Int) =>
  some (IntKind.u8.wrap z5.1, z5.2.1, z5.2.2)
theorem c_pack_Byte {w0 : World} {M : Nat → Prop} {H : List (Nat × Nat × Obj)} {R : List (Nat × Row)} {φ : World → Prop} (p0 : ByteArray) (p1 : Int) (r : Int × Int × Int) (hm : m_pack_Byte p0 p1 = some r) :
    Cn Try.prog 97 #[.string p0, .int .i64 p1] ⟨w0, M, H, R, φ⟩ (fun x : Unit => .tuple #[.int .u8 r.1, .int .i64 r.2.1, .int .i64 r.2.2]) (fun x => True) (fun x => ⟨w0, M, H, R, φ⟩) := by
 unfold m_pack_Byte at hm
 refine cn_intro (fn := Try.f97) (N := 21) Try.func97 rfl Try.ntmps97 rfl <| c_seq <| c_region <| g_v rfl r_assign <| g_v rfl r_assign <| g_v rfl r_assign <| g_nil <| d_then <| c_seq <| c_region ?_
 refine g_v rfl r_move <| g_v rfl r_move ?_
 replace hm := bnd hm
 obtain ⟨⟨x1, x2, x3⟩, hx4, hm⟩ := hm
 refine g_cn ⟨w0, M, _, _, φ⟩ (fun _ h => h) Try.call98 rfl rfl (c_pack_number p0 p1 1 _ hx4) (fun _ _ => ?_)
 refine g_v rfl r_move <| g_v rfl (r_extract rfl rfl) <| g_v rfl (r_extract rfl rfl) <| g_v rfl (r_extract rfl rfl) <| g_v rfl r_assign <| g_v rfl r_assign <| g_v rfl r_assign <| g_nil <| d_then ?_
 refine c_flat [(7, .int .u32 x1), (8, .int .i64 x2), (9, .int .i64 x3)] ⟨rfl, rfl, rfl, trivial⟩ (fun u => ?_)
 refine c_sta ⟨w0, M, H, R, φ⟩ (fun _ h => h) <| c_seq <| c_region <| g_v rfl r_move <| g_v rfl (r_conv Try.underlying25 Try.underlying5 rfl rfl) <| g_v rfl r_move <| g_v rfl r_move <| g_v rfl r_assign <| g_v rfl r_assign <| g_v rfl r_assign ?_
 refine g_nil <| d_then <| c_ret ?_
 replace hm := Option.some.inj hm
 subst hm
 refine d_retC () Try.results97 ?_ trivial (fun W h => ok_pre (H1 := []) (R1 := []) h (fun W hφ => hφ)) (.inr rfl)
 refine res_tmp <| res_tmp <| res_tmp <| res_nil ?_
 exact rfl
noncomputable def m_pack_Name_c1 (p0 : Int) (o0 : Int) : Option Int :=
  if o0 < 0 then
    some p0
  else
    some o0
theorem c_pack_Name_c1 {w0 : World} {M : Nat → Prop} {H : List (Nat × Nat × Obj)} {R : List (Nat × Row)} {φ : World → Prop} (p0 : Int) (go0 : Nat) (o0 : Int) (r : Int) (hm : m_pack_Name_c1 p0 o0 = some r) :
    Cn Try.prog 96 #[.int .i64 p0, .pointer (some ⟨go0, 0, none⟩)] ⟨w0, M, (1000, go0, .cells #[.int .i64 o0] 3 (0, 0)) :: H, R, φ⟩ (fun x : Unit => .tuple #[]) (fun x => True) (fun x => ⟨w0, M, (1000, go0, .cells #[.int .i64 r] 3 (0, 0)) :: H, R, φ⟩) := by
 unfold m_pack_Name_c1 at hm
 refine cn_intro (fn := Try.f96) (N := 6) Try.func96 rfl Try.ntmps96 rfl <| c_seq <| c_region <| g_v rfl (r_load (tag := 1000) rfl rfl rfl Try.isAgg3) <| g_v rfl (r_lss rfl rfl) <| g_nil <| d_then ?_
 refine c_cond rfl (fun h1 => ?_) (fun h1 => ?_)
 ·
  replace hm := ite_t hm (of_decide_eq_true h1)
  refine c_region <| g_v rfl r_move <| g_storeL (tag := 1000) rfl rfl rfl rfl Try.sizeOf3 rfl rfl <| g_nil ?_
  replace hm := Option.some.inj hm
  subst hm
  refine d_retC () Try.results96 ?_ trivial (fun W h => h.phi (fun W hφ => hφ)) (.inl rfl)
  refine res_nil ?_
  exact rfl
 ·
  replace hm := ite_f hm (of_decide_eq_false h1)
  refine c_skip ?_
  replace hm := Option.some.inj hm
  subst hm
  refine d_retC () Try.results96 ?_ trivial (fun W h => h.phi (fun W hφ => hφ)) (.inl rfl)
  refine res_nil ?_
  exact rfl
noncomputable def m_pack_Name_s1 (p0 : ByteArray) (l259 : List Int) (i262 : Int) (i263 : Int) (i264 : Int) : Option (((List Int) × Int × Int × Int) ⊕ (Unit ⊕ (ByteArray × Int × Int))) :=
  (m_pack_Byte p0 i262).bind fun (z322 : Int × Int × Int) =>
  if z322.2.2 ≠ 0 then
    some (.inr (.inr ((⟨#[]⟩ : ByteArray), 0, z322.2.2)))
  else
    if z322.1 = 0 then
      (m_pack_Name_c1 z322.2.1 i264).bind fun x325 =>
      (app 1 l259 [0]).bind fun l336 =>
      some (.inr (.inr (strOfNums l336, x325, 0)))
    else
      if 192 ≤ z322.1 then
        (m_pack_Word p0 i262).bind fun (z344 : Int × Int × Int) =>
        if z344.2.2 ≠ 0 then
          some (.inr (.inr ((⟨#[]⟩ : ByteArray), 0, 10)))
        else
          if i263 ≤ andI .i64 (w64 z344.1) 16383 then
            some (.inr (.inr ((⟨#[]⟩ : ByteArray), 0, 10)))
          else
            (m_pack_Name_c1 z344.2.1 i264).bind fun x347 =>
            some (.inl (l259, andI .i64 (w64 z344.1) 16383, andI .i64 (w64 z344.1) 16383, x347))
      else
        if 63 < z322.1 then
          some (.inr (.inr ((⟨#[]⟩ : ByteArray), 0, 10)))
        else
          (m_pack_Raw p0 z322.2.1 (w64 z322.1)).bind fun (z355 : ByteArray × Int × Int) =>
          if z355.2.2 ≠ 0 then
            some (.inr (.inr ((⟨#[]⟩ : ByteArray), 0, z355.2.2)))
          else
            if 255 < w64 ((w64 ((w64 ((l259.length : Int) + 1)) + (z355.1.size : Int))) + 1) then
              some (.inr (.inr ((⟨#[]⟩ : ByteArray), 0, 11)))
            else
              (app 1 l259 [z322.1]).bind fun l359 =>
              (app 1 l359 (bytesI z355.1)).bind fun l362 =>
              some (.inl (l362, z355.2.1, i263, i264))
noncomputable def m_pack_Name (p0 : ByteArray) (p1 : Int) : Option (ByteArray × Int × Int) :=
  (loop (fun s => m_pack_Name_s1 p0 s.1 s.2.1 s.2.2.1 s.2.2.2) (([] : List Int), p1, p1, (-1))).bind fun e => Sum.elim (fun e => (none : Option (ByteArray × Int × Int))) (fun x => some x) e
theorem c_pack_Name {w0 : World} {M : Nat → Prop} {H : List (Nat × Nat × Obj)} {R : List (Nat × Row)} {φ : World → Prop} (p0 : ByteArray) (p1 : Int) (r : ByteArray × Int × Int) (hm : m_pack_Name p0 p1 = some r) :
    Cn Try.prog 57 #[.string p0, .int .i64 p1] ⟨w0, M, H, R, φ⟩ (fun x : Unit => .tuple #[.string r.1, .int .i64 r.2.1, .int .i64 r.2.2]) (fun x => True) (fun x => ⟨w0, M, H, R, φ⟩) := by
 unfold m_pack_Name at hm
 refine cn_intro (fn := Try.f57) (N := 101) Try.func57 rfl Try.ntmps57 rfl <| c_seq <| c_region <| g_v rfl r_assign <| g_v rfl r_assign <| g_v rfl r_assign <| g_nil <| d_then <| c_seq <| c_region ?_
 refine g_v rfl r_assign <| g_nil <| d_then <| c_seq <| c_region <| g_v rfl r_move ?_
 refine g_e rfl (e_alloc 100080 Try.zeroValue3) (fun g1 _ => ?_)
 refine g_storeL (tag := 100080) rfl rfl rfl rfl Try.sizeOf3 rfl rfl <| g_v rfl r_assign <| g_nil <| d_then <| c_seq <| c_region <| g_v rfl (r_mkf rfl) <| g_v rfl r_assign <| g_nil <| d_then ?_
 refine c_flat [(0, .string p0), (1, .int .i64 p1), (7, .slice none 0 0), (8, .pointer (some ⟨g1, 0, none⟩)), (9, .int .i64 p1), (10, .func (.func 96) #[] #[.pointer (some ⟨g1, 0, none⟩)])] ⟨rfl, rfl, rfl, rfl, rfl, rfl, trivial⟩ (fun u => ?_)
 refine c_sta ⟨w0, M, (100080, g1, .cells #[.int .i64 (-1)] 3 (0, 0)) :: H, R, φ⟩ (fun _ h => h) ?_
 -- no way on
 refine c_block <| c_sta _ (fun W h => nilR h 20 5 1) ?_
 replace hm := bnd hm
 obtain ⟨out1, hl1, hr1⟩ := hm
 obtain ⟨n317', hl1⟩ := loop_lp hl1
 refine c_loopU (ι := Nat × (List Int) × Int × Int × Int × Option Addr × Nat) [0, 1, 7, 8, 9, 10] (fun ⟨n317, l259, i262, i263, i264, A260, c261⟩ => [(1, .int .i64 i262), (7, .slice A260 l259.length c261), (9, .int .i64 i263)]) (fun ⟨n317, l259, i262, i263, i264, A260, c261⟩ => ⟨w0, M, (100080, g1, .cells #[.int .i64 i264] 3 (0, 0)) :: H, (20, ⟨.slice A260 l259.length c261, 5, 1, l259.length, l259.flatMap (fun x : Int => [Value.int .u8 x])⟩) :: R, φ⟩) (fun ⟨n317, l259, i262, i263, i264, A260, c261⟩ => Lp (fun s => m_pack_Name_s1 p0 s.1 s.2.1 s.2.2.1 s.2.2.2) n317 (l259, i262, i263, i264) out1 ∧ l259.length ≤ c261) (fun ⟨n317, l259, i262, i263, i264, A260, c261⟩ => n317) (n317', ([] : List Int), p1, p1, (-1), none, 0) ⟨hl1, (Nat.le_refl 0)⟩ ⟨rfl, rfl, rfl, rfl, rfl, rfl, trivial⟩ (fun W h => h.phi (fun W hφ => hφ)) (fun ⟨n317, l259, i262, i263, i264, A260, c261⟩ u ⟨hlp, hc261⟩ => ?_)
 obtain ⟨o1, hm, hnx1⟩ := lp_step hlp
 clear hlp
 replace hm : m_pack_Name_s1 p0 l259 i262 i263 i264 = some o1 := hm
 unfold m_pack_Name_s1 at hm
 refine c_flat [(0, .string p0), (1, .int .i64 i262), (7, .slice A260 l259.length c261), (8, .pointer (some ⟨g1, 0, none⟩)), (9, .int .i64 i263), (10, .func (.func 96) #[] #[.pointer (some ⟨g1, 0, none⟩)])] ⟨rfl, rfl, rfl, rfl, rfl, rfl, trivial⟩ (fun u => ?_)
 refine c_sta ⟨w0, M, (100080, g1, .cells #[.int .i64 i264] 3 (0, 0)) :: H, (20, ⟨.slice A260 l259.length c261, 5, 1, l259.length, l259.flatMap (fun x : Int => [Value.int .u8 x])⟩) :: R, φ⟩ (fun _ h => h) <| c_block <| c_seq <| c_region <| g_v rfl r_move <| g_v rfl r_move ?_
 replace hm := bnd hm
 obtain ⟨⟨x318, x319, x320⟩, hx321, hm⟩ := hm
 refine g_cn ⟨w0, M, _, _, φ⟩ (fun _ h => h) Try.call97 rfl rfl (c_pack_Byte p0 i262 _ hx321) (fun _ _ => ?_)
 refine g_v rfl r_move <| g_v rfl (r_extract rfl rfl) <| g_v rfl (r_extract rfl rfl) <| g_v rfl (r_extract rfl rfl) <| g_v rfl r_assign <| g_v rfl r_assign <| g_v rfl r_assign <| g_nil <| d_then ?_
 refine c_flat [(0, .string p0), (1, .int .i64 i262), (7, .slice A260 l259.length c261), (8, .pointer (some ⟨g1, 0, none⟩)), (9, .int .i64 i263), (10, .func (.func 96) #[] #[.pointer (some ⟨g1, 0, none⟩)]), (11, .int .u8 x318), (12, .int .i64 x319), (13, .int .i64 x320)] ⟨rfl, rfl, rfl, rfl, rfl, rfl, rfl, rfl, rfl, trivial⟩ (fun u => ?_)
 refine c_seq <| c_block <| c_seq <| c_region <| g_v rfl r_move <| g_v rfl (r_neq rfl rfl) <| g_v rfl r_assign <| g_nil <| d_then ?_
 refine c_cond rfl (fun h323 => ?_) (fun h323 => ?_)
 ·
  replace hm := ite_t hm (of_decide_eq_true h323)
  refine c_seq <| c_region <| g_v rfl r_move <| g_v rfl r_assign <| g_v rfl r_assign <| g_v rfl r_assign <| g_nil <| d_then <| c_ret <| d_ret_block ?_
  refine d_ret_then <| d_ret_block <| d_ret_then <| d_ret_block ?_
  replace hm := nx_out (C := (fun e => Sum.elim (fun e => (none : Option (ByteArray × Int × Int))) (fun x => some x) e = some r)) hm hnx1 hr1
  replace hm : some ((⟨#[]⟩ : ByteArray), 0, x320) = some r := hm
  replace hm := Option.some.inj hm
  subst hm
  refine d_retC () Try.results57 ?_ trivial (fun W h => ok_pre (H1 := [_]) (R1 := [_]) h (fun W hφ => hφ)) (.inr rfl)
  refine res_tmp <| res_tmp <| res_tmp <| res_nil ?_
  exact rfl
 ·
  replace hm := ite_f hm (of_decide_eq_false h323)
  refine c_seq <| c_region <| g_v rfl r_move <| g_v rfl (r_eql rfl rfl) <| g_v rfl r_assign <| g_nil <| d_then ?_
  refine c_cond rfl (fun h324 => ?_) (fun h324 => ?_)
  ·
   replace hm := ite_t hm (of_decide_eq_true h324)
   refine c_seq <| c_region <| g_v rfl r_move <| g_v rfl r_move ?_
   replace hm := bnd hm
   obtain ⟨x325, hx326, hm⟩ := hm
   refine g_cnv ⟨w0, M, (1000, g1, .cells #[.int .i64 i264] 3 (0, 0)) :: H, (20, ⟨.slice A260 l259.length c261, 5, 1, l259.length, l259.flatMap (fun x : Int => [Value.int .u8 x])⟩) :: R, φ⟩ (fun W h => (ok_front (t := 100080) (t' := 1000) h rfl)) Try.call96 rfl rfl rfl (c_pack_Name_c1 x319 g1 i264 _ hx326) (fun _ _ => ?_)
   refine g_sta _ (fun W h => (ok_front (t := 1000) (t' := 100080) h rfl)) <| g_nil <| d_then ?_
   refine c_flat [(7, .slice A260 l259.length c261), (8, .pointer (some ⟨g1, 0, none⟩))] ⟨rfl, rfl, trivial⟩ (fun u => ?_)
   refine c_sta ⟨w0, M, (100080, g1, .cells #[.int .i64 x325] 3 (0, 0)) :: H, (20, ⟨.slice A260 l259.length c261, 5, 1, l259.length, l259.flatMap (fun x : Int => [Value.int .u8 x])⟩) :: R, φ⟩ (fun _ h => h) <| c_seq <| ga_start (n := 8) ⟨w0, M, (100080, g1, .cells #[.int .i64 x325] 3 (0, 0)) :: H, R, φ⟩ [] #[false, false, false, false, false, false, false, false] (fun W h => (h.dropR (t := 20) rfl).phi (fun W hφ => hφ)) mixed rfl rfl <| ga_v (i := 0) (bz 8 1) rfl (by kernel_rfl) (fun _ _ _ _ h => h) rfl (r_move) <| ga_v (i := 4) (bz 8 17) rfl (by kernel_rfl) (fun _ _ _ _ h => h) rfl (r_load (tag := 100080) rfl rfl rfl Try.isAgg3) ?_
   refine ga_e (i := 1) (bz 8 19) rfl (by kernel_rfl) (by decide) rfl  (e_lit (tag := 100400) (l := [0]) (enc := (fun x : Int => [Value.int .u8 x])) (sz := 1) rfl Try.underlying77 (lit5_10 _) rfl rfl (fun _ => rfl)) (fun g335 W _ h => ((h.dropR (t := 100400) rfl).dropR (t := 20) rfl).phi (fun W hφ => hφ)) (fun g335 _ => ?_)
   replace hm := bnd hm
   obtain ⟨l336, hl336, hm⟩ := hm
   refine ga_e (i := 2) (bz 8 23) rfl (by kernel_rfl) (by decide) rfl  (e_appR (enc := (fun x : Int => [Value.int .u8 x])) (l := l259) (l1 := [0]) (l2 := l336) (tag := 20) Try.underlying77 inf5_5 rfl (by decide) (by decide) (fun _ => rfl) (fun _ => rfl) rfl hc261 rfl rfl (fun W hS => rowCl (tag := 100400) rfl W hS) hl336) (fun ⟨A337, c338⟩ W hc338 h => ((h.dropR (t := 100400) rfl).dropR (t := 20) rfl).phi (fun W hφ => hφ)) (fun ⟨A337, c338⟩ hc338 => ?_)
   refine ga_r (i := 3) (bz 8 31) rfl (by kernel_rfl) (by decide) rfl (r_textE Try.underlying77 Try.underlying5 Try.underlying9 rfl (fun W hS => rowCl (tag := 20) rfl W hS)) <| ga_r (i := 5) (bz 8 63) rfl (by kernel_rfl) (by decide) rfl (r_assign) <| ga_r (i := 6) (bz 8 127) rfl (by kernel_rfl) (by decide) rfl (r_assign) <| ga_r (i := 7) (bz 8 255) rfl (by kernel_rfl) (by decide) rfl (r_assign) <| ga_done (by kernel_rfl) <| d_then <| c_ret <| d_ret_block <| d_ret_then <| d_ret_block ?_
   refine d_ret_then <| d_ret_block ?_
   replace hm := nx_out (C := (fun e => Sum.elim (fun e => (none : Option (ByteArray × Int × Int))) (fun x => some x) e = some r)) hm hnx1 hr1
   replace hm : some (strOfNums l336, x325, 0) = some r := hm
   replace hm := Option.some.inj hm
   subst hm
   refine d_retC () Try.results57 ?_ trivial (fun W h => ok_pre (H1 := [_]) (R1 := [_, _]) h (fun W hφ => hφ)) (.inr rfl)
   refine res_tmp <| res_tmp <| res_tmp <| res_nil ?_
   exact rfl
  ·
   replace hm := ite_f hm (of_decide_eq_false h324)
   refine c_seq <| c_region <| g_v rfl r_move <| g_v rfl (r_geq rfl rfl) <| g_v rfl r_assign <| g_nil <| d_then ?_
   refine c_flat [(0, .string p0), (1, .int .i64 i262), (7, .slice A260 l259.length c261), (8, .pointer (some ⟨g1, 0, none⟩)), (9, .int .i64 i263), (10, .func (.func 96) #[] #[.pointer (some ⟨g1, 0, none⟩)]), (11, .int .u8 x318), (12, .int .i64 x319), (44, .bool (decide (192 ≤ x318)))] ⟨rfl, rfl, rfl, rfl, rfl, rfl, rfl, rfl, rfl, trivial⟩ (fun u => ?_)
   refine c_cond rfl (fun h339 => ?_) (fun h339 => ?_)
   ·
    replace hm := ite_t hm (of_decide_eq_true h339)
    refine c_seq <| c_region <| g_v rfl r_move <| g_v rfl r_move ?_
    replace hm := bnd hm
    obtain ⟨⟨x340, x341, x342⟩, hx343, hm⟩ := hm
    refine g_cn ⟨w0, M, _, _, φ⟩ (fun _ h => h) Try.call58 rfl rfl (c_pack_Word p0 i262 _ hx343) (fun _ _ => ?_)
    refine g_v rfl r_move <| g_v rfl (r_extract rfl rfl) <| g_v rfl (r_extract rfl rfl) <| g_v rfl (r_extract rfl rfl) <| g_v rfl r_assign <| g_v rfl r_assign <| g_v rfl r_assign <| g_nil <| d_then ?_
    refine c_flat [(0, .string p0), (7, .slice A260 l259.length c261), (8, .pointer (some ⟨g1, 0, none⟩)), (9, .int .i64 i263), (10, .func (.func 96) #[] #[.pointer (some ⟨g1, 0, none⟩)]), (14, .int .u16 x340), (15, .int .i64 x341), (16, .int .i64 x342)] ⟨rfl, rfl, rfl, rfl, rfl, rfl, rfl, rfl, trivial⟩ (fun u => ?_)
    refine c_seq <| c_region <| g_v rfl r_move <| g_v rfl (r_conv Try.underlying24 Try.underlying3 rfl rfl) <| g_v rfl (r_bits_and rfl rfl) <| g_v rfl r_assign <| g_nil <| d_then <| c_seq <| c_seq ?_
    refine c_region <| g_v rfl r_move <| g_v rfl (r_neq rfl rfl) <| g_v rfl r_move ?_
    refine g_if rfl rfl rfl rfl rfl (fun h345 => ?_) (fun h345 => ?_)
    ·
     replace hm := ite_f hm (of_decide_eq_false h345)
     refine g_v rfl r_move <| g_do rfl rfl rfl rfl rfl h345 <| g_v rfl r_move <| g_do rfl rfl rfl rfl rfl h345 <| g_v rfl (r_geq rfl rfl) <| g_v rfl (r_pick0 rfl h345) <| g_nil <| d_then ?_
     refine c_flat [(0, .string p0), (7, .slice A260 l259.length c261), (8, .pointer (some ⟨g1, 0, none⟩)), (10, .func (.func 96) #[] #[.pointer (some ⟨g1, 0, none⟩)]), (15, .int .i64 x341), (17, .int .i64 (andI .i64 (w64 x340) 16383)), (63, .bool (decide (i263 ≤ andI .i64 (w64 x340) 16383)))] ⟨rfl, rfl, rfl, rfl, rfl, rfl, rfl, trivial⟩ (fun u => ?_)
     refine c_cond rfl (fun h346 => ?_) (fun h346 => ?_)
     ·
      replace hm := ite_t hm (of_decide_eq_true h346)
      refine c_seq <| c_region <| g_v rfl r_assign <| g_v rfl r_assign <| g_v rfl r_assign <| g_nil <| d_then <| c_ret <| d_ret_then <| d_ret_block ?_
      refine d_ret_then <| d_ret_block <| d_ret_then <| d_ret_block ?_
      replace hm := nx_out (C := (fun e => Sum.elim (fun e => (none : Option (ByteArray × Int × Int))) (fun x => some x) e = some r)) hm hnx1 hr1
      replace hm : some ((⟨#[]⟩ : ByteArray), 0, 10) = some r := hm
      replace hm := Option.some.inj hm
      subst hm
      refine d_retC () Try.results57 ?_ trivial (fun W h => ok_pre (H1 := [_]) (R1 := [_]) h (fun W hφ => hφ)) (.inr rfl)
      refine res_tmp <| res_tmp <| res_tmp <| res_nil ?_
      exact rfl
     ·
      replace hm := ite_f hm (of_decide_eq_false h346)
      refine c_skip <| d_then <| c_seq <| c_region <| g_v rfl r_move <| g_v rfl r_move ?_
      replace hm := bnd hm
      obtain ⟨x347, hx348, hm⟩ := hm
      refine g_cnv ⟨w0, M, (1000, g1, .cells #[.int .i64 i264] 3 (0, 0)) :: H, (20, ⟨.slice A260 l259.length c261, 5, 1, l259.length, l259.flatMap (fun x : Int => [Value.int .u8 x])⟩) :: R, φ⟩ (fun W h => (ok_front (t := 100080) (t' := 1000) h rfl)) Try.call96 rfl rfl rfl (c_pack_Name_c1 x341 g1 i264 _ hx348) (fun _ _ => ?_)
      refine g_sta _ (fun W h => (ok_front (t := 1000) (t' := 100080) h rfl)) <| g_nil <| d_then <| c_seq <| c_region <| g_v rfl r_move <| g_v rfl r_move <| g_v rfl r_assign <| g_v rfl r_assign <| g_nil ?_
      refine d_then <| c_exit <| d_exit_other rfl <| d_exit_then <| d_exit_block ?_
      obtain ⟨n349, hn349, hlp⟩ := nx_inl hm hnx1
      exact d_round (n349, l259, andI .i64 (w64 x340) 16383, andI .i64 (w64 x340) 16383, x347, A260, c261) ⟨hlp, hc261⟩ hn349 ⟨rfl, rfl, rfl, rfl, rfl, rfl, trivial⟩ (fun W h => h.phi (fun W hφ => hφ))
    ·
     replace hm := ite_t hm (of_decide_eq_true h345)
     refine g_no rfl rfl rfl rfl rfl h345 <| g_no rfl rfl rfl rfl rfl h345 <| g_v rfl (r_pick1 rfl h345) <| g_nil <| d_then <| c_cond1 rfl rfl <| c_seq <| c_region <| g_v rfl r_assign <| g_v rfl r_assign ?_
     refine g_v rfl r_assign <| g_nil <| d_then ?_
     refine c_flat [(4, .string (⟨#[]⟩ : ByteArray)), (5, .int .i64 0), (6, .int .i64 10)] ⟨rfl, rfl, rfl, trivial⟩ (fun u => ?_)
     refine c_ret <| d_ret_then <| d_ret_block <| d_ret_then <| d_ret_block <| d_ret_then <| d_ret_block ?_
     replace hm := nx_out (C := (fun e => Sum.elim (fun e => (none : Option (ByteArray × Int × Int))) (fun x => some x) e = some r)) hm hnx1 hr1
     replace hm : some ((⟨#[]⟩ : ByteArray), 0, 10) = some r := hm
     replace hm := Option.some.inj hm
     subst hm
     refine d_retC () Try.results57 ?_ trivial (fun W h => ok_pre (H1 := [_]) (R1 := [_]) h (fun W hφ => hφ)) (.inr rfl)
     refine res_tmp <| res_tmp <| res_tmp <| res_nil ?_
     exact rfl
   ·
    replace hm := ite_f hm (of_decide_eq_false h339)
    refine c_seq <| c_region <| g_v rfl r_move <| g_v rfl (r_gtr rfl rfl) <| g_v rfl r_assign <| g_nil <| d_then ?_
    refine c_cond rfl (fun h350 => ?_) (fun h350 => ?_)
    ·
     replace hm := ite_t hm (of_decide_eq_true h350)
     refine c_seq <| c_region <| g_v rfl r_assign <| g_v rfl r_assign <| g_v rfl r_assign <| g_nil <| d_then <| c_ret <| d_ret_block <| d_ret_then ?_
     refine d_ret_block <| d_ret_then <| d_ret_block ?_
     replace hm := nx_out (C := (fun e => Sum.elim (fun e => (none : Option (ByteArray × Int × Int))) (fun x => some x) e = some r)) hm hnx1 hr1
     replace hm : some ((⟨#[]⟩ : ByteArray), 0, 10) = some r := hm
     replace hm := Option.some.inj hm
     subst hm
     refine d_retC () Try.results57 ?_ trivial (fun W h => ok_pre (H1 := [_]) (R1 := [_]) h (fun W hφ => hφ)) (.inr rfl)
     refine res_tmp <| res_tmp <| res_tmp <| res_nil ?_
     exact rfl
    ·
     replace hm := ite_f hm (of_decide_eq_false h350)
     refine c_skip <| d_normal_block <| d_then <| c_seq <| c_region <| g_v rfl r_move <| g_v rfl r_move <| g_v rfl r_move <| g_v rfl (r_conv Try.underlying5 Try.underlying3 rfl rfl) ?_
     replace hm := bnd hm
     obtain ⟨⟨x351, x352, x353⟩, hx354, hm⟩ := hm
     refine g_cn ⟨w0, M, _, _, φ⟩ (fun _ h => h) Try.call60 rfl rfl (c_pack_Raw p0 x319 (w64 x318) _ hx354) (fun _ _ => ?_)
     refine g_v rfl r_move <| g_v rfl (r_extract rfl rfl) <| g_v rfl (r_extract rfl rfl) <| g_v rfl (r_extract rfl rfl) <| g_v rfl r_assign <| g_v rfl r_assign <| g_v rfl r_assign <| g_nil <| d_then ?_
     refine c_flat [(0, .string p0), (7, .slice A260 l259.length c261), (8, .pointer (some ⟨g1, 0, none⟩)), (9, .int .i64 i263), (10, .func (.func 96) #[] #[.pointer (some ⟨g1, 0, none⟩)]), (11, .int .u8 x318), (13, .int .i64 x353), (18, .string x351), (19, .int .i64 x352)] ⟨rfl, rfl, rfl, rfl, rfl, rfl, rfl, rfl, rfl, trivial⟩ (fun u => ?_)
     refine c_seq <| c_block <| c_seq <| c_region <| g_v rfl r_move <| g_v rfl (r_neq rfl rfl) <| g_v rfl r_assign <| g_nil <| d_then ?_
     refine c_cond rfl (fun h356 => ?_) (fun h356 => ?_)
     ·
      replace hm := ite_t hm (of_decide_eq_true h356)
      refine c_seq <| c_region <| g_v rfl r_move <| g_v rfl r_assign <| g_v rfl r_assign <| g_v rfl r_assign <| g_nil <| d_then <| c_ret <| d_ret_block ?_
      refine d_ret_then <| d_ret_block <| d_ret_then <| d_ret_block ?_
      replace hm := nx_out (C := (fun e => Sum.elim (fun e => (none : Option (ByteArray × Int × Int))) (fun x => some x) e = some r)) hm hnx1 hr1
      replace hm : some ((⟨#[]⟩ : ByteArray), 0, x353) = some r := hm
      replace hm := Option.some.inj hm
      subst hm
      refine d_retC () Try.results57 ?_ trivial (fun W h => ok_pre (H1 := [_]) (R1 := [_]) h (fun W hφ => hφ)) (.inr rfl)
      refine res_tmp <| res_tmp <| res_tmp <| res_nil ?_
      exact rfl
     ·
      replace hm := ite_f hm (of_decide_eq_false h356)
      refine c_seq <| c_region <| g_v rfl r_move <| g_v rfl (r_lenL Try.underlying77 rfl) <| g_v rfl (r_add rfl rfl rfl) <| g_v rfl r_move <| g_v rfl (r_len Try.underlying9 rfl) <| g_v rfl (r_add rfl rfl rfl) <| g_v rfl (r_add rfl rfl rfl) <| g_v rfl (r_gtr rfl rfl) ?_
      refine g_v rfl r_assign <| g_nil <| d_then ?_
      refine c_flat [(0, .string p0), (7, .slice A260 l259.length c261), (8, .pointer (some ⟨g1, 0, none⟩)), (9, .int .i64 i263), (10, .func (.func 96) #[] #[.pointer (some ⟨g1, 0, none⟩)]), (11, .int .u8 x318), (18, .string x351), (19, .int .i64 x352), (85, .bool (decide (255 < w64 ((w64 ((w64 ((l259.length : Int) + 1)) + (x351.size : Int))) + 1))))] ⟨rfl, rfl, rfl, rfl, rfl, rfl, rfl, rfl, rfl, trivial⟩ (fun u => ?_)
      refine c_cond rfl (fun h357 => ?_) (fun h357 => ?_)
      ·
       replace hm := ite_t hm (of_decide_eq_true h357)
       refine c_seq <| c_region <| g_v rfl r_assign <| g_v rfl r_assign <| g_v rfl r_assign <| g_nil <| d_then <| c_ret <| d_ret_block <| d_ret_then ?_
       refine d_ret_block <| d_ret_then <| d_ret_block ?_
       replace hm := nx_out (C := (fun e => Sum.elim (fun e => (none : Option (ByteArray × Int × Int))) (fun x => some x) e = some r)) hm hnx1 hr1
       replace hm : some ((⟨#[]⟩ : ByteArray), 0, 11) = some r := hm
       replace hm := Option.some.inj hm
       subst hm
       refine d_retC () Try.results57 ?_ trivial (fun W h => ok_pre (H1 := [_]) (R1 := [_]) h (fun W hφ => hφ)) (.inr rfl)
       refine res_tmp <| res_tmp <| res_tmp <| res_nil ?_
       exact rfl
      ·
       replace hm := ite_f hm (of_decide_eq_false h357)
       refine c_skip <| d_normal_block <| d_then <| c_seq <| c_region <| g_v rfl r_move <| g_v rfl r_move ?_
       refine g_e rfl (e_lit (tag := 100960) (l := [x318]) (enc := (fun x : Int => [Value.int .u8 x])) (sz := 1) rfl Try.underlying77 (lit5_10 _) rfl rfl (fun _ => rfl)) (fun g358 _ => ?_)
       replace hm := bnd hm
       obtain ⟨l359, hl359, hm⟩ := hm
       refine g_e rfl (e_appR (enc := (fun x : Int => [Value.int .u8 x])) (l := l259) (l1 := [x318]) (l2 := l359) (tag := 20) Try.underlying77 inf5_5 rfl (by decide) (by decide) (fun _ => rfl) (fun _ => rfl) rfl hc261 rfl rfl (fun W hS => rowCl (tag := 100960) rfl W hS) hl359) (fun ⟨A360, c361⟩ hc361 => ?_)
       refine g_v rfl r_move ?_
       replace hm := bnd hm
       obtain ⟨l362, hl362, hm⟩ := hm
       refine g_e rfl (e_appRS (l := l359) (l2 := l362) (tag := 20) Try.underlying77 Try.underlying9 inf5_5 rfl hc361 rfl rfl hl362) (fun ⟨A363, c364⟩ hc364 => ?_)
       refine g_v rfl r_assign <| g_nil <| d_then <| c_region <| g_v rfl r_move <| g_v rfl r_assign <| g_nil <| d_normal_block ?_
       obtain ⟨n365, hn365, hlp⟩ := nx_inl hm hnx1
       exact d_round (n365, l362, x352, i263, i264, A363, c364) ⟨hlp, hc364⟩ hn365 ⟨rfl, rfl, rfl, rfl, rfl, rfl, trivial⟩ (fun W h => (h.dropR (t := 100960) rfl).phi (fun W hφ => hφ))
theorem bld74_18  : ∀ W, (Instr.build 74 #[]).run Try.prog W = .ok (.agg #[.string (⟨#[]⟩ : ByteArray), .int .u16 0, .int .u16 0]) W := fun _ => by kernel_rfl
noncomputable def m_message_question (p0 : ByteArray) (p1 : Int) : Option (GQuestion × Int × Int) :=
  (m_pack_Name p0 p1).bind fun (z6 : ByteArray × Int × Int) =>
  if z6.2.2 ≠ 0 then
    some ((⟨(⟨#[]⟩ : ByteArray), 0, 0⟩ : GQuestion), 0, z6.2.2)
  else
    (m_pack_Word p0 z6.2.1).bind fun (z12 : Int × Int × Int) =>
    if z12.2.2 ≠ 0 then
      some ((⟨(⟨#[]⟩ : ByteArray), 0, 0⟩ : GQuestion), 0, z12.2.2)
    else
      (m_pack_Word p0 z12.2.1).bind fun (z18 : Int × Int × Int) =>
      some ((⟨z6.1, z12.1, z18.1⟩ : GQuestion), z18.2.1, z18.2.2)
theorem c_message_question {w0 : World} {M : Nat → Prop} {H : List (Nat × Nat × Obj)} {R : List (Nat × Row)} {φ : World → Prop} (p0 : ByteArray) (p1 : Int) (r : GQuestion × Int × Int) (hm : m_message_question p0 p1 = some r) :
    Cn Try.prog 90 #[.string p0, .int .i64 p1] ⟨w0, M, H, R, φ⟩ (fun x : Unit => .tuple #[.agg #[.string r.1.fName, .int .u16 r.1.fType, .int .u16 r.1.fClass], .int .i64 r.2.1, .int .i64 r.2.2]) (fun x => True) (fun x => ⟨w0, M, H, R, φ⟩) := by
 unfold m_message_question at hm
 refine cn_intro (fn := Try.f90) (N := 46) Try.func90 rfl Try.ntmps90 rfl <| c_seq <| c_region ?_
 refine g_e rfl (e_alloc 100040 Try.zeroValue74) (fun g1 _ => ?_)
 refine g_v rfl r_assign <| g_v rfl r_assign <| g_nil <| d_then <| c_seq <| c_region <| g_v rfl r_move <| g_v rfl r_move ?_
 replace hm := bnd hm
 obtain ⟨⟨x2, x3, x4⟩, hx5, hm⟩ := hm
 refine g_cn ⟨w0, M, _, _, φ⟩ (fun _ h => h) Try.call57 rfl rfl (c_pack_Name p0 p1 _ hx5) (fun _ _ => ?_)
 refine g_v rfl r_move <| g_v rfl (r_extract rfl rfl) <| g_v rfl (r_extract rfl rfl) <| g_v rfl (r_extract rfl rfl) <| g_v rfl r_assign <| g_v rfl r_assign <| g_v rfl r_assign <| g_nil <| d_then ?_
 refine c_flat [(0, .string p0), (1, .int .i64 x3), (4, .pointer (some ⟨g1, 0, none⟩)), (7, .string x2), (8, .int .i64 x4)] ⟨rfl, rfl, rfl, rfl, rfl, trivial⟩ (fun u => ?_)
 refine c_sta ⟨w0, M, (100040, g1, .cells #[.string (⟨#[]⟩ : ByteArray), .int .u16 0, .int .u16 0] 74 (0, 0)) :: H, R, φ⟩ (fun _ h => h) <| c_seq <| c_seq <| c_region <| g_v rfl r_move <| g_v rfl (r_neq rfl rfl) <| g_nil <| d_then ?_
 refine c_cond rfl (fun h7 => ?_) (fun h7 => ?_)
 ·
  replace hm := ite_t hm (of_decide_eq_true h7)
  refine c_seq <| c_region <| g_v rfl (r_build _ rfl (bld74_18)) <| g_v rfl r_move <| g_storeL (tag := 100040) rfl rfl rfl rfl Try.sizeOf74 rfl rfl <| g_v rfl r_assign <| g_v rfl r_assign <| g_nil <| d_then <| c_ret ?_
  refine d_ret_then ?_
  replace hm := Option.some.inj hm
  subst hm
  refine d_retC () Try.results90 ?_ trivial (fun W h => ok_pre (H1 := [_]) (R1 := []) h (fun W hφ => hφ)) (.inr rfl)
  refine res_agg (tag := 100040) rfl rfl Try.isAgg74 Try.sizeOf74 <| res_tmp <| res_tmp <| res_nil ?_
  exact rfl
 ·
  replace hm := ite_f hm (of_decide_eq_false h7)
  refine c_skip <| d_then <| c_seq <| c_region <| g_v rfl r_move <| g_v rfl r_move ?_
  replace hm := bnd hm
  obtain ⟨⟨x8, x9, x10⟩, hx11, hm⟩ := hm
  refine g_cn ⟨w0, M, _, _, φ⟩ (fun _ h => h) Try.call58 rfl rfl (c_pack_Word p0 x3 _ hx11) (fun _ _ => ?_)
  refine g_v rfl r_move <| g_v rfl (r_extract rfl rfl) <| g_v rfl (r_extract rfl rfl) <| g_v rfl (r_extract rfl rfl) <| g_v rfl r_assign <| g_v rfl r_assign <| g_v rfl r_assign <| g_nil <| d_then ?_
  refine c_flat [(0, .string p0), (1, .int .i64 x9), (4, .pointer (some ⟨g1, 0, none⟩)), (7, .string x2), (8, .int .i64 x10), (9, .int .u16 x8)] ⟨rfl, rfl, rfl, rfl, rfl, rfl, trivial⟩ (fun u => ?_)
  refine c_seq <| c_seq <| c_region <| g_v rfl r_move <| g_v rfl (r_neq rfl rfl) <| g_nil <| d_then ?_
  refine c_cond rfl (fun h13 => ?_) (fun h13 => ?_)
  ·
   replace hm := ite_t hm (of_decide_eq_true h13)
   refine c_seq <| c_region <| g_v rfl (r_build _ rfl (bld74_18)) <| g_v rfl r_move <| g_storeL (tag := 100040) rfl rfl rfl rfl Try.sizeOf74 rfl rfl <| g_v rfl r_assign <| g_v rfl r_assign <| g_nil <| d_then <| c_ret ?_
   refine d_ret_then ?_
   replace hm := Option.some.inj hm
   subst hm
   refine d_retC () Try.results90 ?_ trivial (fun W h => ok_pre (H1 := [_]) (R1 := []) h (fun W hφ => hφ)) (.inr rfl)
   refine res_agg (tag := 100040) rfl rfl Try.isAgg74 Try.sizeOf74 <| res_tmp <| res_tmp <| res_nil ?_
   exact rfl
  ·
   replace hm := ite_f hm (of_decide_eq_false h13)
   refine c_skip <| d_then <| c_seq <| c_region <| g_v rfl r_move <| g_v rfl r_move ?_
   replace hm := bnd hm
   obtain ⟨⟨x14, x15, x16⟩, hx17, hm⟩ := hm
   refine g_cn ⟨w0, M, _, _, φ⟩ (fun _ h => h) Try.call58 rfl rfl (c_pack_Word p0 x9 _ hx17) (fun _ _ => ?_)
   refine g_v rfl r_move <| g_v rfl (r_extract rfl rfl) <| g_v rfl (r_extract rfl rfl) <| g_v rfl (r_extract rfl rfl) <| g_v rfl r_assign <| g_v rfl r_assign <| g_v rfl r_assign <| g_nil <| d_then ?_
   refine c_flat [(1, .int .i64 x15), (4, .pointer (some ⟨g1, 0, none⟩)), (7, .string x2), (8, .int .i64 x16), (9, .int .u16 x8), (10, .int .u16 x14)] ⟨rfl, rfl, rfl, rfl, rfl, rfl, trivial⟩ (fun u => ?_)
   refine c_seq <| c_region <| g_v rfl r_move <| g_v rfl r_move <| g_v rfl r_move <| g_v rfl (r_build _ rfl (bld74_0 _ _ _)) <| g_v rfl r_move <| g_v rfl r_move <| g_storeL (tag := 100040) rfl rfl rfl rfl Try.sizeOf74 rfl rfl <| g_v rfl r_assign ?_
   refine g_v rfl r_assign <| g_nil <| d_then ?_
   refine c_flat [(4, .pointer (some ⟨g1, 0, none⟩)), (5, .int .i64 x15), (6, .int .i64 x16)] ⟨rfl, rfl, rfl, trivial⟩ (fun u => ?_)
   refine c_sta ⟨w0, M, (100040, g1, .cells #[.string x2, .int .u16 x8, .int .u16 x14] 74 (0, 0)) :: H, R, φ⟩ (fun _ h => h) <| c_ret ?_
   replace hm := Option.some.inj hm
   subst hm
   refine d_retC () Try.results90 ?_ trivial (fun W h => ok_pre (H1 := [_]) (R1 := []) h (fun W hφ => hφ)) (.inr rfl)
   refine res_agg (tag := 100040) rfl rfl Try.isAgg74 Try.sizeOf74 <| res_tmp <| res_tmp <| res_nil ?_
   exact rfl
theorem inf74_19  : (Try.prog.info? 74).map (fun i => (i.zero, i.size, i.bytes)) = some (some (.agg #[.string (⟨#[]⟩ : ByteArray), .int .u16 0, .int .u16 0]), 3, 24) := by kernel_rfl
noncomputable def m_message_many_89_j1  (l95 : List GQuestion) (i98 : Int) : Option ((List GQuestion) × Int × Int) :=
  some (l95, i98, 0)
noncomputable def m_message_many_89_s2 (p2 : Int) (p0 : ByteArray) (l116 : List GQuestion) (i119 : Int) (i120 : Int) : Option (((List GQuestion) × Int × Int) ⊕ (((List GQuestion) × Int) ⊕ ((List GQuestion) × Int × Int))) :=
  if i120 < p2 then
    (m_message_question p0 i119).bind fun (z144 : GQuestion × Int × Int) =>
    if z144.2.2 ≠ 0 then
      some (.inr (.inr (([] : List GQuestion), 0, z144.2.2)))
    else
      (app 24 l116 [z144.1]).bind fun l148 =>
      some (.inl (l148, z144.2.1, IntKind.u16.wrap (i120 + 1)))
  else
    some (.inr (.inl (l116, i119)))
noncomputable def m_message_many_89 (p0 : ByteArray) (p1 : Int) (p2 : Int) : Option ((List GQuestion) × Int × Int) :=
  (loop (fun s => m_message_many_89_s2 p2 p0 s.1 s.2.1 s.2.2) (([] : List GQuestion), p1, 0)).bind fun e => Sum.elim (fun e => m_message_many_89_j1 e.1 e.2) (fun x => some x) e
theorem c_message_many_89 {w0 : World} {M : Nat → Prop} {H : List (Nat × Nat × Obj)} {R : List (Nat × Row)} {φ : World → Prop} (p0 : ByteArray) (p1 : Int) (p2 : Int) (r : (List GQuestion) × Int × Int) (hm : m_message_many_89 p0 p1 p2 = some r) :
    Cn Try.prog 89 #[.string p0, .int .i64 p1, .int .u16 p2, .func (.func 90) #[] #[]] ⟨w0, M, H, R, φ⟩ (fun x : Option Addr × Nat => .tuple #[.slice x.1 r.1.length x.2, .int .i64 r.2.1, .int .i64 r.2.2]) (fun x => r.1.length ≤ x.2) (fun x => ⟨w0, M, H, (2000, ⟨.slice x.1 r.1.length x.2, 74, 3, r.1.length, r.1.flatMap GQuestion.enc⟩) :: R, φ⟩) := by
 unfold m_message_many_89 at hm
 refine cn_intro (fn := Try.f89) (N := 37) Try.func89 rfl Try.ntmps89 rfl <| c_seq <| c_region <| g_v rfl r_assign <| g_v rfl r_assign <| g_v rfl r_assign <| g_nil <| d_then <| c_seq <| c_region ?_
 refine g_v rfl r_assign <| g_nil <| d_then <| c_seq <| c_seq <| c_region <| g_v rfl r_move <| g_v rfl r_move <| g_nil <| d_then ?_
 refine c_sta _ (fun W h => nilR h 16 74 3) ?_
 refine c_cut (ι := (List GQuestion) × Int × Option Addr × Nat) [1, 11] (fun ⟨l95, i98, A96, c97⟩ => [(1, .int .i64 i98), (11, .slice A96 l95.length c97)]) (fun ⟨l95, i98, A96, c97⟩ => ⟨w0, M, H, (16, ⟨.slice A96 l95.length c97, 74, 3, l95.length, l95.flatMap GQuestion.enc⟩) :: R, φ⟩) (fun ⟨l95, i98, A96, c97⟩ => m_message_many_89_j1 l95 i98 = some r ∧ l95.length ≤ c97) ?_ (fun ⟨l95, i98, A96, c97⟩ u ⟨hm, hc97⟩ => ?_)
 ·
  refine c_block ?_
  replace hm := bnd hm
  obtain ⟨out2, hl2, hr2⟩ := hm
  obtain ⟨n138', hl2⟩ := loop_lp hl2
  refine c_loopU (ι := Nat × (List GQuestion) × Int × Int × Option Addr × Nat) [0, 1, 3, 11, 15, 16] (fun ⟨n138, l116, i119, i120, A117, c118⟩ => [(1, .int .i64 i119), (11, .slice A117 l116.length c118), (16, .int .u16 i120)]) (fun ⟨n138, l116, i119, i120, A117, c118⟩ => ⟨w0, M, H, (16, ⟨.slice A117 l116.length c118, 74, 3, l116.length, l116.flatMap GQuestion.enc⟩) :: R, φ⟩) (fun ⟨n138, l116, i119, i120, A117, c118⟩ => Lp (fun s => m_message_many_89_s2 p2 p0 s.1 s.2.1 s.2.2) n138 (l116, i119, i120) out2 ∧ l116.length ≤ c118) (fun ⟨n138, l116, i119, i120, A117, c118⟩ => n138) (n138', ([] : List GQuestion), p1, 0, none, 0) ⟨hl2, (Nat.le_refl 0)⟩ ⟨rfl, rfl, rfl, rfl, rfl, rfl, trivial⟩ (fun W h => h.phi (fun W hφ => hφ)) (fun ⟨n138, l116, i119, i120, A117, c118⟩ u ⟨hlp, hc118⟩ => ?_)
  obtain ⟨o2, hm, hnx2⟩ := lp_step hlp
  clear hlp
  replace hm : m_message_many_89_s2 p2 p0 l116 i119 i120 = some o2 := hm
  unfold m_message_many_89_s2 at hm
  refine c_flat [(0, .string p0), (1, .int .i64 i119), (3, .func (.func 90) #[] #[]), (11, .slice A117 l116.length c118), (15, .int .u16 p2), (16, .int .u16 i120)] ⟨rfl, rfl, rfl, rfl, rfl, rfl, trivial⟩ (fun u => ?_)
  refine c_sta ⟨w0, M, H, (16, ⟨.slice A117 l116.length c118, 74, 3, l116.length, l116.flatMap GQuestion.enc⟩) :: R, φ⟩ (fun _ h => h) <| c_seq <| c_region <| g_v rfl (r_lss rfl rfl) <| g_nil <| d_then <| c_seq ?_
  refine c_cond rfl (fun h139 => ?_) (fun h139 => ?_)
  ·
   replace hm := ite_t hm (of_decide_eq_true h139)
   refine c_skip <| d_then <| c_seq <| c_block <| c_seq <| c_region <| g_v rfl r_move <| g_v rfl r_move <| g_v rfl r_move ?_
   replace hm := bnd hm
   obtain ⟨⟨x140, x141, x142⟩, hx143, hm⟩ := hm
   refine g_cnv ⟨w0, M, _, _, φ⟩ (fun _ h => h) Try.call90 rfl rfl rfl (c_message_question p0 i119 _ hx143) (fun _ _ => ?_)
   refine g_v rfl r_move <| g_v rfl (r_extract rfl rfl) <| g_v rfl (r_extract rfl rfl) <| g_v rfl (r_extract rfl rfl) ?_
   refine g_e rfl (e_alloc 100120 Try.zeroValue74) (fun g145 _ => ?_)
   refine g_storeL (tag := 100120) rfl rfl rfl rfl Try.sizeOf74 rfl rfl <| g_v rfl r_assign <| g_v rfl r_assign <| g_nil <| d_then ?_
   refine c_flat [(0, .string p0), (3, .func (.func 90) #[] #[]), (11, .slice A117 l116.length c118), (12, .pointer (some ⟨g145, 0, none⟩)), (13, .int .i64 x141), (14, .int .i64 x142), (15, .int .u16 p2), (16, .int .u16 i120)] ⟨rfl, rfl, rfl, rfl, rfl, rfl, rfl, rfl, trivial⟩ (fun u => ?_)
   refine c_sta ⟨w0, M, (100120, g145, .cells #[.string x140.fName, .int .u16 x140.fType, .int .u16 x140.fClass] 74 (0, 0)) :: H, (16, ⟨.slice A117 l116.length c118, 74, 3, l116.length, l116.flatMap GQuestion.enc⟩) :: R, φ⟩ (fun _ h => h) <| c_seq <| c_seq <| c_region <| g_v rfl r_move <| g_v rfl (r_neq rfl rfl) <| g_nil <| d_then ?_
   refine c_cond rfl (fun h146 => ?_) (fun h146 => ?_)
   ·
    replace hm := ite_t hm (of_decide_eq_true h146)
    refine c_seq <| c_region <| g_v rfl r_move <| g_v rfl r_assign <| g_v rfl r_assign <| g_v rfl r_assign <| g_nil <| d_then <| c_ret <| d_ret_then ?_
    refine d_ret_block <| d_ret_then <| d_ret_then <| d_ret_block <| d_ret_then <| d_ret_then ?_
    replace hm := nx_out (C := (fun e => Sum.elim (fun e => m_message_many_89_j1 e.1 e.2) (fun x => some x) e = some r)) hm hnx2 hr2
    replace hm : some (([] : List GQuestion), 0, x142) = some r := hm
    replace hm := Option.some.inj hm
    subst hm
    refine d_sta _ (fun W h => nilR h 21 74 3) <| d_sta _ (fun W h => ok_frontR (t := 21) (t' := 2000) h rfl) ?_
    refine d_retC (none, 0) Try.results89 ?_ (Nat.le_refl 0) (fun W h => ((h.dropR (t := 16) rfl).dropH (t := 100120) rfl).phi (fun W hφ => hφ)) (.inr rfl)
    refine res_tmp <| res_tmp <| res_tmp <| res_nil ?_
    exact rfl
   ·
    replace hm := ite_f hm (of_decide_eq_false h146)
    refine c_skip <| d_then <| c_region <| g_v rfl r_move <| g_v rfl (r_loadA (tag := 100120) rfl rfl Try.isAgg74 Try.sizeOf74 rfl rfl) ?_
    refine g_e rfl (e_lit (tag := 100310) (l := [x140]) (enc := GQuestion.enc) (sz := 3) rfl Try.underlying60 (lit74_1 _ _ _) rfl rfl (fun _ => rfl)) (fun g147 _ => ?_)
    replace hm := bnd hm
    obtain ⟨l148, hl148, hm⟩ := hm
    refine g_e rfl (e_appR (enc := GQuestion.enc) (l := l116) (l1 := [x140]) (l2 := l148) (tag := 16) Try.underlying60 inf74_19 rfl (by decide) (by decide) (fun _ => rfl) (fun _ => rfl) rfl hc118 rfl rfl (fun W hS => rowCl (tag := 100310) rfl W hS) hl148) (fun ⟨A149, c150⟩ hc150 => ?_)
    refine g_v rfl r_move <| g_v rfl r_assign <| g_v rfl r_assign <| g_nil <| d_normal_block <| d_then ?_
    refine c_flat [(0, .string p0), (1, .int .i64 x141), (3, .func (.func 90) #[] #[]), (11, .slice A149 l148.length c150), (15, .int .u16 p2), (16, .int .u16 i120)] ⟨rfl, rfl, rfl, rfl, rfl, rfl, trivial⟩ (fun u => ?_)
    refine c_sta ⟨w0, M, (100120, g145, .cells #[.string x140.fName, .int .u16 x140.fType, .int .u16 x140.fClass] 74 (0, 0)) :: H, (100310, ⟨.slice (some ⟨g147, 0, none⟩) [x140].length 1, 74, 3, [x140].length, [x140].flatMap GQuestion.enc⟩) :: (16, ⟨.slice A149 l148.length c150, 74, 3, l148.length, l148.flatMap GQuestion.enc⟩) :: R, φ⟩ (fun _ h => h) <| c_region <| g_v rfl (r_add rfl rfl rfl) <| g_v rfl r_move <| g_nil ?_
    obtain ⟨n151, hn151, hlp⟩ := nx_inl hm hnx2
    exact d_round (n151, l148, x141, IntKind.u16.wrap (i120 + 1), A149, c150) ⟨hlp, hc150⟩ hn151 ⟨rfl, rfl, rfl, rfl, rfl, rfl, trivial⟩ (fun W h => ((h.dropR (t := 100310) rfl).dropH (t := 100120) rfl).phi (fun W hφ => hφ))
  ·
   replace hm := ite_f hm (of_decide_eq_false h139)
   refine c_exit <| d_exit_then <| d_exit_then <| d_exit_block ?_
   replace hm := nx_out (C := (fun e => Sum.elim (fun e => m_message_many_89_j1 e.1 e.2) (fun x => some x) e = some r)) hm hnx2 hr2
   exact d_round (l116, i119, A117, c118) ⟨hm, hc118⟩ Nat.zero_lt_one ⟨rfl, rfl, trivial⟩ (fun W h => h.phi (fun W hφ => hφ))
 ·
  unfold m_message_many_89_j1 at hm
  refine d_flat [(1, .int .i64 i98), (11, .slice A96 l95.length c97)] ⟨rfl, rfl, trivial⟩ (fun u => ?_)
  refine d_sta ⟨w0, M, H, (16, ⟨.slice A96 l95.length c97, 74, 3, l95.length, l95.flatMap GQuestion.enc⟩) :: R, φ⟩ (fun _ h => h) <| d_then <| c_seq <| c_region <| g_v rfl r_move <| g_v rfl r_move <| g_v rfl r_assign <| g_v rfl r_assign <| g_v rfl r_assign <| g_nil ?_
  refine d_then <| c_ret ?_
  replace hm := Option.some.inj hm
  subst hm
  refine d_sta _ (fun W h => ok_frontR (t := 16) (t' := 2000) h rfl) ?_
  refine d_retC (A96, c97) Try.results89 ?_ hc97 (fun W h => h.phi (fun W hφ => hφ)) (.inr rfl)
  refine res_tmp <| res_tmp <| res_tmp <| res_nil ?_
  exact rfl
theorem bld127_20 (z0 : Nat) (z1 : Nat) (z2 : Nat) : ∀ W, (Instr.build 127 #[(0, .pointer (some ⟨z0, 9, none⟩)), (1, .pointer (some ⟨z1, 10, none⟩)), (2, .pointer (some ⟨z2, 11, none⟩))]).run Try.prog W = .ok (.agg #[.pointer (some ⟨z0, 9, none⟩), .pointer (some ⟨z1, 10, none⟩), .pointer (some ⟨z2, 11, none⟩)]) W := fun _ => by kernel_rfl
theorem bld27_21  : ∀ W, (Instr.build 27 #[]).run Try.prog W = .ok (.agg #[.string (⟨#[]⟩ : ByteArray), .int .u16 0, .int .u16 0, .int .u32 0, .string (⟨#[]⟩ : ByteArray)]) W := fun _ => by kernel_rfl
noncomputable def m_record_Get_c1 (p0 : Int) : Option (GRR × Int × Int) :=
  some ((⟨(⟨#[]⟩ : ByteArray), 0, 0, 0, (⟨#[]⟩ : ByteArray)⟩ : GRR), 0, p0)
theorem c_record_Get_c1 {w0 : World} {M : Nat → Prop} {H : List (Nat × Nat × Obj)} {R : List (Nat × Row)} {φ : World → Prop} (p0 : Int) (r : GRR × Int × Int) (hm : m_record_Get_c1 p0 = some r) :
    Cn Try.prog 56 #[.int .i64 p0] ⟨w0, M, H, R, φ⟩ (fun x : Unit => .tuple #[.agg #[.string r.1.fName, .int .u16 r.1.fType, .int .u16 r.1.fClass, .int .u32 r.1.fTTL, .string r.1.fData], .int .i64 r.2.1, .int .i64 r.2.2]) (fun x => True) (fun x => ⟨w0, M, H, R, φ⟩) := by
 unfold m_record_Get_c1 at hm
 refine cn_intro (fn := Try.f56) (N := 7) Try.func56 rfl Try.ntmps56 rfl <| c_seq <| c_region ?_
 refine g_e rfl (e_alloc 100020 Try.zeroValue27) (fun g1 _ => ?_)
 refine g_v rfl r_assign <| g_v rfl r_assign <| g_nil <| d_then <| c_seq <| c_region <| g_v rfl (r_build _ rfl (bld27_21)) <| g_v rfl r_move <| g_storeL (tag := 100020) rfl rfl rfl rfl Try.sizeOf27 rfl rfl <| g_v rfl r_assign ?_
 refine g_v rfl r_assign <| g_nil <| d_then <| c_ret ?_
 replace hm := Option.some.inj hm
 subst hm
 refine d_retC () Try.results56 ?_ trivial (fun W h => ok_pre (H1 := [_]) (R1 := []) h (fun W hφ => hφ)) (.inr rfl)
 refine res_agg (tag := 100020) rfl rfl Try.isAgg27 Try.sizeOf27 <| res_tmp <| res_tmp <| res_nil ?_
 exact rfl
noncomputable def m_pack_Long (p0 : ByteArray) (p1 : Int) : Option (Int × Int × Int) :=
  (m_pack_number p0 p1 4).bind fun (z5 : Int × Int × Int) =>
  some (z5.1, z5.2.1, z5.2.2)
theorem c_pack_Long {w0 : World} {M : Nat → Prop} {H : List (Nat × Nat × Obj)} {R : List (Nat × Row)} {φ : World → Prop} (p0 : ByteArray) (p1 : Int) (r : Int × Int × Int) (hm : m_pack_Long p0 p1 = some r) :
    Cn Try.prog 59 #[.string p0, .int .i64 p1] ⟨w0, M, H, R, φ⟩ (fun x : Unit => .tuple #[.int .u32 r.1, .int .i64 r.2.1, .int .i64 r.2.2]) (fun x => True) (fun x => ⟨w0, M, H, R, φ⟩) := by
 unfold m_pack_Long at hm
 refine cn_intro (fn := Try.f59) (N := 13) Try.func59 rfl Try.ntmps59 rfl <| c_seq <| c_region <| g_v rfl r_assign <| g_v rfl r_assign <| g_v rfl r_assign <| g_nil <| d_then <| c_seq <| c_region ?_
 refine g_v rfl r_move <| g_v rfl r_move ?_
 replace hm := bnd hm
 obtain ⟨⟨x1, x2, x3⟩, hx4, hm⟩ := hm
 refine g_cn ⟨w0, M, _, _, φ⟩ (fun _ h => h) Try.call98 rfl rfl (c_pack_number p0 p1 4 _ hx4) (fun _ _ => ?_)
 refine g_v rfl (r_extract rfl rfl) <| g_v rfl (r_extract rfl rfl) <| g_v rfl (r_extract rfl rfl) <| g_v rfl r_assign <| g_v rfl r_assign <| g_v rfl r_assign <| g_nil <| d_then ?_
 refine c_flat [(4, .int .u32 x1), (5, .int .i64 x2), (6, .int .i64 x3)] ⟨rfl, rfl, rfl, trivial⟩ (fun u => ?_)
 refine c_sta ⟨w0, M, H, R, φ⟩ (fun _ h => h) <| c_ret ?_
 replace hm := Option.some.inj hm
 subst hm
 refine d_retC () Try.results59 ?_ trivial (fun W h => ok_pre (H1 := []) (R1 := []) h (fun W hφ => hφ)) (.inr rfl)
 refine res_tmp <| res_tmp <| res_tmp <| res_nil ?_
 exact rfl
noncomputable def m_record_full_j1 (p0 : ByteArray) (p2 : Grecord_shape) (i34 : Int) (s35 : ByteArray) : Option (ByteArray × Int × Int) :=
  (m_pack_Raw p0 i34 p2.fbehind).bind fun (z40 : ByteArray × Int × Int) =>
  (sadd s35 z40.1).bind fun s41 =>
  some (s41, z40.2.1, z40.2.2)
noncomputable def m_record_full_s2 (p2 : Grecord_shape) (p0 : ByteArray) (i53 : Int) (s54 : ByteArray) (i55 : Int) : Option ((Int × ByteArray × Int) ⊕ ((Int × ByteArray) ⊕ (ByteArray × Int × Int))) :=
  if i55 < p2.fnames then
    (m_pack_Name p0 i53).bind fun (z73 : ByteArray × Int × Int) =>
    if z73.2.2 ≠ 0 then
      some (.inr (.inr ((⟨#[]⟩ : ByteArray), 0, z73.2.2)))
    else
      (sadd s54 z73.1).bind fun s75 =>
      some (.inl (z73.2.1, s75, w64 (i55 + 1)))
  else
    some (.inr (.inl (i53, s54)))
noncomputable def m_record_full (p0 : ByteArray) (p1 : Int) (p2 : Grecord_shape) : Option (ByteArray × Int × Int) :=
  (m_pack_Raw p0 p1 p2.fahead).bind fun (z6 : ByteArray × Int × Int) =>
  if z6.2.2 ≠ 0 then
    some ((⟨#[]⟩ : ByteArray), 0, z6.2.2)
  else
    (loop (fun s => m_record_full_s2 p2 p0 s.1 s.2.1 s.2.2) (z6.2.1, z6.1, 0)).bind fun e => Sum.elim (fun e => m_record_full_j1 p0 p2 e.1 e.2) (fun x => some x) e
theorem c_record_full {w0 : World} {M : Nat → Prop} {H : List (Nat × Nat × Obj)} {R : List (Nat × Row)} {φ : World → Prop} (p0 : ByteArray) (p1 : Int) (p2 : Grecord_shape) (r : ByteArray × Int × Int) (hm : m_record_full p0 p1 p2 = some r) :
    Cn Try.prog 62 #[.string p0, .int .i64 p1, .agg #[.int .i64 p2.fahead, .int .i64 p2.fnames, .int .i64 p2.fbehind]] ⟨w0, M, H, R, φ⟩ (fun x : Unit => .tuple #[.string r.1, .int .i64 r.2.1, .int .i64 r.2.2]) (fun x => True) (fun x => ⟨w0, M, H, R, φ⟩) := by
 unfold m_record_full at hm
 refine cn_intro (fn := Try.f62) (N := 60) Try.func62 rfl Try.ntmps62 rfl <| c_seq <| c_region ?_
 refine g_e rfl (e_box 100050 rfl) (fun g1 _ => ?_)
 refine g_v rfl r_assign <| g_v rfl r_assign <| g_v rfl r_assign <| g_nil <| d_then <| c_seq <| c_region <| g_v rfl r_move <| g_v rfl r_move <| g_v rfl (r_field (n := 0) Try.underlying90 rfl Try.sizeOf3 rfl rfl) ?_
 refine g_v rfl (r_load (tag := 100050) rfl rfl rfl Try.isAgg3) ?_
 replace hm := bnd hm
 obtain ⟨⟨x2, x3, x4⟩, hx5, hm⟩ := hm
 refine g_cn ⟨w0, M, _, _, φ⟩ (fun _ h => h) Try.call60 rfl rfl (c_pack_Raw p0 p1 p2.fahead _ hx5) (fun _ _ => ?_)
 refine g_v rfl r_move <| g_v rfl (r_extract rfl rfl) <| g_v rfl (r_extract rfl rfl) <| g_v rfl (r_extract rfl rfl) <| g_v rfl r_assign <| g_v rfl r_assign <| g_v rfl r_assign <| g_nil <| d_then ?_
 refine c_flat [(0, .string p0), (1, .int .i64 x3), (5, .pointer (some ⟨g1, 0, none⟩)), (9, .string x2), (10, .int .i64 x4)] ⟨rfl, rfl, rfl, rfl, rfl, trivial⟩ (fun u => ?_)
 refine c_sta ⟨w0, M, (100050, g1, .cells #[.int .i64 p2.fahead, .int .i64 p2.fnames, .int .i64 p2.fbehind] 90 (0, 0)) :: H, R, φ⟩ (fun _ h => h) <| c_seq <| c_seq <| c_region <| g_v rfl r_move <| g_v rfl (r_neq rfl rfl) <| g_nil <| d_then ?_
 refine c_cond rfl (fun h7 => ?_) (fun h7 => ?_)
 ·
  replace hm := ite_t hm (of_decide_eq_true h7)
  refine c_seq <| c_region <| g_v rfl r_move <| g_v rfl r_assign <| g_v rfl r_assign <| g_v rfl r_assign <| g_nil <| d_then <| c_ret <| d_ret_then ?_
  replace hm := Option.some.inj hm
  subst hm
  refine d_retC () Try.results62 ?_ trivial (fun W h => ok_pre (H1 := [_]) (R1 := []) h (fun W hφ => hφ)) (.inr rfl)
  refine res_tmp <| res_tmp <| res_tmp <| res_nil ?_
  exact rfl
 ·
  replace hm := ite_f hm (of_decide_eq_false h7)
  refine c_skip <| d_then <| c_seq <| c_seq <| c_region <| g_v rfl (r_field (n := 1) Try.underlying90 rfl Try.sizeOf3 rfl rfl) <| g_v rfl (r_load (tag := 100050) rfl rfl rfl Try.isAgg3) <| g_v rfl r_move <| g_nil <| d_then ?_
  refine c_cut (ι := Int × ByteArray) [0, 1, 5, 9] (fun ⟨i34, s35⟩ => [(1, .int .i64 i34), (9, .string s35)]) (fun ⟨i34, s35⟩ => ⟨w0, M, (100050, g1, .cells #[.int .i64 p2.fahead, .int .i64 p2.fnames, .int .i64 p2.fbehind] 90 (0, 0)) :: H, R, φ⟩) (fun ⟨i34, s35⟩ => m_record_full_j1 p0 p2 i34 s35 = some r) ?_ (fun ⟨i34, s35⟩ u hm => ?_)
  ·
   refine c_block ?_
   replace hm := bnd hm
   obtain ⟨out2, hl2, hr2⟩ := hm
   obtain ⟨n67', hl2⟩ := loop_lp hl2
   refine c_loopU (ι := Nat × Int × ByteArray × Int) [0, 1, 5, 9, 28, 29] (fun ⟨n67, i53, s54, i55⟩ => [(1, .int .i64 i53), (9, .string s54), (29, .int .i64 i55)]) (fun ⟨n67, i53, s54, i55⟩ => ⟨w0, M, (100050, g1, .cells #[.int .i64 p2.fahead, .int .i64 p2.fnames, .int .i64 p2.fbehind] 90 (0, 0)) :: H, R, φ⟩) (fun ⟨n67, i53, s54, i55⟩ => Lp (fun s => m_record_full_s2 p2 p0 s.1 s.2.1 s.2.2) n67 (i53, s54, i55) out2) (fun ⟨n67, i53, s54, i55⟩ => n67) (n67', x3, x2, 0) hl2 ⟨rfl, rfl, rfl, rfl, rfl, rfl, trivial⟩ (fun W h => h.phi (fun W hφ => hφ)) (fun ⟨n67, i53, s54, i55⟩ u hlp => ?_)
   obtain ⟨o2, hm, hnx2⟩ := lp_step hlp
   clear hlp
   replace hm : m_record_full_s2 p2 p0 i53 s54 i55 = some o2 := hm
   unfold m_record_full_s2 at hm
   refine c_flat [(0, .string p0), (1, .int .i64 i53), (5, .pointer (some ⟨g1, 0, none⟩)), (9, .string s54), (28, .int .i64 p2.fnames), (29, .int .i64 i55)] ⟨rfl, rfl, rfl, rfl, rfl, rfl, trivial⟩ (fun u => ?_)
   refine c_seq <| c_region <| g_v rfl (r_lss rfl rfl) <| g_nil <| d_then <| c_seq ?_
   refine c_cond rfl (fun h68 => ?_) (fun h68 => ?_)
   ·
    replace hm := ite_t hm (of_decide_eq_true h68)
    refine c_skip <| d_then <| c_seq <| c_block <| c_seq <| c_region <| g_v rfl r_move <| g_v rfl r_move ?_
    replace hm := bnd hm
    obtain ⟨⟨x69, x70, x71⟩, hx72, hm⟩ := hm
    refine g_cn ⟨w0, M, _, _, φ⟩ (fun _ h => h) Try.call57 rfl rfl (c_pack_Name p0 i53 _ hx72) (fun _ _ => ?_)
    refine g_v rfl r_move <| g_v rfl (r_extract rfl rfl) <| g_v rfl (r_extract rfl rfl) <| g_v rfl (r_extract rfl rfl) <| g_v rfl r_assign <| g_v rfl r_assign <| g_v rfl r_assign <| g_nil <| d_then ?_
    refine c_flat [(0, .string p0), (5, .pointer (some ⟨g1, 0, none⟩)), (9, .string s54), (11, .string x69), (12, .int .i64 x70), (13, .int .i64 x71), (28, .int .i64 p2.fnames), (29, .int .i64 i55)] ⟨rfl, rfl, rfl, rfl, rfl, rfl, rfl, rfl, trivial⟩ (fun u => ?_)
    refine c_seq <| c_seq <| c_region <| g_v rfl r_move <| g_v rfl (r_neq rfl rfl) <| g_nil <| d_then ?_
    refine c_cond rfl (fun h74 => ?_) (fun h74 => ?_)
    ·
     replace hm := ite_t hm (of_decide_eq_true h74)
     refine c_seq <| c_region <| g_v rfl r_move <| g_v rfl r_assign <| g_v rfl r_assign <| g_v rfl r_assign <| g_nil <| d_then <| c_ret <| d_ret_then ?_
     refine d_ret_block <| d_ret_then <| d_ret_then <| d_ret_block <| d_ret_then <| d_ret_then ?_
     replace hm := nx_out (C := (fun e => Sum.elim (fun e => m_record_full_j1 p0 p2 e.1 e.2) (fun x => some x) e = some r)) hm hnx2 hr2
     replace hm : some ((⟨#[]⟩ : ByteArray), 0, x71) = some r := hm
     replace hm := Option.some.inj hm
     subst hm
     refine d_retC () Try.results62 ?_ trivial (fun W h => ok_pre (H1 := [_]) (R1 := []) h (fun W hφ => hφ)) (.inr rfl)
     refine res_tmp <| res_tmp <| res_tmp <| res_nil ?_
     exact rfl
    ·
     replace hm := ite_f hm (of_decide_eq_false h74)
     refine c_skip <| d_then <| c_region <| g_v rfl r_move <| g_v rfl r_move ?_
     replace hm := bnd hm
     obtain ⟨s75, hs75, hm⟩ := hm
     refine g_v rfl (r_addT rfl rfl hs75) <| g_v rfl r_move <| g_v rfl r_assign <| g_v rfl r_assign <| g_nil <| d_normal_block <| d_then <| c_region <| g_v rfl (r_add rfl rfl rfl) <| g_v rfl r_move ?_
     refine g_nil ?_
     obtain ⟨n76, hn76, hlp⟩ := nx_inl hm hnx2
     exact d_round (n76, x70, s75, w64 (i55 + 1)) hlp hn76 ⟨rfl, rfl, rfl, rfl, rfl, rfl, trivial⟩ (fun W h => h.phi (fun W hφ => hφ))
   ·
    replace hm := ite_f hm (of_decide_eq_false h68)
    refine c_exit <| d_exit_then <| d_exit_then <| d_exit_block ?_
    replace hm := nx_out (C := (fun e => Sum.elim (fun e => m_record_full_j1 p0 p2 e.1 e.2) (fun x => some x) e = some r)) hm hnx2 hr2
    exact d_round (i53, s54) hm Nat.zero_lt_one ⟨rfl, rfl, rfl, rfl, trivial⟩ (fun W h => h.phi (fun W hφ => hφ))
  ·
   unfold m_record_full_j1 at hm
   refine d_flat [(0, .string p0), (1, .int .i64 i34), (5, .pointer (some ⟨g1, 0, none⟩)), (9, .string s35)] ⟨rfl, rfl, rfl, rfl, trivial⟩ (fun u => ?_)
   refine d_then <| c_seq <| c_region <| g_v rfl r_move <| g_v rfl r_move <| g_v rfl (r_field (n := 2) Try.underlying90 rfl Try.sizeOf3 rfl rfl) <| g_v rfl (r_load (tag := 100050) rfl rfl rfl Try.isAgg3) ?_
   replace hm := bnd hm
   obtain ⟨⟨x36, x37, x38⟩, hx39, hm⟩ := hm
   refine g_cn ⟨w0, M, _, _, φ⟩ (fun _ h => h) Try.call60 rfl rfl (c_pack_Raw p0 i34 p2.fbehind _ hx39) (fun _ _ => ?_)
   refine g_v rfl r_move <| g_v rfl (r_extract rfl rfl) <| g_v rfl (r_extract rfl rfl) <| g_v rfl (r_extract rfl rfl) <| g_v rfl r_assign <| g_v rfl r_assign <| g_v rfl r_assign <| g_nil <| d_then ?_
   refine c_flat [(1, .int .i64 x37), (9, .string s35), (10, .int .i64 x38), (14, .string x36)] ⟨rfl, rfl, rfl, rfl, trivial⟩ (fun u => ?_)
   refine c_seq <| c_region <| g_v rfl r_move <| g_v rfl r_move ?_
   replace hm := bnd hm
   obtain ⟨s41, hs41, hm⟩ := hm
   refine g_v rfl (r_addT rfl rfl hs41) <| g_v rfl r_move <| g_v rfl r_move <| g_v rfl r_assign <| g_v rfl r_assign <| g_v rfl r_assign <| g_nil <| d_then <| c_ret ?_
   replace hm := Option.some.inj hm
   subst hm
   refine d_retC () Try.results62 ?_ trivial (fun W h => ok_pre (H1 := [_]) (R1 := []) h (fun W hφ => hφ)) (.inr rfl)
   refine res_tmp <| res_tmp <| res_tmp <| res_nil ?_
   exact rfl
noncomputable def m_record_Get_j3 (x3 : ByteArray) (x14 : Int) (i27 : Int) (i36 : Int) (x55 : Int) (s86 : ByteArray) : Option (GRR × Int × Int) :=
  (m_record_Check (⟨x3, x14, i27, i36, s86⟩ : GRR)).bind fun x87 =>
  if x87 ≠ 0 then
    (m_record_Get_c1 x87).bind fun (z94 : GRR × Int × Int) =>
    some (z94.1, z94.2.1, z94.2.2)
  else
    some ((⟨x3, x14, i27, i36, s86⟩ : GRR), x55, 0)
noncomputable def m_record_Get_j2 (p0 : ByteArray) (x14 : Int) (x3 : ByteArray) (i27 : Int) (i34 : Int) (i35 : Int) (i36 : Int) : Option (GRR × Int × Int) :=
  if i35 ≠ 0 then
    (m_record_Get_c1 i35).bind fun (z42 : GRR × Int × Int) =>
    some (z42.1, z42.2.1, z42.2.2)
  else
    (m_pack_Word p0 i34).bind fun (z47 : Int × Int × Int) =>
    if z47.2.2 ≠ 0 then
      (m_record_Get_c1 z47.2.2).bind fun (z53 : GRR × Int × Int) =>
      some (z53.1, z53.2.1, z53.2.2)
    else
      (m_pack_Raw p0 z47.2.1 (w64 z47.1)).bind fun (z58 : ByteArray × Int × Int) =>
      if z58.2.2 ≠ 0 then
        (m_record_Get_c1 z58.2.2).bind fun (z64 : GRR × Int × Int) =>
        some (z64.1, z64.2.1, z64.2.2)
      else
        (m_record_shapeOf x14).bind fun x65 =>
        if 0 < x65.fnames then
          (m_record_full p0 z47.2.1 x65).bind fun (z100 : ByteArray × Int × Int) =>
          if z100.2.2 ≠ 0 then
            (m_record_Get_c1 z100.2.2).bind fun (z106 : GRR × Int × Int) =>
            some (z106.1, z106.2.1, z106.2.2)
          else
            if z100.2.1 ≠ z58.2.1 then
              (m_record_Get_c1 10).bind fun (z112 : GRR × Int × Int) =>
              some (z112.1, z112.2.1, z112.2.2)
            else
              m_record_Get_j3 x3 x14 i27 i36 z58.2.1 z100.1
        else
          m_record_Get_j3 x3 x14 i27 i36 z58.2.1 z58.1
noncomputable def m_record_Get_j1 (p0 : ByteArray) (x14 : Int) (x3 : ByteArray) (i25 : Int) (i26 : Int) (i27 : Int) : Option (GRR × Int × Int) :=
  if i26 = 0 then
    (m_pack_Long p0 i25).bind fun (z118 : Int × Int × Int) =>
    m_record_Get_j2 p0 x14 x3 i27 z118.2.1 z118.2.2 z118.1
  else
    m_record_Get_j2 p0 x14 x3 i27 i25 i26 0
noncomputable def m_record_Get (p0 : ByteArray) (p1 : Int) : Option (GRR × Int × Int) :=
  (m_pack_Name p0 p1).bind fun (z7 : ByteArray × Int × Int) =>
  if z7.2.2 ≠ 0 then
    (m_record_Get_c1 z7.2.2).bind fun (z13 : GRR × Int × Int) =>
    some (z13.1, z13.2.1, z13.2.2)
  else
    (m_pack_Word p0 z7.2.1).bind fun (z18 : Int × Int × Int) =>
    if z18.2.2 = 0 then
      (m_pack_Word p0 z18.2.1).bind fun (z124 : Int × Int × Int) =>
      m_record_Get_j1 p0 z18.1 z7.1 z124.2.1 z124.2.2 z124.1
    else
      m_record_Get_j1 p0 z18.1 z7.1 z18.2.1 z18.2.2 0
theorem c_record_Get {w0 : World} {M : Nat → Prop} {H : List (Nat × Nat × Obj)} {R : List (Nat × Row)} {φ : World → Prop} (p0 : ByteArray) (p1 : Int) (r : GRR × Int × Int) (hm : m_record_Get p0 p1 = some r) :
    Cn Try.prog 18 #[.string p0, .int .i64 p1] ⟨w0, M, H, R, φ⟩ (fun x : Unit => .tuple #[.agg #[.string r.1.fName, .int .u16 r.1.fType, .int .u16 r.1.fClass, .int .u32 r.1.fTTL, .string r.1.fData], .int .i64 r.2.1, .int .i64 r.2.2]) (fun x => True) (fun x => ⟨w0, M, H, R, φ⟩) := by
 unfold m_record_Get at hm
 refine cn_intro (fn := Try.f18) (N := 151) Try.func18 rfl Try.ntmps18 rfl <| c_seq <| c_region ?_
 refine g_e rfl (e_alloc 100040 Try.zeroValue27) (fun g1 _ => ?_)
 refine g_v rfl r_assign <| g_v rfl r_assign <| g_nil <| d_then <| c_seq <| c_region ?_
 refine g_e rfl (e_alloc 100070 Try.zeroValue27) (fun g2 _ => ?_)
 refine g_nil <| d_then <| c_seq <| c_region <| g_v rfl r_assign <| g_nil <| d_then <| c_seq <| c_region <| g_v rfl r_move ?_
 refine g_v rfl r_move ?_
 replace hm := bnd hm
 obtain ⟨⟨x3, x4, x5⟩, hx6, hm⟩ := hm
 refine g_cn ⟨w0, M, _, _, φ⟩ (fun _ h => h) Try.call57 rfl rfl (c_pack_Name p0 p1 _ hx6) (fun _ _ => ?_)
 refine g_v rfl r_move <| g_v rfl (r_extract rfl rfl) <| g_v rfl (r_extract rfl rfl) <| g_v rfl (r_extract rfl rfl) <| g_v rfl r_assign <| g_v rfl r_assign <| g_v rfl r_assign <| g_nil <| d_then ?_
 refine c_flat [(0, .string p0), (1, .int .i64 x4), (4, .pointer (some ⟨g1, 0, none⟩)), (7, .pointer (some ⟨g2, 0, none⟩)), (8, .func (.func 56) #[] #[]), (9, .string x3), (10, .int .i64 x5)] ⟨rfl, rfl, rfl, rfl, rfl, rfl, rfl, trivial⟩ (fun u => ?_)
 refine c_sta ⟨w0, M, (100070, g2, .cells #[.string (⟨#[]⟩ : ByteArray), .int .u16 0, .int .u16 0, .int .u32 0, .string (⟨#[]⟩ : ByteArray)] 27 (0, 0)) :: (100040, g1, .cells #[.string (⟨#[]⟩ : ByteArray), .int .u16 0, .int .u16 0, .int .u32 0, .string (⟨#[]⟩ : ByteArray)] 27 (0, 0)) :: H, R, φ⟩ (fun _ h => h) <| c_seq <| c_seq <| c_region <| g_v rfl r_move <| g_v rfl (r_neq rfl rfl) <| g_nil <| d_then ?_
 refine c_cond rfl (fun h8 => ?_) (fun h8 => ?_)
 ·
  replace hm := ite_t hm (of_decide_eq_true h8)
  refine c_seq <| c_region <| g_v rfl r_move <| g_v rfl r_move ?_
  replace hm := bnd hm
  obtain ⟨⟨x9, x10, x11⟩, hx12, hm⟩ := hm
  refine g_cnv ⟨w0, M, _, _, φ⟩ (fun _ h => h) Try.call56 rfl rfl rfl (c_record_Get_c1 x5 _ hx12) (fun _ _ => ?_)
  refine g_v rfl (r_extract rfl rfl) <| g_v rfl (r_extract rfl rfl) <| g_v rfl (r_extract rfl rfl) <| g_storeL (tag := 100040) rfl rfl rfl rfl Try.sizeOf27 rfl rfl <| g_v rfl r_assign <| g_v rfl r_assign <| g_nil <| d_then ?_
  refine c_flat [(4, .pointer (some ⟨g1, 0, none⟩)), (5, .int .i64 x10), (6, .int .i64 x11)] ⟨rfl, rfl, rfl, trivial⟩ (fun u => ?_)
  refine c_sta ⟨w0, M, (100070, g2, .cells #[.string (⟨#[]⟩ : ByteArray), .int .u16 0, .int .u16 0, .int .u32 0, .string (⟨#[]⟩ : ByteArray)] 27 (0, 0)) :: (100040, g1, .cells #[.string x9.fName, .int .u16 x9.fType, .int .u16 x9.fClass, .int .u32 x9.fTTL, .string x9.fData] 27 (0, 0)) :: H, R, φ⟩ (fun _ h => h) <| c_ret <| d_ret_then ?_
  replace hm := Option.some.inj hm
  subst hm
  refine d_retC () Try.results18 ?_ trivial (fun W h => ok_pre (H1 := [_, _]) (R1 := []) h (fun W hφ => hφ)) (.inr rfl)
  refine res_agg (tag := 100040) rfl rfl Try.isAgg27 Try.sizeOf27 <| res_tmp <| res_tmp <| res_nil ?_
  exact rfl
 ·
  replace hm := ite_f hm (of_decide_eq_false h8)
  refine c_skip <| d_then <| c_seq <| c_region <| g_v rfl r_move <| g_v rfl (r_field (n := 0) Try.underlying27 rfl Try.sizeOf9 rfl rfl) <| g_storeL (tag := 100070) rfl rfl rfl rfl Try.sizeOf9 rfl rfl <| g_nil <| d_then <| c_seq ?_
  refine c_region <| g_v rfl r_move <| g_v rfl r_move ?_
  replace hm := bnd hm
  obtain ⟨⟨x14, x15, x16⟩, hx17, hm⟩ := hm
  refine g_cn ⟨w0, M, _, _, φ⟩ (fun _ h => h) Try.call58 rfl rfl (c_pack_Word p0 x4 _ hx17) (fun _ _ => ?_)
  refine g_v rfl r_move <| g_v rfl (r_extract rfl rfl) <| g_v rfl (r_extract rfl rfl) <| g_v rfl (r_extract rfl rfl) <| g_v rfl (r_field (n := 1) Try.underlying27 rfl Try.sizeOf24 rfl rfl) <| g_storeL (tag := 100070) rfl rfl rfl rfl Try.sizeOf24 rfl rfl <| g_v rfl r_assign <| g_v rfl r_assign <| g_nil <| d_then ?_
  refine c_flat [(0, .string p0), (1, .int .i64 x15), (4, .pointer (some ⟨g1, 0, none⟩)), (7, .pointer (some ⟨g2, 0, none⟩)), (8, .func (.func 56) #[] #[]), (10, .int .i64 x16)] ⟨rfl, rfl, rfl, rfl, rfl, rfl, trivial⟩ (fun u => ?_)
  refine c_sta ⟨w0, M, (100070, g2, .cells #[.string x3, .int .u16 x14, .int .u16 0, .int .u32 0, .string (⟨#[]⟩ : ByteArray)] 27 (0, 0)) :: (100040, g1, .cells #[.string (⟨#[]⟩ : ByteArray), .int .u16 0, .int .u16 0, .int .u32 0, .string (⟨#[]⟩ : ByteArray)] 27 (0, 0)) :: H, R, φ⟩ (fun _ h => h) <| c_seq ?_
  refine c_cut (ι := Int × Int × Int) [0, 1, 4, 7, 8, 10] (fun ⟨i25, i26, i27⟩ => [(1, .int .i64 i25), (10, .int .i64 i26)]) (fun ⟨i25, i26, i27⟩ => ⟨w0, M, (100070, g2, .cells #[.string x3, .int .u16 x14, .int .u16 i27, .int .u32 0, .string (⟨#[]⟩ : ByteArray)] 27 (0, 0)) :: (100040, g1, .cells #[.string (⟨#[]⟩ : ByteArray), .int .u16 0, .int .u16 0, .int .u32 0, .string (⟨#[]⟩ : ByteArray)] 27 (0, 0)) :: H, R, φ⟩) (fun ⟨i25, i26, i27⟩ => m_record_Get_j1 p0 x14 x3 i25 i26 i27 = some r) ?_ (fun ⟨i25, i26, i27⟩ u hm => ?_)
  ·
   refine c_seq <| c_region <| g_v rfl r_move <| g_v rfl (r_eql rfl rfl) <| g_nil <| d_then ?_
   refine c_cond rfl (fun h119 => ?_) (fun h119 => ?_)
   ·
    replace hm := ite_t hm (of_decide_eq_true h119)
    refine c_region <| g_v rfl r_move <| g_v rfl r_move ?_
    replace hm := bnd hm
    obtain ⟨⟨x120, x121, x122⟩, hx123, hm⟩ := hm
    refine g_cn ⟨w0, M, _, _, φ⟩ (fun _ h => h) Try.call58 rfl rfl (c_pack_Word p0 x15 _ hx123) (fun _ _ => ?_)
    refine g_v rfl r_move <| g_v rfl (r_extract rfl rfl) <| g_v rfl (r_extract rfl rfl) <| g_v rfl (r_extract rfl rfl) <| g_v rfl (r_field (n := 2) Try.underlying27 rfl Try.sizeOf24 rfl rfl) <| g_storeL (tag := 100070) rfl rfl rfl rfl Try.sizeOf24 rfl rfl <| g_v rfl r_assign <| g_v rfl r_assign <| g_nil ?_
    exact d_round (x121, x122, x120) hm Nat.zero_lt_one ⟨rfl, rfl, rfl, rfl, rfl, rfl, trivial⟩ (fun W h => h.phi (fun W hφ => hφ))
   ·
    replace hm := ite_f hm (of_decide_eq_false h119)
    refine c_skip ?_
    exact d_round (x15, x16, 0) hm Nat.zero_lt_one ⟨rfl, rfl, rfl, rfl, rfl, rfl, trivial⟩ (fun W h => h.phi (fun W hφ => hφ))
  ·
   unfold m_record_Get_j1 at hm
   refine d_flat [(0, .string p0), (1, .int .i64 i25), (4, .pointer (some ⟨g1, 0, none⟩)), (7, .pointer (some ⟨g2, 0, none⟩)), (8, .func (.func 56) #[] #[]), (10, .int .i64 i26)] ⟨rfl, rfl, rfl, rfl, rfl, rfl, trivial⟩ (fun u => ?_)
   refine d_sta ⟨w0, M, (100070, g2, .cells #[.string x3, .int .u16 x14, .int .u16 i27, .int .u32 0, .string (⟨#[]⟩ : ByteArray)] 27 (0, 0)) :: (100040, g1, .cells #[.string (⟨#[]⟩ : ByteArray), .int .u16 0, .int .u16 0, .int .u32 0, .string (⟨#[]⟩ : ByteArray)] 27 (0, 0)) :: H, R, φ⟩ (fun _ h => h) <| d_then <| c_seq ?_
   refine c_cut (ι := Int × Int × Int) [0, 1, 4, 7, 8, 10] (fun ⟨i34, i35, i36⟩ => [(1, .int .i64 i34), (10, .int .i64 i35)]) (fun ⟨i34, i35, i36⟩ => ⟨w0, M, (100070, g2, .cells #[.string x3, .int .u16 x14, .int .u16 i27, .int .u32 i36, .string (⟨#[]⟩ : ByteArray)] 27 (0, 0)) :: (100040, g1, .cells #[.string (⟨#[]⟩ : ByteArray), .int .u16 0, .int .u16 0, .int .u32 0, .string (⟨#[]⟩ : ByteArray)] 27 (0, 0)) :: H, R, φ⟩) (fun ⟨i34, i35, i36⟩ => m_record_Get_j2 p0 x14 x3 i27 i34 i35 i36 = some r) ?_ (fun ⟨i34, i35, i36⟩ u hm => ?_)
   ·
    refine c_seq <| c_region <| g_v rfl r_move <| g_v rfl (r_eql rfl rfl) <| g_nil <| d_then ?_
    refine c_cond rfl (fun h113 => ?_) (fun h113 => ?_)
    ·
     replace hm := ite_t hm (of_decide_eq_true h113)
     refine c_region <| g_v rfl r_move <| g_v rfl r_move ?_
     replace hm := bnd hm
     obtain ⟨⟨x114, x115, x116⟩, hx117, hm⟩ := hm
     refine g_cn ⟨w0, M, _, _, φ⟩ (fun _ h => h) Try.call59 rfl rfl (c_pack_Long p0 i25 _ hx117) (fun _ _ => ?_)
     refine g_v rfl r_move <| g_v rfl (r_extract rfl rfl) <| g_v rfl (r_extract rfl rfl) <| g_v rfl (r_extract rfl rfl) <| g_v rfl (r_field (n := 3) Try.underlying27 rfl Try.sizeOf25 rfl rfl) <| g_storeL (tag := 100070) rfl rfl rfl rfl Try.sizeOf25 rfl rfl <| g_v rfl r_assign <| g_v rfl r_assign <| g_nil ?_
     exact d_round (x115, x116, x114) hm Nat.zero_lt_one ⟨rfl, rfl, rfl, rfl, rfl, rfl, trivial⟩ (fun W h => h.phi (fun W hφ => hφ))
    ·
     replace hm := ite_f hm (of_decide_eq_false h113)
     refine c_skip ?_
     exact d_round (i25, i26, 0) hm Nat.zero_lt_one ⟨rfl, rfl, rfl, rfl, rfl, rfl, trivial⟩ (fun W h => h.phi (fun W hφ => hφ))
   ·
    unfold m_record_Get_j2 at hm
    refine d_flat [(0, .string p0), (1, .int .i64 i34), (4, .pointer (some ⟨g1, 0, none⟩)), (7, .pointer (some ⟨g2, 0, none⟩)), (8, .func (.func 56) #[] #[]), (10, .int .i64 i35)] ⟨rfl, rfl, rfl, rfl, rfl, rfl, trivial⟩ (fun u => ?_)
    refine d_sta ⟨w0, M, (100070, g2, .cells #[.string x3, .int .u16 x14, .int .u16 i27, .int .u32 i36, .string (⟨#[]⟩ : ByteArray)] 27 (0, 0)) :: (100040, g1, .cells #[.string (⟨#[]⟩ : ByteArray), .int .u16 0, .int .u16 0, .int .u32 0, .string (⟨#[]⟩ : ByteArray)] 27 (0, 0)) :: H, R, φ⟩ (fun _ h => h) <| d_then <| c_seq <| c_seq <| c_region <| g_v rfl r_move <| g_v rfl (r_neq rfl rfl) <| g_nil <| d_then ?_
    refine c_cond rfl (fun h37 => ?_) (fun h37 => ?_)
    ·
     replace hm := ite_t hm (of_decide_eq_true h37)
     refine c_seq <| c_region <| g_v rfl r_move <| g_v rfl r_move ?_
     replace hm := bnd hm
     obtain ⟨⟨x38, x39, x40⟩, hx41, hm⟩ := hm
     refine g_cnv ⟨w0, M, _, _, φ⟩ (fun _ h => h) Try.call56 rfl rfl rfl (c_record_Get_c1 i35 _ hx41) (fun _ _ => ?_)
     refine g_v rfl (r_extract rfl rfl) <| g_v rfl (r_extract rfl rfl) <| g_v rfl (r_extract rfl rfl) <| g_storeL (tag := 100040) rfl rfl rfl rfl Try.sizeOf27 rfl rfl <| g_v rfl r_assign <| g_v rfl r_assign <| g_nil <| d_then ?_
     refine c_flat [(4, .pointer (some ⟨g1, 0, none⟩)), (5, .int .i64 x39), (6, .int .i64 x40)] ⟨rfl, rfl, rfl, trivial⟩ (fun u => ?_)
     refine c_sta ⟨w0, M, (100070, g2, .cells #[.string x3, .int .u16 x14, .int .u16 i27, .int .u32 i36, .string (⟨#[]⟩ : ByteArray)] 27 (0, 0)) :: (100040, g1, .cells #[.string x38.fName, .int .u16 x38.fType, .int .u16 x38.fClass, .int .u32 x38.fTTL, .string x38.fData] 27 (0, 0)) :: H, R, φ⟩ (fun _ h => h) <| c_ret <| d_ret_then ?_
     replace hm := Option.some.inj hm
     subst hm
     refine d_retC () Try.results18 ?_ trivial (fun W h => ok_pre (H1 := [_, _]) (R1 := []) h (fun W hφ => hφ)) (.inr rfl)
     refine res_agg (tag := 100040) rfl rfl Try.isAgg27 Try.sizeOf27 <| res_tmp <| res_tmp <| res_nil ?_
     exact rfl
    ·
     replace hm := ite_f hm (of_decide_eq_false h37)
     refine c_skip <| d_then <| c_seq <| c_region <| g_v rfl r_move <| g_v rfl r_move ?_
     replace hm := bnd hm
     obtain ⟨⟨x43, x44, x45⟩, hx46, hm⟩ := hm
     refine g_cn ⟨w0, M, _, _, φ⟩ (fun _ h => h) Try.call58 rfl rfl (c_pack_Word p0 i34 _ hx46) (fun _ _ => ?_)
     refine g_v rfl r_move <| g_v rfl (r_extract rfl rfl) <| g_v rfl (r_extract rfl rfl) <| g_v rfl (r_extract rfl rfl) <| g_v rfl r_assign <| g_v rfl r_assign <| g_v rfl r_assign <| g_nil <| d_then ?_
     refine c_flat [(0, .string p0), (1, .int .i64 x44), (4, .pointer (some ⟨g1, 0, none⟩)), (7, .pointer (some ⟨g2, 0, none⟩)), (8, .func (.func 56) #[] #[]), (10, .int .i64 x45), (11, .int .u16 x43)] ⟨rfl, rfl, rfl, rfl, rfl, rfl, rfl, trivial⟩ (fun u => ?_)
     refine c_seq <| c_seq <| c_region <| g_v rfl r_move <| g_v rfl (r_neq rfl rfl) <| g_nil <| d_then ?_
     refine c_cond rfl (fun h48 => ?_) (fun h48 => ?_)
     ·
      replace hm := ite_t hm (of_decide_eq_true h48)
      refine c_seq <| c_region <| g_v rfl r_move <| g_v rfl r_move ?_
      replace hm := bnd hm
      obtain ⟨⟨x49, x50, x51⟩, hx52, hm⟩ := hm
      refine g_cnv ⟨w0, M, _, _, φ⟩ (fun _ h => h) Try.call56 rfl rfl rfl (c_record_Get_c1 x45 _ hx52) (fun _ _ => ?_)
      refine g_v rfl (r_extract rfl rfl) <| g_v rfl (r_extract rfl rfl) <| g_v rfl (r_extract rfl rfl) <| g_storeL (tag := 100040) rfl rfl rfl rfl Try.sizeOf27 rfl rfl <| g_v rfl r_assign <| g_v rfl r_assign <| g_nil <| d_then ?_
      refine c_flat [(4, .pointer (some ⟨g1, 0, none⟩)), (5, .int .i64 x50), (6, .int .i64 x51)] ⟨rfl, rfl, rfl, trivial⟩ (fun u => ?_)
      refine c_sta ⟨w0, M, (100070, g2, .cells #[.string x3, .int .u16 x14, .int .u16 i27, .int .u32 i36, .string (⟨#[]⟩ : ByteArray)] 27 (0, 0)) :: (100040, g1, .cells #[.string x49.fName, .int .u16 x49.fType, .int .u16 x49.fClass, .int .u32 x49.fTTL, .string x49.fData] 27 (0, 0)) :: H, R, φ⟩ (fun _ h => h) <| c_ret <| d_ret_then ?_
      replace hm := Option.some.inj hm
      subst hm
      refine d_retC () Try.results18 ?_ trivial (fun W h => ok_pre (H1 := [_, _]) (R1 := []) h (fun W hφ => hφ)) (.inr rfl)
      refine res_agg (tag := 100040) rfl rfl Try.isAgg27 Try.sizeOf27 <| res_tmp <| res_tmp <| res_nil ?_
      exact rfl
     ·
      replace hm := ite_f hm (of_decide_eq_false h48)
      refine c_skip <| d_then <| c_seq <| c_region <| g_v rfl r_move <| g_v rfl r_move <| g_v rfl r_move <| g_v rfl (r_conv Try.underlying24 Try.underlying3 rfl rfl) ?_
      replace hm := bnd hm
      obtain ⟨⟨x54, x55, x56⟩, hx57, hm⟩ := hm
      refine g_cn ⟨w0, M, _, _, φ⟩ (fun _ h => h) Try.call60 rfl rfl (c_pack_Raw p0 x44 (w64 x43) _ hx57) (fun _ _ => ?_)
      refine g_v rfl r_move <| g_v rfl (r_extract rfl rfl) <| g_v rfl (r_extract rfl rfl) <| g_v rfl (r_extract rfl rfl) <| g_v rfl r_assign <| g_v rfl r_assign <| g_v rfl r_assign <| g_nil <| d_then ?_
      refine c_flat [(0, .string p0), (1, .int .i64 x44), (4, .pointer (some ⟨g1, 0, none⟩)), (7, .pointer (some ⟨g2, 0, none⟩)), (8, .func (.func 56) #[] #[]), (10, .int .i64 x56), (12, .string x54), (13, .int .i64 x55)] ⟨rfl, rfl, rfl, rfl, rfl, rfl, rfl, rfl, trivial⟩ (fun u => ?_)
      refine c_seq <| c_seq <| c_region <| g_v rfl r_move <| g_v rfl (r_neq rfl rfl) <| g_nil <| d_then ?_
      refine c_cond rfl (fun h59 => ?_) (fun h59 => ?_)
      ·
       replace hm := ite_t hm (of_decide_eq_true h59)
       refine c_seq <| c_region <| g_v rfl r_move <| g_v rfl r_move ?_
       replace hm := bnd hm
       obtain ⟨⟨x60, x61, x62⟩, hx63, hm⟩ := hm
       refine g_cnv ⟨w0, M, _, _, φ⟩ (fun _ h => h) Try.call56 rfl rfl rfl (c_record_Get_c1 x56 _ hx63) (fun _ _ => ?_)
       refine g_v rfl (r_extract rfl rfl) <| g_v rfl (r_extract rfl rfl) <| g_v rfl (r_extract rfl rfl) <| g_storeL (tag := 100040) rfl rfl rfl rfl Try.sizeOf27 rfl rfl <| g_v rfl r_assign <| g_v rfl r_assign <| g_nil <| d_then ?_
       refine c_flat [(4, .pointer (some ⟨g1, 0, none⟩)), (5, .int .i64 x61), (6, .int .i64 x62)] ⟨rfl, rfl, rfl, trivial⟩ (fun u => ?_)
       refine c_sta ⟨w0, M, (100070, g2, .cells #[.string x3, .int .u16 x14, .int .u16 i27, .int .u32 i36, .string (⟨#[]⟩ : ByteArray)] 27 (0, 0)) :: (100040, g1, .cells #[.string x60.fName, .int .u16 x60.fType, .int .u16 x60.fClass, .int .u32 x60.fTTL, .string x60.fData] 27 (0, 0)) :: H, R, φ⟩ (fun _ h => h) <| c_ret <| d_ret_then ?_
       replace hm := Option.some.inj hm
       subst hm
       refine d_retC () Try.results18 ?_ trivial (fun W h => ok_pre (H1 := [_, _]) (R1 := []) h (fun W hφ => hφ)) (.inr rfl)
       refine res_agg (tag := 100040) rfl rfl Try.isAgg27 Try.sizeOf27 <| res_tmp <| res_tmp <| res_nil ?_
       exact rfl
      ·
       replace hm := ite_f hm (of_decide_eq_false h59)
       refine c_skip <| d_then <| c_seq <| c_region <| g_v rfl r_move <| g_v rfl (r_field (n := 4) Try.underlying27 rfl Try.sizeOf9 rfl rfl) <| g_storeL (tag := 100070) rfl rfl rfl rfl Try.sizeOf9 rfl rfl <| g_nil <| d_then <| c_seq ?_
       refine c_region <| g_v rfl (r_field (n := 1) Try.underlying27 rfl Try.sizeOf24 rfl rfl) <| g_v rfl (r_load (tag := 100070) rfl rfl rfl Try.isAgg24) ?_
       replace hm := bnd hm
       obtain ⟨x65, hx66, hm⟩ := hm
       refine g_cn ⟨w0, M, _, _, φ⟩ (fun _ h => h) Try.call61 rfl rfl (c_record_shapeOf x14 _ hx66) (fun _ _ => ?_)
       refine g_e rfl (e_alloc 100140 Try.zeroValue90) (fun g67 _ => ?_)
       refine g_storeL (tag := 100140) rfl rfl rfl rfl Try.sizeOf90 rfl rfl <| g_nil <| d_then ?_
       refine c_flat [(0, .string p0), (1, .int .i64 x44), (4, .pointer (some ⟨g1, 0, none⟩)), (7, .pointer (some ⟨g2, 0, none⟩)), (8, .func (.func 56) #[] #[]), (13, .int .i64 x55), (14, .pointer (some ⟨g67, 0, none⟩))] ⟨rfl, rfl, rfl, rfl, rfl, rfl, rfl, trivial⟩ (fun u => ?_)
       refine c_sta ⟨w0, M, (100140, g67, .cells #[.int .i64 x65.fahead, .int .i64 x65.fnames, .int .i64 x65.fbehind] 90 (0, 0)) :: (100070, g2, .cells #[.string x3, .int .u16 x14, .int .u16 i27, .int .u32 i36, .string x54] 27 (0, 0)) :: (100040, g1, .cells #[.string (⟨#[]⟩ : ByteArray), .int .u16 0, .int .u16 0, .int .u32 0, .string (⟨#[]⟩ : ByteArray)] 27 (0, 0)) :: H, R, φ⟩ (fun _ h => h) <| c_seq ?_
       refine c_cut (ι := ByteArray) [4, 7, 8, 13] (fun s86 => []) (fun s86 => ⟨w0, M, (100070, g2, .cells #[.string x3, .int .u16 x14, .int .u16 i27, .int .u32 i36, .string s86] 27 (0, 0)) :: (100040, g1, .cells #[.string (⟨#[]⟩ : ByteArray), .int .u16 0, .int .u16 0, .int .u32 0, .string (⟨#[]⟩ : ByteArray)] 27 (0, 0)) :: H, R, φ⟩) (fun s86 => m_record_Get_j3 x3 x14 i27 i36 x55 s86 = some r) ?_ (fun s86 u hm => ?_)
       ·
        refine c_seq <| c_region <| g_v rfl (r_field (n := 1) Try.underlying90 rfl Try.sizeOf3 rfl rfl) <| g_v rfl (r_load (tag := 100140) rfl rfl rfl Try.isAgg3) <| g_v rfl (r_gtr rfl rfl) <| g_nil <| d_then ?_
        refine c_cond rfl (fun h95 => ?_) (fun h95 => ?_)
        ·
         replace hm := ite_t hm (of_decide_eq_true h95)
         refine c_seq <| c_region <| g_v rfl r_move <| g_v rfl r_move <| g_v rfl (r_loadA (tag := 100140) rfl rfl Try.isAgg90 Try.sizeOf90 rfl rfl) ?_
         replace hm := bnd hm
         obtain ⟨⟨x96, x97, x98⟩, hx99, hm⟩ := hm
         refine g_cn ⟨w0, M, _, _, φ⟩ (fun _ h => h) Try.call62 rfl rfl (c_record_full p0 x44 x65 _ hx99) (fun _ _ => ?_)
         refine g_v rfl r_move <| g_v rfl (r_extract rfl rfl) <| g_v rfl (r_extract rfl rfl) <| g_v rfl (r_extract rfl rfl) <| g_v rfl r_assign <| g_v rfl r_assign <| g_v rfl r_assign <| g_nil <| d_then ?_
         refine c_flat [(4, .pointer (some ⟨g1, 0, none⟩)), (7, .pointer (some ⟨g2, 0, none⟩)), (8, .func (.func 56) #[] #[]), (13, .int .i64 x55), (15, .string x96), (16, .int .i64 x97), (17, .int .i64 x98)] ⟨rfl, rfl, rfl, rfl, rfl, rfl, rfl, trivial⟩ (fun u => ?_)
         refine c_seq <| c_block <| c_seq <| c_region <| g_v rfl r_move <| g_v rfl (r_neq rfl rfl) <| g_v rfl r_assign <| g_nil <| d_then ?_
         refine c_cond rfl (fun h101 => ?_) (fun h101 => ?_)
         ·
          replace hm := ite_t hm (of_decide_eq_true h101)
          refine c_seq <| c_region <| g_v rfl r_move <| g_v rfl r_move ?_
          replace hm := bnd hm
          obtain ⟨⟨x102, x103, x104⟩, hx105, hm⟩ := hm
          refine g_cnv ⟨w0, M, _, _, φ⟩ (fun _ h => h) Try.call56 rfl rfl rfl (c_record_Get_c1 x98 _ hx105) (fun _ _ => ?_)
          refine g_v rfl (r_extract rfl rfl) <| g_v rfl (r_extract rfl rfl) <| g_v rfl (r_extract rfl rfl) <| g_storeL (tag := 100040) rfl rfl rfl rfl Try.sizeOf27 rfl rfl <| g_v rfl r_assign <| g_v rfl r_assign <| g_nil <| d_then ?_
          refine c_flat [(4, .pointer (some ⟨g1, 0, none⟩)), (5, .int .i64 x103), (6, .int .i64 x104)] ⟨rfl, rfl, rfl, trivial⟩ (fun u => ?_)
          refine c_sta ⟨w0, M, (100140, g67, .cells #[.int .i64 x65.fahead, .int .i64 x65.fnames, .int .i64 x65.fbehind] 90 (0, 0)) :: (100070, g2, .cells #[.string x3, .int .u16 x14, .int .u16 i27, .int .u32 i36, .string x54] 27 (0, 0)) :: (100040, g1, .cells #[.string x102.fName, .int .u16 x102.fType, .int .u16 x102.fClass, .int .u32 x102.fTTL, .string x102.fData] 27 (0, 0)) :: H, R, φ⟩ (fun _ h => h) <| c_ret <| d_ret_block <| d_ret_then <| d_ret_then <| d_ret_then ?_
          replace hm := Option.some.inj hm
          subst hm
          refine d_retC () Try.results18 ?_ trivial (fun W h => ok_pre (H1 := [_, _, _]) (R1 := []) h (fun W hφ => hφ)) (.inr rfl)
          refine res_agg (tag := 100040) rfl rfl Try.isAgg27 Try.sizeOf27 <| res_tmp <| res_tmp <| res_nil ?_
          exact rfl
         ·
          replace hm := ite_f hm (of_decide_eq_false h101)
          refine c_seq <| c_region <| g_v rfl r_move <| g_v rfl r_move <| g_v rfl (r_neq rfl rfl) <| g_v rfl r_assign <| g_nil <| d_then ?_
          refine c_cond rfl (fun h107 => ?_) (fun h107 => ?_)
          ·
           replace hm := ite_t hm (of_decide_eq_true h107)
           refine c_seq <| c_region <| g_v rfl r_move ?_
           replace hm := bnd hm
           obtain ⟨⟨x108, x109, x110⟩, hx111, hm⟩ := hm
           refine g_cnv ⟨w0, M, _, _, φ⟩ (fun _ h => h) Try.call56 rfl rfl rfl (c_record_Get_c1 10 _ hx111) (fun _ _ => ?_)
           refine g_v rfl (r_extract rfl rfl) <| g_v rfl (r_extract rfl rfl) <| g_v rfl (r_extract rfl rfl) <| g_storeL (tag := 100040) rfl rfl rfl rfl Try.sizeOf27 rfl rfl <| g_v rfl r_assign <| g_v rfl r_assign <| g_nil <| d_then ?_
           refine c_flat [(4, .pointer (some ⟨g1, 0, none⟩)), (5, .int .i64 x109), (6, .int .i64 x110)] ⟨rfl, rfl, rfl, trivial⟩ (fun u => ?_)
           refine c_sta ⟨w0, M, (100140, g67, .cells #[.int .i64 x65.fahead, .int .i64 x65.fnames, .int .i64 x65.fbehind] 90 (0, 0)) :: (100070, g2, .cells #[.string x3, .int .u16 x14, .int .u16 i27, .int .u32 i36, .string x54] 27 (0, 0)) :: (100040, g1, .cells #[.string x108.fName, .int .u16 x108.fType, .int .u16 x108.fClass, .int .u32 x108.fTTL, .string x108.fData] 27 (0, 0)) :: H, R, φ⟩ (fun _ h => h) <| c_ret <| d_ret_block <| d_ret_then <| d_ret_then <| d_ret_then ?_
           replace hm := Option.some.inj hm
           subst hm
           refine d_retC () Try.results18 ?_ trivial (fun W h => ok_pre (H1 := [_, _, _]) (R1 := []) h (fun W hφ => hφ)) (.inr rfl)
           refine res_agg (tag := 100040) rfl rfl Try.isAgg27 Try.sizeOf27 <| res_tmp <| res_tmp <| res_nil ?_
           exact rfl
          ·
           replace hm := ite_f hm (of_decide_eq_false h107)
           refine c_skip <| d_normal_block <| d_then <| c_region <| g_v rfl r_move <| g_v rfl (r_field (n := 4) Try.underlying27 rfl Try.sizeOf9 rfl rfl) <| g_storeL (tag := 100070) rfl rfl rfl rfl Try.sizeOf9 rfl rfl <| g_nil ?_
           exact d_round x96 hm Nat.zero_lt_one ⟨rfl, rfl, rfl, rfl, trivial⟩ (fun W h => (h.dropH (t := 100140) rfl).phi (fun W hφ => hφ))
        ·
         replace hm := ite_f hm (of_decide_eq_false h95)
         refine c_skip ?_
         exact d_round x54 hm Nat.zero_lt_one ⟨rfl, rfl, rfl, rfl, trivial⟩ (fun W h => (h.dropH (t := 100140) rfl).phi (fun W hφ => hφ))
       ·
        unfold m_record_Get_j3 at hm
        refine d_flat [(4, .pointer (some ⟨g1, 0, none⟩)), (7, .pointer (some ⟨g2, 0, none⟩)), (8, .func (.func 56) #[] #[]), (13, .int .i64 x55)] ⟨rfl, rfl, rfl, rfl, trivial⟩ (fun u => ?_)
        refine d_sta ⟨w0, M, (100070, g2, .cells #[.string x3, .int .u16 x14, .int .u16 i27, .int .u32 i36, .string s86] 27 (0, 0)) :: (100040, g1, .cells #[.string (⟨#[]⟩ : ByteArray), .int .u16 0, .int .u16 0, .int .u32 0, .string (⟨#[]⟩ : ByteArray)] 27 (0, 0)) :: H, R, φ⟩ (fun _ h => h) <| d_then <| c_seq <| c_region <| g_v rfl (r_loadA (tag := 100070) rfl rfl Try.isAgg27 Try.sizeOf27 rfl rfl) ?_
        replace hm := bnd hm
        obtain ⟨x87, hx88, hm⟩ := hm
        refine g_cn ⟨w0, M, _, _, φ⟩ (fun _ h => h) Try.call31 rfl rfl (c_record_Check (⟨x3, x14, i27, i36, s86⟩ : GRR) _ hx88) (fun _ _ => ?_)
        refine g_v rfl r_assign <| g_nil <| d_then <| c_seq <| c_seq <| c_region <| g_v rfl r_move <| g_v rfl (r_neq rfl rfl) <| g_nil <| d_then ?_
        refine c_cond rfl (fun h89 => ?_) (fun h89 => ?_)
        ·
         replace hm := ite_t hm (of_decide_eq_true h89)
         refine c_seq <| c_region <| g_v rfl r_move <| g_v rfl r_move ?_
         replace hm := bnd hm
         obtain ⟨⟨x90, x91, x92⟩, hx93, hm⟩ := hm
         refine g_cnv ⟨w0, M, _, _, φ⟩ (fun _ h => h) Try.call56 rfl rfl rfl (c_record_Get_c1 x87 _ hx93) (fun _ _ => ?_)
         refine g_v rfl (r_extract rfl rfl) <| g_v rfl (r_extract rfl rfl) <| g_v rfl (r_extract rfl rfl) <| g_storeL (tag := 100040) rfl rfl rfl rfl Try.sizeOf27 rfl rfl <| g_v rfl r_assign <| g_v rfl r_assign <| g_nil <| d_then ?_
         refine c_flat [(4, .pointer (some ⟨g1, 0, none⟩)), (5, .int .i64 x91), (6, .int .i64 x92)] ⟨rfl, rfl, rfl, trivial⟩ (fun u => ?_)
         refine c_sta ⟨w0, M, (100070, g2, .cells #[.string x3, .int .u16 x14, .int .u16 i27, .int .u32 i36, .string s86] 27 (0, 0)) :: (100040, g1, .cells #[.string x90.fName, .int .u16 x90.fType, .int .u16 x90.fClass, .int .u32 x90.fTTL, .string x90.fData] 27 (0, 0)) :: H, R, φ⟩ (fun _ h => h) <| c_ret <| d_ret_then ?_
         replace hm := Option.some.inj hm
         subst hm
         refine d_retC () Try.results18 ?_ trivial (fun W h => ok_pre (H1 := [_, _]) (R1 := []) h (fun W hφ => hφ)) (.inr rfl)
         refine res_agg (tag := 100040) rfl rfl Try.isAgg27 Try.sizeOf27 <| res_tmp <| res_tmp <| res_nil ?_
         exact rfl
        ·
         replace hm := ite_f hm (of_decide_eq_false h89)
         refine c_skip <| d_then <| c_seq <| c_region <| g_v rfl (r_loadA (tag := 100070) rfl rfl Try.isAgg27 Try.sizeOf27 rfl rfl) <| g_v rfl r_move <| g_storeL (tag := 100040) rfl rfl rfl rfl Try.sizeOf27 rfl rfl <| g_v rfl r_assign <| g_v rfl r_assign <| g_nil ?_
         refine d_then ?_
         refine c_flat [(4, .pointer (some ⟨g1, 0, none⟩)), (5, .int .i64 x55), (6, .int .i64 0)] ⟨rfl, rfl, rfl, trivial⟩ (fun u => ?_)
         refine c_sta ⟨w0, M, (100070, g2, .cells #[.string x3, .int .u16 x14, .int .u16 i27, .int .u32 i36, .string s86] 27 (0, 0)) :: (100040, g1, .cells #[.string x3, .int .u16 x14, .int .u16 i27, .int .u32 i36, .string s86] 27 (0, 0)) :: H, R, φ⟩ (fun _ h => h) <| c_ret ?_
         replace hm := Option.some.inj hm
         subst hm
         refine d_retC () Try.results18 ?_ trivial (fun W h => ok_pre (H1 := [_, _]) (R1 := []) h (fun W hφ => hφ)) (.inr rfl)
         refine res_agg (tag := 100040) rfl rfl Try.isAgg27 Try.sizeOf27 <| res_tmp <| res_tmp <| res_nil ?_
         exact rfl
theorem lit27_22 (z0 : ByteArray) (z1 : Int) (z2 : Int) (z3 : Int) (z4 : ByteArray) : Try.prog.builtSlice 27 1 [(0, .agg #[.string z0, .int .u16 z1, .int .u16 z2, .int .u32 z3, .string z4])] = some #[.string z0, .int .u16 z1, .int .u16 z2, .int .u32 z3, .string z4] := by kernel_rfl
theorem inf27_23  : (Try.prog.info? 27).map (fun i => (i.zero, i.size, i.bytes)) = some (some (.agg #[.string (⟨#[]⟩ : ByteArray), .int .u16 0, .int .u16 0, .int .u32 0, .string (⟨#[]⟩ : ByteArray)]), 5, 40) := by kernel_rfl
noncomputable def m_message_many_91_j1  (l95 : List GRR) (i98 : Int) : Option ((List GRR) × Int × Int) :=
  some (l95, i98, 0)
noncomputable def m_message_many_91_s2 (p2 : Int) (p0 : ByteArray) (l116 : List GRR) (i119 : Int) (i120 : Int) : Option (((List GRR) × Int × Int) ⊕ (((List GRR) × Int) ⊕ ((List GRR) × Int × Int))) :=
  if i120 < p2 then
    (m_record_Get p0 i119).bind fun (z144 : GRR × Int × Int) =>
    if z144.2.2 ≠ 0 then
      some (.inr (.inr (([] : List GRR), 0, z144.2.2)))
    else
      (app 40 l116 [z144.1]).bind fun l148 =>
      some (.inl (l148, z144.2.1, IntKind.u16.wrap (i120 + 1)))
  else
    some (.inr (.inl (l116, i119)))
noncomputable def m_message_many_91 (p0 : ByteArray) (p1 : Int) (p2 : Int) : Option ((List GRR) × Int × Int) :=
  (loop (fun s => m_message_many_91_s2 p2 p0 s.1 s.2.1 s.2.2) (([] : List GRR), p1, 0)).bind fun e => Sum.elim (fun e => m_message_many_91_j1 e.1 e.2) (fun x => some x) e
theorem c_message_many_91 {w0 : World} {M : Nat → Prop} {H : List (Nat × Nat × Obj)} {R : List (Nat × Row)} {φ : World → Prop} (p0 : ByteArray) (p1 : Int) (p2 : Int) (r : (List GRR) × Int × Int) (hm : m_message_many_91 p0 p1 p2 = some r) :
    Cn Try.prog 91 #[.string p0, .int .i64 p1, .int .u16 p2, .func (.func 18) #[] #[]] ⟨w0, M, H, R, φ⟩ (fun x : Option Addr × Nat => .tuple #[.slice x.1 r.1.length x.2, .int .i64 r.2.1, .int .i64 r.2.2]) (fun x => r.1.length ≤ x.2) (fun x => ⟨w0, M, H, (2000, ⟨.slice x.1 r.1.length x.2, 27, 5, r.1.length, r.1.flatMap GRR.enc⟩) :: R, φ⟩) := by
 unfold m_message_many_91 at hm
 refine cn_intro (fn := Try.f91) (N := 37) Try.func91 rfl Try.ntmps91 rfl <| c_seq <| c_region <| g_v rfl r_assign <| g_v rfl r_assign <| g_v rfl r_assign <| g_nil <| d_then <| c_seq <| c_region ?_
 refine g_v rfl r_assign <| g_nil <| d_then <| c_seq <| c_seq <| c_region <| g_v rfl r_move <| g_v rfl r_move <| g_nil <| d_then ?_
 refine c_sta _ (fun W h => nilR h 16 27 5) ?_
 refine c_cut (ι := (List GRR) × Int × Option Addr × Nat) [1, 11] (fun ⟨l95, i98, A96, c97⟩ => [(1, .int .i64 i98), (11, .slice A96 l95.length c97)]) (fun ⟨l95, i98, A96, c97⟩ => ⟨w0, M, H, (16, ⟨.slice A96 l95.length c97, 27, 5, l95.length, l95.flatMap GRR.enc⟩) :: R, φ⟩) (fun ⟨l95, i98, A96, c97⟩ => m_message_many_91_j1 l95 i98 = some r ∧ l95.length ≤ c97) ?_ (fun ⟨l95, i98, A96, c97⟩ u ⟨hm, hc97⟩ => ?_)
 ·
  refine c_block ?_
  replace hm := bnd hm
  obtain ⟨out2, hl2, hr2⟩ := hm
  obtain ⟨n138', hl2⟩ := loop_lp hl2
  refine c_loopU (ι := Nat × (List GRR) × Int × Int × Option Addr × Nat) [0, 1, 3, 11, 15, 16] (fun ⟨n138, l116, i119, i120, A117, c118⟩ => [(1, .int .i64 i119), (11, .slice A117 l116.length c118), (16, .int .u16 i120)]) (fun ⟨n138, l116, i119, i120, A117, c118⟩ => ⟨w0, M, H, (16, ⟨.slice A117 l116.length c118, 27, 5, l116.length, l116.flatMap GRR.enc⟩) :: R, φ⟩) (fun ⟨n138, l116, i119, i120, A117, c118⟩ => Lp (fun s => m_message_many_91_s2 p2 p0 s.1 s.2.1 s.2.2) n138 (l116, i119, i120) out2 ∧ l116.length ≤ c118) (fun ⟨n138, l116, i119, i120, A117, c118⟩ => n138) (n138', ([] : List GRR), p1, 0, none, 0) ⟨hl2, (Nat.le_refl 0)⟩ ⟨rfl, rfl, rfl, rfl, rfl, rfl, trivial⟩ (fun W h => h.phi (fun W hφ => hφ)) (fun ⟨n138, l116, i119, i120, A117, c118⟩ u ⟨hlp, hc118⟩ => ?_)
  obtain ⟨o2, hm, hnx2⟩ := lp_step hlp
  clear hlp
  replace hm : m_message_many_91_s2 p2 p0 l116 i119 i120 = some o2 := hm
  unfold m_message_many_91_s2 at hm
  refine c_flat [(0, .string p0), (1, .int .i64 i119), (3, .func (.func 18) #[] #[]), (11, .slice A117 l116.length c118), (15, .int .u16 p2), (16, .int .u16 i120)] ⟨rfl, rfl, rfl, rfl, rfl, rfl, trivial⟩ (fun u => ?_)
  refine c_sta ⟨w0, M, H, (16, ⟨.slice A117 l116.length c118, 27, 5, l116.length, l116.flatMap GRR.enc⟩) :: R, φ⟩ (fun _ h => h) <| c_seq <| c_region <| g_v rfl (r_lss rfl rfl) <| g_nil <| d_then <| c_seq ?_
  refine c_cond rfl (fun h139 => ?_) (fun h139 => ?_)
  ·
   replace hm := ite_t hm (of_decide_eq_true h139)
   refine c_skip <| d_then <| c_seq <| c_block <| c_seq <| c_region <| g_v rfl r_move <| g_v rfl r_move <| g_v rfl r_move ?_
   replace hm := bnd hm
   obtain ⟨⟨x140, x141, x142⟩, hx143, hm⟩ := hm
   refine g_cnv ⟨w0, M, _, _, φ⟩ (fun _ h => h) Try.call18 rfl rfl rfl (c_record_Get p0 i119 _ hx143) (fun _ _ => ?_)
   refine g_v rfl r_move <| g_v rfl (r_extract rfl rfl) <| g_v rfl (r_extract rfl rfl) <| g_v rfl (r_extract rfl rfl) ?_
   refine g_e rfl (e_alloc 100120 Try.zeroValue27) (fun g145 _ => ?_)
   refine g_storeL (tag := 100120) rfl rfl rfl rfl Try.sizeOf27 rfl rfl <| g_v rfl r_assign <| g_v rfl r_assign <| g_nil <| d_then ?_
   refine c_flat [(0, .string p0), (3, .func (.func 18) #[] #[]), (11, .slice A117 l116.length c118), (12, .pointer (some ⟨g145, 0, none⟩)), (13, .int .i64 x141), (14, .int .i64 x142), (15, .int .u16 p2), (16, .int .u16 i120)] ⟨rfl, rfl, rfl, rfl, rfl, rfl, rfl, rfl, trivial⟩ (fun u => ?_)
   refine c_sta ⟨w0, M, (100120, g145, .cells #[.string x140.fName, .int .u16 x140.fType, .int .u16 x140.fClass, .int .u32 x140.fTTL, .string x140.fData] 27 (0, 0)) :: H, (16, ⟨.slice A117 l116.length c118, 27, 5, l116.length, l116.flatMap GRR.enc⟩) :: R, φ⟩ (fun _ h => h) <| c_seq <| c_seq <| c_region <| g_v rfl r_move <| g_v rfl (r_neq rfl rfl) <| g_nil <| d_then ?_
   refine c_cond rfl (fun h146 => ?_) (fun h146 => ?_)
   ·
    replace hm := ite_t hm (of_decide_eq_true h146)
    refine c_seq <| c_region <| g_v rfl r_move <| g_v rfl r_assign <| g_v rfl r_assign <| g_v rfl r_assign <| g_nil <| d_then <| c_ret <| d_ret_then ?_
    refine d_ret_block <| d_ret_then <| d_ret_then <| d_ret_block <| d_ret_then <| d_ret_then ?_
    replace hm := nx_out (C := (fun e => Sum.elim (fun e => m_message_many_91_j1 e.1 e.2) (fun x => some x) e = some r)) hm hnx2 hr2
    replace hm : some (([] : List GRR), 0, x142) = some r := hm
    replace hm := Option.some.inj hm
    subst hm
    refine d_sta _ (fun W h => nilR h 21 27 5) <| d_sta _ (fun W h => ok_frontR (t := 21) (t' := 2000) h rfl) ?_
    refine d_retC (none, 0) Try.results91 ?_ (Nat.le_refl 0) (fun W h => ((h.dropR (t := 16) rfl).dropH (t := 100120) rfl).phi (fun W hφ => hφ)) (.inr rfl)
    refine res_tmp <| res_tmp <| res_tmp <| res_nil ?_
    exact rfl
   ·
    replace hm := ite_f hm (of_decide_eq_false h146)
    refine c_skip <| d_then <| c_region <| g_v rfl r_move <| g_v rfl (r_loadA (tag := 100120) rfl rfl Try.isAgg27 Try.sizeOf27 rfl rfl) ?_
    refine g_e rfl (e_lit (tag := 100310) (l := [x140]) (enc := GRR.enc) (sz := 5) rfl Try.underlying32 (lit27_22 _ _ _ _ _) rfl rfl (fun _ => rfl)) (fun g147 _ => ?_)
    replace hm := bnd hm
    obtain ⟨l148, hl148, hm⟩ := hm
    refine g_e rfl (e_appR (enc := GRR.enc) (l := l116) (l1 := [x140]) (l2 := l148) (tag := 16) Try.underlying32 inf27_23 rfl (by decide) (by decide) (fun _ => rfl) (fun _ => rfl) rfl hc118 rfl rfl (fun W hS => rowCl (tag := 100310) rfl W hS) hl148) (fun ⟨A149, c150⟩ hc150 => ?_)
    refine g_v rfl r_move <| g_v rfl r_assign <| g_v rfl r_assign <| g_nil <| d_normal_block <| d_then ?_
    refine c_flat [(0, .string p0), (1, .int .i64 x141), (3, .func (.func 18) #[] #[]), (11, .slice A149 l148.length c150), (15, .int .u16 p2), (16, .int .u16 i120)] ⟨rfl, rfl, rfl, rfl, rfl, rfl, trivial⟩ (fun u => ?_)
    refine c_sta ⟨w0, M, (100120, g145, .cells #[.string x140.fName, .int .u16 x140.fType, .int .u16 x140.fClass, .int .u32 x140.fTTL, .string x140.fData] 27 (0, 0)) :: H, (100310, ⟨.slice (some ⟨g147, 0, none⟩) [x140].length 1, 27, 5, [x140].length, [x140].flatMap GRR.enc⟩) :: (16, ⟨.slice A149 l148.length c150, 27, 5, l148.length, l148.flatMap GRR.enc⟩) :: R, φ⟩ (fun _ h => h) <| c_region <| g_v rfl (r_add rfl rfl rfl) <| g_v rfl r_move <| g_nil ?_
    obtain ⟨n151, hn151, hlp⟩ := nx_inl hm hnx2
    exact d_round (n151, l148, x141, IntKind.u16.wrap (i120 + 1), A149, c150) ⟨hlp, hc150⟩ hn151 ⟨rfl, rfl, rfl, rfl, rfl, rfl, trivial⟩ (fun W h => ((h.dropR (t := 100310) rfl).dropH (t := 100120) rfl).phi (fun W hφ => hφ))
  ·
   replace hm := ite_f hm (of_decide_eq_false h139)
   refine c_exit <| d_exit_then <| d_exit_then <| d_exit_block ?_
   replace hm := nx_out (C := (fun e => Sum.elim (fun e => m_message_many_91_j1 e.1 e.2) (fun x => some x) e = some r)) hm hnx2 hr2
   exact d_round (l116, i119, A117, c118) ⟨hm, hc118⟩ Nat.zero_lt_one ⟨rfl, rfl, trivial⟩ (fun W h => h.phi (fun W hφ => hφ))
 ·
  unfold m_message_many_91_j1 at hm
  refine d_flat [(1, .int .i64 i98), (11, .slice A96 l95.length c97)] ⟨rfl, rfl, trivial⟩ (fun u => ?_)
  refine d_sta ⟨w0, M, H, (16, ⟨.slice A96 l95.length c97, 27, 5, l95.length, l95.flatMap GRR.enc⟩) :: R, φ⟩ (fun _ h => h) <| d_then <| c_seq <| c_region <| g_v rfl r_move <| g_v rfl r_move <| g_v rfl r_assign <| g_v rfl r_assign <| g_v rfl r_assign <| g_nil ?_
  refine d_then <| c_ret ?_
  replace hm := Option.some.inj hm
  subst hm
  refine d_sta _ (fun W h => ok_frontR (t := 16) (t' := 2000) h rfl) ?_
  refine d_retC (A96, c97) Try.results91 ?_ hc97 (fun W h => h.phi (fun W hφ => hφ)) (.inr rfl)
  refine res_tmp <| res_tmp <| res_tmp <| res_nil ?_
  exact rfl
noncomputable def m_message_Read_j3 (p0 : ByteArray) (x4 : GMessage) (x45 : List GQuestion) (l86 : List GRR) (l124 : List GRR) (i160 : Int) (i161 : Int) (l162 : List GRR) : Option (GMessage × Int) :=
  if i160 ≠ 0 then
    some ((⟨0, false, false, false, false, false, 0, 0, ([] : List GQuestion), ([] : List GRR), ([] : List GRR), ([] : List GRR)⟩ : GMessage), i160)
  else
    if i161 ≠ (p0.size : Int) then
      some ((⟨0, false, false, false, false, false, 0, 0, ([] : List GQuestion), ([] : List GRR), ([] : List GRR), ([] : List GRR)⟩ : GMessage), 10)
    else
      some ((⟨x4.fID, x4.fResponse, x4.fAuthoritative, x4.fTruncated, x4.fDesired, x4.fAvailable, x4.fOpcode, x4.fCode, x45, l86, l124, l162⟩ : GMessage), 0)
noncomputable def m_message_Read_j2 (p0 : ByteArray) (x4 : GMessage) (x45 : List GQuestion) (l86 : List GRR) (i122 : Int) (i123 : Int) (l124 : List GRR) : Option (GMessage × Int) :=
  if i122 = 0 then
    (m_message_Read_c1 3 p0).bind fun x192 =>
    (m_message_many_91 p0 i123 x192).bind fun (z201 : (List GRR) × Int × Int) =>
    m_message_Read_j3 p0 x4 x45 l86 l124 z201.2.2 z201.2.1 z201.1
  else
    m_message_Read_j3 p0 x4 x45 l86 l124 i122 i123 x4.fExtras
noncomputable def m_message_Read_j1 (p0 : ByteArray) (x4 : GMessage) (x45 : List GQuestion) (i84 : Int) (i85 : Int) (l86 : List GRR) : Option (GMessage × Int) :=
  if i84 = 0 then
    (m_message_Read_c1 2 p0).bind fun x225 =>
    (m_message_many_91 p0 i85 x225).bind fun (z234 : (List GRR) × Int × Int) =>
    m_message_Read_j2 p0 x4 x45 l86 z234.2.2 z234.2.1 z234.1
  else
    m_message_Read_j2 p0 x4 x45 l86 i84 i85 x4.fAuthorities
noncomputable def m_message_Read (p0 : ByteArray) : Option (GMessage × Int) :=
  if 4096 < (p0.size : Int) then
    some ((⟨0, false, false, false, false, false, 0, 0, ([] : List GQuestion), ([] : List GRR), ([] : List GRR), ([] : List GRR)⟩ : GMessage), 11)
  else
    (m_message_Head p0).bind fun (z20 : GMessage × Int) =>
    if z20.2 ≠ 0 then
      some ((⟨0, false, false, false, false, false, 0, 0, ([] : List GQuestion), ([] : List GRR), ([] : List GRR), ([] : List GRR)⟩ : GMessage), z20.2)
    else
      (m_message_Read_c1 0 p0).bind fun x43 =>
      (m_message_many_89 p0 12 x43).bind fun (z52 : (List GQuestion) × Int × Int) =>
      if z52.2.2 = 0 then
        (m_message_Read_c1 1 p0).bind fun x258 =>
        (m_message_many_91 p0 z52.2.1 x258).bind fun (z267 : (List GRR) × Int × Int) =>
        m_message_Read_j1 p0 z20.1 z52.1 z267.2.2 z267.2.1 z267.1
      else
        m_message_Read_j1 p0 z20.1 z52.1 z52.2.2 z52.2.1 z20.1.fAnswers
theorem c_message_Read {w0 : World} {M : Nat → Prop} {H : List (Nat × Nat × Obj)} {R : List (Nat × Row)} {φ : World → Prop} (p0 : ByteArray) (r : GMessage × Int) (hm : m_message_Read p0 = some r) :
    Cn Try.prog 43 #[.string p0] ⟨w0, M, H, R, φ⟩ (fun x : Option Addr × Nat × Option Addr × Nat × Option Addr × Nat × Option Addr × Nat => .tuple #[.agg #[.int .u16 r.1.fID, .bool r.1.fResponse, .bool r.1.fAuthoritative, .bool r.1.fTruncated, .bool r.1.fDesired, .bool r.1.fAvailable, .int .i64 r.1.fOpcode, .int .i64 r.1.fCode, .slice x.1 r.1.fQuestions.length x.2.1, .slice x.2.2.1 r.1.fAnswers.length x.2.2.2.1, .slice x.2.2.2.2.1 r.1.fAuthorities.length x.2.2.2.2.2.1, .slice x.2.2.2.2.2.2.1 r.1.fExtras.length x.2.2.2.2.2.2.2], .int .i64 r.2]) (fun x => r.1.fQuestions.length ≤ x.2.1 ∧ r.1.fAnswers.length ≤ x.2.2.2.1 ∧ r.1.fAuthorities.length ≤ x.2.2.2.2.2.1 ∧ r.1.fExtras.length ≤ x.2.2.2.2.2.2.2) (fun x => ⟨w0, M, H, R, fun W => φ W ∧ Cl W x.1 (r.1.fQuestions.flatMap GQuestion.enc) ∧ Cl W x.2.2.1 (r.1.fAnswers.flatMap GRR.enc) ∧ Cl W x.2.2.2.2.1 (r.1.fAuthorities.flatMap GRR.enc) ∧ Cl W x.2.2.2.2.2.2.1 (r.1.fExtras.flatMap GRR.enc)⟩) := by
 unfold m_message_Read at hm
 refine cn_intro (fn := Try.f43) (N := 70) Try.func43 rfl Try.ntmps43 rfl <| c_seq <| c_region ?_
 refine g_e rfl (e_box 100010 rfl) (fun g1 _ => ?_)
 refine g_e rfl (e_alloc 100020 Try.zeroValue62) (fun g2 _ => ?_)
 refine g_v rfl r_assign <| g_nil <| d_then <| c_seq <| c_seq <| c_region <| g_v rfl (r_load (tag := 100010) rfl rfl rfl Try.isAgg9) <| g_v rfl (r_len Try.underlying9 rfl) <| g_v rfl (r_gtr rfl rfl) <| g_nil ?_
 refine d_then ?_
 refine c_cond rfl (fun h3 => ?_) (fun h3 => ?_)
 ·
  replace hm := ite_t hm (of_decide_eq_true h3)
  refine c_seq <| c_region <| g_v rfl (r_build _ rfl (bld62_16)) <| g_storeL (tag := 100020) rfl rfl rfl rfl Try.sizeOf62 rfl rfl <| g_v rfl r_assign <| g_nil <| d_then ?_
  refine c_flat [(2, .pointer (some ⟨g2, 0, none⟩)), (3, .int .i64 11)] ⟨rfl, rfl, trivial⟩ (fun u => ?_)
  refine c_sta ⟨w0, M, (100020, g2, .cells #[.int .u16 0, .bool false, .bool false, .bool false, .bool false, .bool false, .int .i64 0, .int .i64 0, .slice none 0 0, .slice none 0 0, .slice none 0 0, .slice none 0 0] 62 (0, 0)) :: (100010, g1, .cells #[.string p0] 9 (0, 0)) :: H, R, φ⟩ (fun _ h => h) <| c_ret <| d_ret_then ?_
  replace hm := Option.some.inj hm
  subst hm
  refine d_retC (none, 0, none, 0, none, 0, none, 0) Try.results43 ?_ ⟨(Nat.le_refl 0), (Nat.le_refl 0), (Nat.le_refl 0), (Nat.le_refl 0)⟩ (fun W h => ok_pre (H1 := [_, _]) (R1 := []) h (fun W hφ => ⟨hφ, (fun W _ => Cl.nil _ _) W hφ, (fun W _ => Cl.nil _ _) W hφ, (fun W _ => Cl.nil _ _) W hφ, (fun W _ => Cl.nil _ _) W hφ⟩)) (.inr rfl)
  refine res_agg (tag := 100020) rfl rfl Try.isAgg62 Try.sizeOf62 <| res_tmp <| res_nil ?_
  exact rfl
 ·
  replace hm := ite_f hm (of_decide_eq_false h3)
  refine c_skip <| d_then <| c_seq <| c_region <| g_v rfl (r_load (tag := 100010) rfl rfl rfl Try.isAgg9) ?_
  replace hm := bnd hm
  obtain ⟨⟨x4, x5⟩, hx6, hm⟩ := hm
  refine g_cn ⟨w0, M, _, _, φ⟩ (fun _ h => h) Try.call45 rfl rfl (c_message_Head p0 _ hx6) (fun ⟨A7, c8, A10, c11, A13, c14, A16, c17⟩ ⟨hc8, hc11, hc14, hc17⟩ => ?_)
  refine g_abs (fun φ19 q19' => ?_)
  have q19 : ∀ W, φ19 W → φ W := fun W h => (q19' W h).1
  have f9 := fun (W : World) (h : φ19 W) => (q19' W h).2.1
  have f12 := fun (W : World) (h : φ19 W) => (q19' W h).2.2.1
  have f15 := fun (W : World) (h : φ19 W) => (q19' W h).2.2.2.1
  have f18 := fun (W : World) (h : φ19 W) => (q19' W h).2.2.2.2
  refine g_v rfl r_move <| g_v rfl (r_extract rfl rfl) <| g_v rfl (r_extract rfl rfl) ?_
  refine g_e rfl (e_alloc 100040 Try.zeroValue62) (fun g21 _ => ?_)
  refine g_storeL (tag := 100040) rfl rfl rfl rfl Try.sizeOf62 rfl rfl <| g_v rfl r_assign <| g_nil <| d_then ?_
  refine c_flat [(1, .pointer (some ⟨g1, 0, none⟩)), (2, .pointer (some ⟨g2, 0, none⟩)), (4, .pointer (some ⟨g21, 0, none⟩)), (5, .int .i64 x5)] ⟨rfl, rfl, rfl, rfl, trivial⟩ (fun u => ?_)
  refine c_sta ⟨w0, M, (100040, g21, .cells #[.int .u16 x4.fID, .bool x4.fResponse, .bool x4.fAuthoritative, .bool x4.fTruncated, .bool x4.fDesired, .bool x4.fAvailable, .int .i64 x4.fOpcode, .int .i64 x4.fCode, .slice A7 x4.fQuestions.length c8, .slice A10 x4.fAnswers.length c11, .slice A13 x4.fAuthorities.length c14, .slice A16 x4.fExtras.length c17] 62 (0, 0)) :: (100020, g2, .cells #[.int .u16 0, .bool false, .bool false, .bool false, .bool false, .bool false, .int .i64 0, .int .i64 0, .slice none 0 0, .slice none 0 0, .slice none 0 0, .slice none 0 0] 62 (0, 0)) :: (100010, g1, .cells #[.string p0] 9 (0, 0)) :: H, R, φ19⟩ (fun _ h => h) <| c_seq <| c_seq <| c_region <| g_v rfl r_move <| g_v rfl (r_neq rfl rfl) <| g_nil <| d_then ?_
  refine c_cond rfl (fun h22 => ?_) (fun h22 => ?_)
  ·
   replace hm := ite_t hm (of_decide_eq_true h22)
   refine c_seq <| c_region <| g_v rfl (r_build _ rfl (bld62_16)) <| g_v rfl r_move <| g_storeL (tag := 100020) rfl rfl rfl rfl Try.sizeOf62 rfl rfl <| g_v rfl r_assign <| g_nil <| d_then <| c_ret <| d_ret_then ?_
   replace hm := Option.some.inj hm
   subst hm
   refine d_retC (none, 0, none, 0, none, 0, none, 0) Try.results43 ?_ ⟨(Nat.le_refl 0), (Nat.le_refl 0), (Nat.le_refl 0), (Nat.le_refl 0)⟩ (fun W h => ok_pre (H1 := [_, _, _]) (R1 := []) h (fun W hφ => ⟨(q19 _ hφ), (fun W _ => Cl.nil _ _) W hφ, (fun W _ => Cl.nil _ _) W hφ, (fun W _ => Cl.nil _ _) W hφ, (fun W _ => Cl.nil _ _) W hφ⟩)) (.inr rfl)
   refine res_agg (tag := 100020) rfl rfl Try.isAgg62 Try.sizeOf62 <| res_tmp <| res_nil ?_
   exact rfl
  ·
   replace hm := ite_f hm (of_decide_eq_false h22)
   refine c_skip <| d_then <| c_seq <| c_region <| g_v rfl (r_mkf rfl) <| g_v rfl r_assign <| g_nil <| d_then <| c_seq <| c_region ?_
   refine g_v rfl r_assign <| g_nil <| d_then <| c_seq <| ga_start (n := 13) ⟨w0, M, (100020, g2, .cells #[.int .u16 0, .bool false, .bool false, .bool false, .bool false, .bool false, .int .i64 0, .int .i64 0, .slice none 0 0, .slice none 0 0, .slice none 0 0, .slice none 0 0] 62 (0, 0)) :: (100010, g1, .cells #[.string p0] 9 (0, 0)) :: H, R, φ19⟩ [] #[false, false, false, false, false, false, false, false, false, false, false, false, false] (fun W h => (h.dropH (t := 100040) rfl).phi (fun W hφ => hφ)) mixed rfl rfl <| ga_v (i := 0) (bz 13 1) rfl (by kernel_rfl) (fun _ _ _ _ h => h) rfl (r_load (tag := 100010) rfl rfl rfl Try.isAgg9) <| ga_v (i := 1) (bz 13 3) rfl (by kernel_rfl) (fun _ _ _ _ h => h) rfl (r_move) <| ga_r (i := 2) (bz 13 7) rfl (by kernel_rfl) (by decide) rfl (r_move) ?_
   replace hm := bnd hm
   obtain ⟨x43, hx44, hm⟩ := hm
   refine ga_cn (first := #[]) (i := 3) (bz 13 15) rfl (by kernel_rfl) (by decide)  ⟨w0, M, (1000, g1, .cells #[.string p0] 9 (0, 0)) :: (100040, g21, .cells #[.int .u16 x4.fID, .bool x4.fResponse, .bool x4.fAuthoritative, .bool x4.fTruncated, .bool x4.fDesired, .bool x4.fAvailable, .int .i64 x4.fOpcode, .int .i64 x4.fCode, .slice A7 x4.fQuestions.length c8, .slice A10 x4.fAnswers.length c11, .slice A13 x4.fAuthorities.length c14, .slice A16 x4.fExtras.length c17] 62 (0, 0)) :: (100020, g2, .cells #[.int .u16 0, .bool false, .bool false, .bool false, .bool false, .bool false, .int .i64 0, .int .i64 0, .slice none 0 0, .slice none 0 0, .slice none 0 0, .slice none 0 0] 62 (0, 0)) :: H, R, φ19⟩ (fun W h => (ok_front (t := 100010) (t' := 1000) h rfl)) Try.call88 rfl rfl rfl (c_message_Read_c1 0 g1 p0 _ hx44) (fun _ W _ h => (ok_front (t := 100020) (t' := 100020) (ok_front (t := 100010) (t' := 100010) ((ok_front (t := 1000) (t' := 100010) h rfl).dropH (t := 100040) rfl) rfl) rfl).phi (fun W hφ => hφ)) (fun _ _ => ?_)
   refine ga_sta _ (fun W h => (ok_front (t := 1000) (t' := 100010) h rfl)) ?_
   replace hm := bnd hm
   obtain ⟨⟨x45, x46, x47⟩, hx48, hm⟩ := hm
   refine ga_cn (first := #[]) (i := 4) (bz 13 31) rfl (by kernel_rfl) (by decide)  ⟨w0, M, _, _, φ19⟩ (fun _ h => h) Try.call89 rfl rfl rfl (c_message_many_89 p0 12 x43 _ hx48) (fun ⟨A49, c50⟩ W hc50 h => (ok_front (t := 100020) (t' := 100020) (ok_front (t := 100010) (t' := 100010) (((ok_frontR (t := 2000) (t' := 100290) h rfl).dropR (t := 100290) rfl).dropH (t := 100040) rfl) rfl) rfl).phi (fun W hφ => hφ)) (fun ⟨A49, c50⟩ hc50 => ?_)
   refine ga_sta _ (fun W h => (ok_frontR (t := 2000) (t' := 100290) h rfl)) <| ga_r (i := 5) (bz 13 63) rfl (by kernel_rfl) (by decide) rfl (r_move) <| ga_v (i := 6) (bz 13 127) rfl (by kernel_rfl) (fun _ _ _ _ h => h) rfl (r_extract rfl rfl) <| ga_v (i := 7) (bz 13 255) rfl (by kernel_rfl) (fun _ _ _ _ h => h) rfl (r_extract rfl rfl) <| ga_v (i := 8) (bz 13 511) rfl (by kernel_rfl) (fun _ _ _ _ h => h) rfl (r_extract rfl rfl) <| ga_r (i := 9) (bz 13 1023) rfl (by kernel_rfl) (by decide) rfl (r_field (n := 8) Try.underlying62 rfl Try.sizeOf60 rfl rfl) <| ga_storeN (i := 10) (tag := 100040) (bz 13 2047) rfl (by kernel_rfl) (by decide) rfl rfl rfl rfl Try.sizeOf60 rfl rfl (fun W h => (ok_front (t := 100020) (t' := 100020) (ok_front (t := 100010) (t' := 100010) ((h.dropR (t := 100290) rfl).dropH (t := 100040) rfl) rfl) rfl).phi (fun W hφ => hφ)) <| ga_r (i := 11) (bz 13 4095) rfl (by kernel_rfl) (by decide) rfl (r_assign) <| ga_r (i := 12) (bz 13 8191) rfl (by kernel_rfl) (by decide) rfl (r_assign) <| ga_done (by kernel_rfl) ?_
   refine d_then ?_
   refine c_flat [(1, .pointer (some ⟨g1, 0, none⟩)), (2, .pointer (some ⟨g2, 0, none⟩)), (4, .pointer (some ⟨g21, 0, none⟩)), (5, .int .i64 x47), (6, .func (.func 88) #[] #[.pointer (some ⟨g1, 0, none⟩)]), (7, .int .i64 x46)] ⟨rfl, rfl, rfl, rfl, rfl, rfl, trivial⟩ (fun u => ?_)
   refine c_sta ⟨w0, M, (100010, g1, .cells #[.string p0] 9 (0, 0)) :: (100040, g21, .cells #[.int .u16 x4.fID, .bool x4.fResponse, .bool x4.fAuthoritative, .bool x4.fTruncated, .bool x4.fDesired, .bool x4.fAvailable, .int .i64 x4.fOpcode, .int .i64 x4.fCode, .slice A49 x45.length c50, .slice A10 x4.fAnswers.length c11, .slice A13 x4.fAuthorities.length c14, .slice A16 x4.fExtras.length c17] 62 (0, 0)) :: (100020, g2, .cells #[.int .u16 0, .bool false, .bool false, .bool false, .bool false, .bool false, .int .i64 0, .int .i64 0, .slice none 0 0, .slice none 0 0, .slice none 0 0, .slice none 0 0] 62 (0, 0)) :: H, (100290, ⟨.slice A49 x45.length c50, 74, 3, x45.length, x45.flatMap GQuestion.enc⟩) :: R, φ19⟩ (fun _ h => h) <| c_seq <| c_seq <| c_region <| g_v rfl (r_field (n := 9) Try.underlying62 rfl Try.sizeOf32 rfl rfl) <| g_v rfl (r_field (n := 10) Try.underlying62 rfl Try.sizeOf32 rfl rfl) <| g_v rfl (r_field (n := 11) Try.underlying62 rfl Try.sizeOf32 rfl rfl) <| g_v rfl (r_build _ rfl (bld127_20 _ _ _)) <| g_v rfl r_move <| g_nil ?_
   refine d_then <| c_block <| c_rounds 64 <| c_seq <| c_region <| g_v rfl (r_lss rfl rfl) <| g_nil <| d_then <| c_seq <| c_cond1 rfl (by decide) ?_
   refine c_skip <| d_then <| c_seq ?_
   refine c_cut (ι := Int × Int × (List GRR) × Option Addr × Nat) [1, 2, 4, 5, 6, 7, 37, 38] (fun ⟨i84, i85, l86, A87, c88⟩ => [(5, .int .i64 i84), (7, .int .i64 i85)]) (fun ⟨i84, i85, l86, A87, c88⟩ => ⟨w0, M, (100010, g1, .cells #[.string p0] 9 (0, 0)) :: (100040, g21, .cells #[.int .u16 x4.fID, .bool x4.fResponse, .bool x4.fAuthoritative, .bool x4.fTruncated, .bool x4.fDesired, .bool x4.fAvailable, .int .i64 x4.fOpcode, .int .i64 x4.fCode, .slice A49 x45.length c50, .slice A87 l86.length c88, .slice A13 x4.fAuthorities.length c14, .slice A16 x4.fExtras.length c17] 62 (0, 0)) :: (100020, g2, .cells #[.int .u16 0, .bool false, .bool false, .bool false, .bool false, .bool false, .int .i64 0, .int .i64 0, .slice none 0 0, .slice none 0 0, .slice none 0 0, .slice none 0 0] 62 (0, 0)) :: H, (100290, ⟨.slice A49 x45.length c50, 74, 3, x45.length, x45.flatMap GQuestion.enc⟩) :: R, fun W => φ19 W ∧ Cl W A87 (l86.flatMap GRR.enc)⟩) (fun ⟨i84, i85, l86, A87, c88⟩ => m_message_Read_j1 p0 x4 x45 i84 i85 l86 = some r ∧ l86.length ≤ c88) ?_ (fun ⟨i84, i85, l86, A87, c88⟩ u ⟨hm, hc88⟩ => ?_)
   ·
    refine c_block <| c_seq <| c_region <| g_v rfl r_move <| g_v rfl (r_indexA Try.underlying127 Try.sizeOf126 Try.isAgg126 rfl rfl rfl rfl) <| g_v rfl r_assign <| g_v rfl r_assign <| g_nil <| d_then ?_
    refine c_flat [(1, .pointer (some ⟨g1, 0, none⟩)), (2, .pointer (some ⟨g2, 0, none⟩)), (4, .pointer (some ⟨g21, 0, none⟩)), (5, .int .i64 x47), (6, .func (.func 88) #[] #[.pointer (some ⟨g1, 0, none⟩)]), (7, .int .i64 x46), (8, .int .i64 0), (9, .pointer (some ⟨g21, 9, none⟩)), (37, .agg #[.pointer (some ⟨g21, 9, none⟩), .pointer (some ⟨g21, 10, none⟩), .pointer (some ⟨g21, 11, none⟩)]), (38, .int .i64 0)] ⟨rfl, rfl, rfl, rfl, rfl, rfl, rfl, rfl, rfl, rfl, trivial⟩ (fun u => ?_)
    refine c_seq <| c_region <| g_v rfl r_move <| g_v rfl (r_eql rfl rfl) <| g_nil <| d_then ?_
    refine c_cond rfl (fun h237 => ?_) (fun h237 => ?_)
    ·
     replace hm := ite_t hm (of_decide_eq_true h237)
     refine ga_start (n := 16) ⟨w0, M, (100010, g1, .cells #[.string p0] 9 (0, 0)) :: (100020, g2, .cells #[.int .u16 0, .bool false, .bool false, .bool false, .bool false, .bool false, .int .i64 0, .int .i64 0, .slice none 0 0, .slice none 0 0, .slice none 0 0, .slice none 0 0] 62 (0, 0)) :: H, (100290, ⟨.slice A49 x45.length c50, 74, 3, x45.length, x45.flatMap GQuestion.enc⟩) :: R, φ19⟩ [] #[false, false, false, false, false, false, false, false, false, false, false, false, false, false, false, false] (fun W h => (h.dropH (t := 100040) rfl).phi (fun W hφ => hφ)) mixed rfl rfl <| ga_v (i := 0) (bz 16 1) rfl (by kernel_rfl) (fun _ _ _ _ h => h) rfl (r_move) <| ga_v (i := 1) (bz 16 3) rfl (by kernel_rfl) (fun _ _ _ _ h => h) rfl (r_load (tag := 100010) rfl rfl rfl Try.isAgg9) <| ga_v (i := 2) (bz 16 7) rfl (by kernel_rfl) (fun _ _ _ _ h => h) rfl (r_move) <| ga_v (i := 3) (bz 16 15) rfl (by kernel_rfl) (fun _ _ _ _ h => h) rfl (r_move) <| ga_r (i := 4) (bz 16 31) rfl (by kernel_rfl) (by decide) rfl (r_move) <| ga_r (i := 5) (bz 16 63) rfl (by kernel_rfl) (by decide) rfl (r_add rfl rfl (show IntKind.i64.wrap (0 + 1) = 1 by decide)) ?_
     replace hm := bnd hm
     obtain ⟨x258, hx259, hm⟩ := hm
     refine ga_cn (first := #[]) (i := 6) (bz 16 127) rfl (by kernel_rfl) (by decide)  ⟨w0, M, (1000, g1, .cells #[.string p0] 9 (0, 0)) :: (100040, g21, .cells #[.int .u16 x4.fID, .bool x4.fResponse, .bool x4.fAuthoritative, .bool x4.fTruncated, .bool x4.fDesired, .bool x4.fAvailable, .int .i64 x4.fOpcode, .int .i64 x4.fCode, .slice A49 x45.length c50, .slice A10 x4.fAnswers.length c11, .slice A13 x4.fAuthorities.length c14, .slice A16 x4.fExtras.length c17] 62 (0, 0)) :: (100020, g2, .cells #[.int .u16 0, .bool false, .bool false, .bool false, .bool false, .bool false, .int .i64 0, .int .i64 0, .slice none 0 0, .slice none 0 0, .slice none 0 0, .slice none 0 0] 62 (0, 0)) :: H, (100290, ⟨.slice A49 x45.length c50, 74, 3, x45.length, x45.flatMap GQuestion.enc⟩) :: R, φ19⟩ (fun W h => (ok_front (t := 100010) (t' := 1000) h rfl)) Try.call88 rfl rfl rfl (c_message_Read_c1 1 g1 p0 _ hx259) (fun _ W _ h => ((ok_front (t := 1000) (t' := 100010) h rfl).dropH (t := 100040) rfl).phi (fun W hφ => hφ)) (fun _ _ => ?_)
     refine ga_sta _ (fun W h => (ok_front (t := 1000) (t' := 100010) h rfl)) ?_
     replace hm := bnd hm
     obtain ⟨⟨x260, x261, x262⟩, hx263, hm⟩ := hm
     refine ga_cn (first := #[]) (i := 7) (bz 16 255) rfl (by kernel_rfl) (by decide)  ⟨w0, M, _, _, φ19⟩ (fun _ h => h) Try.call91 rfl rfl rfl (c_message_many_91 p0 x46 x258 _ hx263) (fun ⟨A264, c265⟩ W hc265 h => (((ok_frontR (t := 2000) (t' := 100520) h rfl).dropR (t := 100520) rfl).dropH (t := 100040) rfl).phi (fun W hφ => hφ)) (fun ⟨A264, c265⟩ hc265 => ?_)
     refine ga_sta _ (fun W h => (ok_frontR (t := 2000) (t' := 100520) h rfl)) <| ga_r (i := 8) (bz 16 511) rfl (by kernel_rfl) (by decide) rfl (r_move) <| ga_v (i := 9) (bz 16 1023) rfl (by kernel_rfl) (fun _ _ _ _ h => h) rfl (r_extract rfl rfl) <| ga_v (i := 10) (bz 16 2047) rfl (by kernel_rfl) (fun _ _ _ _ h => h) rfl (r_extract rfl rfl) <| ga_v (i := 11) (bz 16 4095) rfl (by kernel_rfl) (fun _ _ _ _ h => h) rfl (r_extract rfl rfl) <| ga_r (i := 12) (bz 16 8191) rfl (by kernel_rfl) (by decide) rfl (r_nilck rfl) <| ga_storeN (i := 13) (tag := 100040) (bz 16 16383) rfl (by kernel_rfl) (by decide) rfl rfl rfl rfl Try.sizeOf32 rfl rfl (fun W h => ((h.dropR (t := 100520) rfl).dropH (t := 100040) rfl).phi (fun W hφ => hφ)) <| ga_r (i := 14) (bz 16 32767) rfl (by kernel_rfl) (by decide) rfl (r_assign) <| ga_r (i := 15) (bz 16 65535) rfl (by kernel_rfl) (by decide) rfl (r_assign) <| ga_done (by kernel_rfl) ?_
     refine d_normal_block ?_
     refine d_shut (tag := 100520) rfl (fun φ268 q268' => ?_)
     have q268 : ∀ W, φ268 W → φ19 W := fun W h => (q268' W h).1
     have f269 := fun (W : World) (h : φ268 W) => (q268' W h).2
     exact d_round (x262, x261, x260, A264, c265) ⟨hm, hc265⟩ Nat.zero_lt_one ⟨rfl, rfl, rfl, rfl, rfl, rfl, rfl, rfl, trivial⟩ (fun W h => h.phi (fun W hφ => ⟨(q268 _ hφ), (fun W h => f269 W h) W hφ⟩))
    ·
     replace hm := ite_f hm (of_decide_eq_false h237)
     refine c_skip <| d_normal_block ?_
     exact d_round (x47, x46, x4.fAnswers, A10, c11) ⟨hm, hc11⟩ Nat.zero_lt_one ⟨rfl, rfl, rfl, rfl, rfl, rfl, rfl, rfl, trivial⟩ (fun W h => h.phi (fun W hφ => ⟨hφ, (fun W h => f12 W h) W hφ⟩))
   ·
    unfold m_message_Read_j1 at hm
    refine d_abs (fun φ90 q90' => ?_)
    have q90 : ∀ W, φ90 W → φ19 W := fun W h => (q90' W h).1
    have f89 := fun (W : World) (h : φ90 W) => (q90' W h).2
    refine d_flat [(1, .pointer (some ⟨g1, 0, none⟩)), (2, .pointer (some ⟨g2, 0, none⟩)), (4, .pointer (some ⟨g21, 0, none⟩)), (5, .int .i64 i84), (6, .func (.func 88) #[] #[.pointer (some ⟨g1, 0, none⟩)]), (7, .int .i64 i85), (37, .agg #[.pointer (some ⟨g21, 9, none⟩), .pointer (some ⟨g21, 10, none⟩), .pointer (some ⟨g21, 11, none⟩)]), (38, .int .i64 0)] ⟨rfl, rfl, rfl, rfl, rfl, rfl, rfl, rfl, trivial⟩ (fun u => ?_)
    refine d_sta ⟨w0, M, (100010, g1, .cells #[.string p0] 9 (0, 0)) :: (100040, g21, .cells #[.int .u16 x4.fID, .bool x4.fResponse, .bool x4.fAuthoritative, .bool x4.fTruncated, .bool x4.fDesired, .bool x4.fAvailable, .int .i64 x4.fOpcode, .int .i64 x4.fCode, .slice A49 x45.length c50, .slice A87 l86.length c88, .slice A13 x4.fAuthorities.length c14, .slice A16 x4.fExtras.length c17] 62 (0, 0)) :: (100020, g2, .cells #[.int .u16 0, .bool false, .bool false, .bool false, .bool false, .bool false, .int .i64 0, .int .i64 0, .slice none 0 0, .slice none 0 0, .slice none 0 0, .slice none 0 0] 62 (0, 0)) :: H, (100290, ⟨.slice A49 x45.length c50, 74, 3, x45.length, x45.flatMap GQuestion.enc⟩) :: R, φ90⟩ (fun _ h => h) <| d_then <| c_region <| g_v rfl (r_add rfl rfl (show IntKind.i64.wrap (0 + 1) = 1 by decide)) <| g_v rfl r_move <| g_nil <| d_rounds ?_
    refine c_flat [(1, .pointer (some ⟨g1, 0, none⟩)), (2, .pointer (some ⟨g2, 0, none⟩)), (4, .pointer (some ⟨g21, 0, none⟩)), (5, .int .i64 i84), (6, .func (.func 88) #[] #[.pointer (some ⟨g1, 0, none⟩)]), (7, .int .i64 i85), (37, .agg #[.pointer (some ⟨g21, 9, none⟩), .pointer (some ⟨g21, 10, none⟩), .pointer (some ⟨g21, 11, none⟩)]), (38, .int .i64 1)] ⟨rfl, rfl, rfl, rfl, rfl, rfl, rfl, rfl, trivial⟩ (fun u => ?_)
    refine c_seq <| c_region <| g_v rfl (r_lss rfl rfl) <| g_nil <| d_then <| c_seq <| c_cond1 rfl (by decide) <| c_skip <| d_then <| c_seq ?_
    refine c_cut (ι := Int × Int × (List GRR) × Option Addr × Nat) [1, 2, 4, 5, 6, 7, 37, 38] (fun ⟨i122, i123, l124, A125, c126⟩ => [(5, .int .i64 i122), (7, .int .i64 i123)]) (fun ⟨i122, i123, l124, A125, c126⟩ => ⟨w0, M, (100010, g1, .cells #[.string p0] 9 (0, 0)) :: (100040, g21, .cells #[.int .u16 x4.fID, .bool x4.fResponse, .bool x4.fAuthoritative, .bool x4.fTruncated, .bool x4.fDesired, .bool x4.fAvailable, .int .i64 x4.fOpcode, .int .i64 x4.fCode, .slice A49 x45.length c50, .slice A87 l86.length c88, .slice A125 l124.length c126, .slice A16 x4.fExtras.length c17] 62 (0, 0)) :: (100020, g2, .cells #[.int .u16 0, .bool false, .bool false, .bool false, .bool false, .bool false, .int .i64 0, .int .i64 0, .slice none 0 0, .slice none 0 0, .slice none 0 0, .slice none 0 0] 62 (0, 0)) :: H, (100290, ⟨.slice A49 x45.length c50, 74, 3, x45.length, x45.flatMap GQuestion.enc⟩) :: R, fun W => φ90 W ∧ Cl W A125 (l124.flatMap GRR.enc)⟩) (fun ⟨i122, i123, l124, A125, c126⟩ => m_message_Read_j2 p0 x4 x45 l86 i122 i123 l124 = some r ∧ l124.length ≤ c126) ?_ (fun ⟨i122, i123, l124, A125, c126⟩ u ⟨hm, hc126⟩ => ?_)
    ·
     refine c_block <| c_seq <| c_region <| g_v rfl r_move <| g_v rfl (r_indexA Try.underlying127 Try.sizeOf126 Try.isAgg126 rfl rfl rfl rfl) <| g_v rfl r_assign <| g_v rfl r_assign <| g_nil <| d_then <| c_seq ?_
     refine c_region <| g_v rfl r_move <| g_v rfl (r_eql rfl rfl) <| g_nil <| d_then ?_
     refine c_cond rfl (fun h204 => ?_) (fun h204 => ?_)
     ·
      replace hm := ite_t hm (of_decide_eq_true h204)
      refine ga_start (n := 16) ⟨w0, M, (100010, g1, .cells #[.string p0] 9 (0, 0)) :: (100020, g2, .cells #[.int .u16 0, .bool false, .bool false, .bool false, .bool false, .bool false, .int .i64 0, .int .i64 0, .slice none 0 0, .slice none 0 0, .slice none 0 0, .slice none 0 0] 62 (0, 0)) :: H, (100290, ⟨.slice A49 x45.length c50, 74, 3, x45.length, x45.flatMap GQuestion.enc⟩) :: R, φ90⟩ [] #[false, false, false, false, false, false, false, false, false, false, false, false, false, false, false, false] (fun W h => (h.dropH (t := 100040) rfl).phi (fun W hφ => hφ)) mixed rfl rfl <| ga_v (i := 0) (bz 16 1) rfl (by kernel_rfl) (fun _ _ _ _ h => h) rfl (r_move) <| ga_v (i := 1) (bz 16 3) rfl (by kernel_rfl) (fun _ _ _ _ h => h) rfl (r_load (tag := 100010) rfl rfl rfl Try.isAgg9) <| ga_v (i := 2) (bz 16 7) rfl (by kernel_rfl) (fun _ _ _ _ h => h) rfl (r_move) <| ga_v (i := 3) (bz 16 15) rfl (by kernel_rfl) (fun _ _ _ _ h => h) rfl (r_move) <| ga_r (i := 4) (bz 16 31) rfl (by kernel_rfl) (by decide) rfl (r_move) <| ga_r (i := 5) (bz 16 63) rfl (by kernel_rfl) (by decide) rfl (r_add rfl rfl (show IntKind.i64.wrap (1 + 1) = 2 by decide)) ?_
      replace hm := bnd hm
      obtain ⟨x225, hx226, hm⟩ := hm
      refine ga_cn (first := #[]) (i := 6) (bz 16 127) rfl (by kernel_rfl) (by decide)  ⟨w0, M, (1000, g1, .cells #[.string p0] 9 (0, 0)) :: (100040, g21, .cells #[.int .u16 x4.fID, .bool x4.fResponse, .bool x4.fAuthoritative, .bool x4.fTruncated, .bool x4.fDesired, .bool x4.fAvailable, .int .i64 x4.fOpcode, .int .i64 x4.fCode, .slice A49 x45.length c50, .slice A87 l86.length c88, .slice A13 x4.fAuthorities.length c14, .slice A16 x4.fExtras.length c17] 62 (0, 0)) :: (100020, g2, .cells #[.int .u16 0, .bool false, .bool false, .bool false, .bool false, .bool false, .int .i64 0, .int .i64 0, .slice none 0 0, .slice none 0 0, .slice none 0 0, .slice none 0 0] 62 (0, 0)) :: H, (100290, ⟨.slice A49 x45.length c50, 74, 3, x45.length, x45.flatMap GQuestion.enc⟩) :: R, φ90⟩ (fun W h => (ok_front (t := 100010) (t' := 1000) h rfl)) Try.call88 rfl rfl rfl (c_message_Read_c1 2 g1 p0 _ hx226) (fun _ W _ h => ((ok_front (t := 1000) (t' := 100010) h rfl).dropH (t := 100040) rfl).phi (fun W hφ => hφ)) (fun _ _ => ?_)
      refine ga_sta _ (fun W h => (ok_front (t := 1000) (t' := 100010) h rfl)) ?_
      replace hm := bnd hm
      obtain ⟨⟨x227, x228, x229⟩, hx230, hm⟩ := hm
      refine ga_cn (first := #[]) (i := 7) (bz 16 255) rfl (by kernel_rfl) (by decide)  ⟨w0, M, _, _, φ90⟩ (fun _ h => h) Try.call91 rfl rfl rfl (c_message_many_91 p0 i85 x225 _ hx230) (fun ⟨A231, c232⟩ W hc232 h => (((ok_frontR (t := 2000) (t' := 100520) h rfl).dropR (t := 100520) rfl).dropH (t := 100040) rfl).phi (fun W hφ => hφ)) (fun ⟨A231, c232⟩ hc232 => ?_)
      refine ga_sta _ (fun W h => (ok_frontR (t := 2000) (t' := 100520) h rfl)) <| ga_r (i := 8) (bz 16 511) rfl (by kernel_rfl) (by decide) rfl (r_move) <| ga_v (i := 9) (bz 16 1023) rfl (by kernel_rfl) (fun _ _ _ _ h => h) rfl (r_extract rfl rfl) <| ga_v (i := 10) (bz 16 2047) rfl (by kernel_rfl) (fun _ _ _ _ h => h) rfl (r_extract rfl rfl) <| ga_v (i := 11) (bz 16 4095) rfl (by kernel_rfl) (fun _ _ _ _ h => h) rfl (r_extract rfl rfl) <| ga_r (i := 12) (bz 16 8191) rfl (by kernel_rfl) (by decide) rfl (r_nilck rfl) <| ga_storeN (i := 13) (tag := 100040) (bz 16 16383) rfl (by kernel_rfl) (by decide) rfl rfl rfl rfl Try.sizeOf32 rfl rfl (fun W h => ((h.dropR (t := 100520) rfl).dropH (t := 100040) rfl).phi (fun W hφ => hφ)) <| ga_r (i := 14) (bz 16 32767) rfl (by kernel_rfl) (by decide) rfl (r_assign) <| ga_r (i := 15) (bz 16 65535) rfl (by kernel_rfl) (by decide) rfl (r_assign) <| ga_done (by kernel_rfl) ?_
      refine d_normal_block ?_
      refine d_shut (tag := 100520) rfl (fun φ235 q235' => ?_)
      have q235 : ∀ W, φ235 W → φ90 W := fun W h => (q235' W h).1
      have f236 := fun (W : World) (h : φ235 W) => (q235' W h).2
      exact d_round (x229, x228, x227, A231, c232) ⟨hm, hc232⟩ Nat.zero_lt_one ⟨rfl, rfl, rfl, rfl, rfl, rfl, rfl, rfl, trivial⟩ (fun W h => h.phi (fun W hφ => ⟨(q235 _ hφ), (fun W h => f236 W h) W hφ⟩))
     ·
      replace hm := ite_f hm (of_decide_eq_false h204)
      refine c_skip <| d_normal_block ?_
      exact d_round (i84, i85, x4.fAuthorities, A13, c14) ⟨hm, hc14⟩ Nat.zero_lt_one ⟨rfl, rfl, rfl, rfl, rfl, rfl, rfl, rfl, trivial⟩ (fun W h => h.phi (fun W hφ => ⟨hφ, (fun W h => f15 W (q90 _ h)) W hφ⟩))
    ·
     unfold m_message_Read_j2 at hm
     refine d_abs (fun φ128 q128' => ?_)
     have q128 : ∀ W, φ128 W → φ90 W := fun W h => (q128' W h).1
     have f127 := fun (W : World) (h : φ128 W) => (q128' W h).2
     refine d_flat [(1, .pointer (some ⟨g1, 0, none⟩)), (2, .pointer (some ⟨g2, 0, none⟩)), (4, .pointer (some ⟨g21, 0, none⟩)), (5, .int .i64 i122), (6, .func (.func 88) #[] #[.pointer (some ⟨g1, 0, none⟩)]), (7, .int .i64 i123), (37, .agg #[.pointer (some ⟨g21, 9, none⟩), .pointer (some ⟨g21, 10, none⟩), .pointer (some ⟨g21, 11, none⟩)]), (38, .int .i64 1)] ⟨rfl, rfl, rfl, rfl, rfl, rfl, rfl, rfl, trivial⟩ (fun u => ?_)
     refine d_sta ⟨w0, M, (100010, g1, .cells #[.string p0] 9 (0, 0)) :: (100040, g21, .cells #[.int .u16 x4.fID, .bool x4.fResponse, .bool x4.fAuthoritative, .bool x4.fTruncated, .bool x4.fDesired, .bool x4.fAvailable, .int .i64 x4.fOpcode, .int .i64 x4.fCode, .slice A49 x45.length c50, .slice A87 l86.length c88, .slice A125 l124.length c126, .slice A16 x4.fExtras.length c17] 62 (0, 0)) :: (100020, g2, .cells #[.int .u16 0, .bool false, .bool false, .bool false, .bool false, .bool false, .int .i64 0, .int .i64 0, .slice none 0 0, .slice none 0 0, .slice none 0 0, .slice none 0 0] 62 (0, 0)) :: H, (100290, ⟨.slice A49 x45.length c50, 74, 3, x45.length, x45.flatMap GQuestion.enc⟩) :: R, φ128⟩ (fun _ h => h) <| d_then <| c_region <| g_v rfl (r_add rfl rfl (show IntKind.i64.wrap (1 + 1) = 2 by decide)) <| g_v rfl r_move <| g_nil <| d_rounds ?_
     refine c_flat [(1, .pointer (some ⟨g1, 0, none⟩)), (2, .pointer (some ⟨g2, 0, none⟩)), (4, .pointer (some ⟨g21, 0, none⟩)), (5, .int .i64 i122), (6, .func (.func 88) #[] #[.pointer (some ⟨g1, 0, none⟩)]), (7, .int .i64 i123), (37, .agg #[.pointer (some ⟨g21, 9, none⟩), .pointer (some ⟨g21, 10, none⟩), .pointer (some ⟨g21, 11, none⟩)]), (38, .int .i64 2)] ⟨rfl, rfl, rfl, rfl, rfl, rfl, rfl, rfl, trivial⟩ (fun u => ?_)
     refine c_seq <| c_region <| g_v rfl (r_lss rfl rfl) <| g_nil <| d_then <| c_seq <| c_cond1 rfl (by decide) <| c_skip <| d_then <| c_seq ?_
     refine c_cut (ι := Int × Int × (List GRR) × Option Addr × Nat) [1, 2, 4, 5, 6, 7, 37, 38] (fun ⟨i160, i161, l162, A163, c164⟩ => [(5, .int .i64 i160), (7, .int .i64 i161)]) (fun ⟨i160, i161, l162, A163, c164⟩ => ⟨w0, M, (100010, g1, .cells #[.string p0] 9 (0, 0)) :: (100040, g21, .cells #[.int .u16 x4.fID, .bool x4.fResponse, .bool x4.fAuthoritative, .bool x4.fTruncated, .bool x4.fDesired, .bool x4.fAvailable, .int .i64 x4.fOpcode, .int .i64 x4.fCode, .slice A49 x45.length c50, .slice A87 l86.length c88, .slice A125 l124.length c126, .slice A163 l162.length c164] 62 (0, 0)) :: (100020, g2, .cells #[.int .u16 0, .bool false, .bool false, .bool false, .bool false, .bool false, .int .i64 0, .int .i64 0, .slice none 0 0, .slice none 0 0, .slice none 0 0, .slice none 0 0] 62 (0, 0)) :: H, (100290, ⟨.slice A49 x45.length c50, 74, 3, x45.length, x45.flatMap GQuestion.enc⟩) :: R, fun W => φ128 W ∧ Cl W A163 (l162.flatMap GRR.enc)⟩) (fun ⟨i160, i161, l162, A163, c164⟩ => m_message_Read_j3 p0 x4 x45 l86 l124 i160 i161 l162 = some r ∧ l162.length ≤ c164) ?_ (fun ⟨i160, i161, l162, A163, c164⟩ u ⟨hm, hc164⟩ => ?_)
     ·
      refine c_block <| c_seq <| c_region <| g_v rfl r_move <| g_v rfl (r_indexA Try.underlying127 Try.sizeOf126 Try.isAgg126 rfl rfl rfl rfl) <| g_v rfl r_assign <| g_v rfl r_assign <| g_nil <| d_then <| c_seq ?_
      refine c_region <| g_v rfl r_move <| g_v rfl (r_eql rfl rfl) <| g_nil <| d_then ?_
      refine c_cond rfl (fun h171 => ?_) (fun h171 => ?_)
      ·
       replace hm := ite_t hm (of_decide_eq_true h171)
       refine ga_start (n := 16) ⟨w0, M, (100010, g1, .cells #[.string p0] 9 (0, 0)) :: (100020, g2, .cells #[.int .u16 0, .bool false, .bool false, .bool false, .bool false, .bool false, .int .i64 0, .int .i64 0, .slice none 0 0, .slice none 0 0, .slice none 0 0, .slice none 0 0] 62 (0, 0)) :: H, (100290, ⟨.slice A49 x45.length c50, 74, 3, x45.length, x45.flatMap GQuestion.enc⟩) :: R, φ128⟩ [] #[false, false, false, false, false, false, false, false, false, false, false, false, false, false, false, false] (fun W h => (h.dropH (t := 100040) rfl).phi (fun W hφ => hφ)) mixed rfl rfl <| ga_v (i := 0) (bz 16 1) rfl (by kernel_rfl) (fun _ _ _ _ h => h) rfl (r_move) <| ga_v (i := 1) (bz 16 3) rfl (by kernel_rfl) (fun _ _ _ _ h => h) rfl (r_load (tag := 100010) rfl rfl rfl Try.isAgg9) <| ga_v (i := 2) (bz 16 7) rfl (by kernel_rfl) (fun _ _ _ _ h => h) rfl (r_move) <| ga_v (i := 3) (bz 16 15) rfl (by kernel_rfl) (fun _ _ _ _ h => h) rfl (r_move) <| ga_r (i := 4) (bz 16 31) rfl (by kernel_rfl) (by decide) rfl (r_move) <| ga_r (i := 5) (bz 16 63) rfl (by kernel_rfl) (by decide) rfl (r_add rfl rfl (show IntKind.i64.wrap (2 + 1) = 3 by decide)) ?_
       replace hm := bnd hm
       obtain ⟨x192, hx193, hm⟩ := hm
       refine ga_cn (first := #[]) (i := 6) (bz 16 127) rfl (by kernel_rfl) (by decide)  ⟨w0, M, (1000, g1, .cells #[.string p0] 9 (0, 0)) :: (100040, g21, .cells #[.int .u16 x4.fID, .bool x4.fResponse, .bool x4.fAuthoritative, .bool x4.fTruncated, .bool x4.fDesired, .bool x4.fAvailable, .int .i64 x4.fOpcode, .int .i64 x4.fCode, .slice A49 x45.length c50, .slice A87 l86.length c88, .slice A125 l124.length c126, .slice A16 x4.fExtras.length c17] 62 (0, 0)) :: (100020, g2, .cells #[.int .u16 0, .bool false, .bool false, .bool false, .bool false, .bool false, .int .i64 0, .int .i64 0, .slice none 0 0, .slice none 0 0, .slice none 0 0, .slice none 0 0] 62 (0, 0)) :: H, (100290, ⟨.slice A49 x45.length c50, 74, 3, x45.length, x45.flatMap GQuestion.enc⟩) :: R, φ128⟩ (fun W h => (ok_front (t := 100010) (t' := 1000) h rfl)) Try.call88 rfl rfl rfl (c_message_Read_c1 3 g1 p0 _ hx193) (fun _ W _ h => ((ok_front (t := 1000) (t' := 100010) h rfl).dropH (t := 100040) rfl).phi (fun W hφ => hφ)) (fun _ _ => ?_)
       refine ga_sta _ (fun W h => (ok_front (t := 1000) (t' := 100010) h rfl)) ?_
       replace hm := bnd hm
       obtain ⟨⟨x194, x195, x196⟩, hx197, hm⟩ := hm
       refine ga_cn (first := #[]) (i := 7) (bz 16 255) rfl (by kernel_rfl) (by decide)  ⟨w0, M, _, _, φ128⟩ (fun _ h => h) Try.call91 rfl rfl rfl (c_message_many_91 p0 i123 x192 _ hx197) (fun ⟨A198, c199⟩ W hc199 h => (((ok_frontR (t := 2000) (t' := 100520) h rfl).dropR (t := 100520) rfl).dropH (t := 100040) rfl).phi (fun W hφ => hφ)) (fun ⟨A198, c199⟩ hc199 => ?_)
       refine ga_sta _ (fun W h => (ok_frontR (t := 2000) (t' := 100520) h rfl)) <| ga_r (i := 8) (bz 16 511) rfl (by kernel_rfl) (by decide) rfl (r_move) <| ga_v (i := 9) (bz 16 1023) rfl (by kernel_rfl) (fun _ _ _ _ h => h) rfl (r_extract rfl rfl) <| ga_v (i := 10) (bz 16 2047) rfl (by kernel_rfl) (fun _ _ _ _ h => h) rfl (r_extract rfl rfl) <| ga_v (i := 11) (bz 16 4095) rfl (by kernel_rfl) (fun _ _ _ _ h => h) rfl (r_extract rfl rfl) <| ga_r (i := 12) (bz 16 8191) rfl (by kernel_rfl) (by decide) rfl (r_nilck rfl) <| ga_storeN (i := 13) (tag := 100040) (bz 16 16383) rfl (by kernel_rfl) (by decide) rfl rfl rfl rfl Try.sizeOf32 rfl rfl (fun W h => ((h.dropR (t := 100520) rfl).dropH (t := 100040) rfl).phi (fun W hφ => hφ)) <| ga_r (i := 14) (bz 16 32767) rfl (by kernel_rfl) (by decide) rfl (r_assign) <| ga_r (i := 15) (bz 16 65535) rfl (by kernel_rfl) (by decide) rfl (r_assign) <| ga_done (by kernel_rfl) ?_
       refine d_normal_block ?_
       refine d_shut (tag := 100520) rfl (fun φ202 q202' => ?_)
       have q202 : ∀ W, φ202 W → φ128 W := fun W h => (q202' W h).1
       have f203 := fun (W : World) (h : φ202 W) => (q202' W h).2
       exact d_round (x196, x195, x194, A198, c199) ⟨hm, hc199⟩ Nat.zero_lt_one ⟨rfl, rfl, rfl, rfl, rfl, rfl, rfl, rfl, trivial⟩ (fun W h => h.phi (fun W hφ => ⟨(q202 _ hφ), (fun W h => f203 W h) W hφ⟩))
      ·
       replace hm := ite_f hm (of_decide_eq_false h171)
       refine c_skip <| d_normal_block ?_
       exact d_round (i122, i123, x4.fExtras, A16, c17) ⟨hm, hc17⟩ Nat.zero_lt_one ⟨rfl, rfl, rfl, rfl, rfl, rfl, rfl, rfl, trivial⟩ (fun W h => h.phi (fun W hφ => ⟨hφ, (fun W h => f18 W (q90 _ (q128 _ h))) W hφ⟩))
     ·
      unfold m_message_Read_j3 at hm
      refine d_abs (fun φ166 q166' => ?_)
      have q166 : ∀ W, φ166 W → φ128 W := fun W h => (q166' W h).1
      have f165 := fun (W : World) (h : φ166 W) => (q166' W h).2
      refine d_flat [(1, .pointer (some ⟨g1, 0, none⟩)), (2, .pointer (some ⟨g2, 0, none⟩)), (4, .pointer (some ⟨g21, 0, none⟩)), (5, .int .i64 i160), (6, .func (.func 88) #[] #[.pointer (some ⟨g1, 0, none⟩)]), (7, .int .i64 i161), (37, .agg #[.pointer (some ⟨g21, 9, none⟩), .pointer (some ⟨g21, 10, none⟩), .pointer (some ⟨g21, 11, none⟩)]), (38, .int .i64 2)] ⟨rfl, rfl, rfl, rfl, rfl, rfl, rfl, rfl, trivial⟩ (fun u => ?_)
      refine d_sta ⟨w0, M, (100010, g1, .cells #[.string p0] 9 (0, 0)) :: (100040, g21, .cells #[.int .u16 x4.fID, .bool x4.fResponse, .bool x4.fAuthoritative, .bool x4.fTruncated, .bool x4.fDesired, .bool x4.fAvailable, .int .i64 x4.fOpcode, .int .i64 x4.fCode, .slice A49 x45.length c50, .slice A87 l86.length c88, .slice A125 l124.length c126, .slice A163 l162.length c164] 62 (0, 0)) :: (100020, g2, .cells #[.int .u16 0, .bool false, .bool false, .bool false, .bool false, .bool false, .int .i64 0, .int .i64 0, .slice none 0 0, .slice none 0 0, .slice none 0 0, .slice none 0 0] 62 (0, 0)) :: H, (100290, ⟨.slice A49 x45.length c50, 74, 3, x45.length, x45.flatMap GQuestion.enc⟩) :: R, φ166⟩ (fun _ h => h) <| d_then <| c_region <| g_v rfl (r_add rfl rfl (show IntKind.i64.wrap (2 + 1) = 3 by decide)) <| g_v rfl r_move <| g_nil <| d_rounds ?_
      refine c_flat [(1, .pointer (some ⟨g1, 0, none⟩)), (2, .pointer (some ⟨g2, 0, none⟩)), (4, .pointer (some ⟨g21, 0, none⟩)), (5, .int .i64 i160), (6, .func (.func 88) #[] #[.pointer (some ⟨g1, 0, none⟩)]), (7, .int .i64 i161), (37, .agg #[.pointer (some ⟨g21, 9, none⟩), .pointer (some ⟨g21, 10, none⟩), .pointer (some ⟨g21, 11, none⟩)]), (38, .int .i64 3)] ⟨rfl, rfl, rfl, rfl, rfl, rfl, rfl, rfl, trivial⟩ (fun u => ?_)
      refine c_seq <| c_region <| g_v rfl (r_lss rfl rfl) <| g_nil <| d_then <| c_seq <| c_cond0 rfl (by decide) <| c_exit <| d_exit_then <| d_exit_then ?_
      refine d_exit_block <| d_then <| c_seq <| c_block <| c_seq <| c_region <| g_v rfl r_move <| g_v rfl (r_neq rfl rfl) <| g_v rfl r_assign <| g_nil ?_
      refine d_then ?_
      refine c_cond rfl (fun h167 => ?_) (fun h167 => ?_)
      ·
       replace hm := ite_t hm (of_decide_eq_true h167)
       refine c_seq <| c_region <| g_v rfl (r_build _ rfl (bld62_16)) <| g_v rfl r_move <| g_storeL (tag := 100020) rfl rfl rfl rfl Try.sizeOf62 rfl rfl <| g_v rfl r_assign <| g_nil <| d_then <| c_ret <| d_ret_block ?_
       refine d_ret_then ?_
       replace hm := Option.some.inj hm
       subst hm
       refine d_retC (none, 0, none, 0, none, 0, none, 0) Try.results43 ?_ ⟨(Nat.le_refl 0), (Nat.le_refl 0), (Nat.le_refl 0), (Nat.le_refl 0)⟩ (fun W h => ok_pre (H1 := [_, _, _]) (R1 := [_]) h (fun W hφ => ⟨(q19 _ (q90 _ (q128 _ (q166 _ hφ)))), (fun W _ => Cl.nil _ _) W hφ, (fun W _ => Cl.nil _ _) W hφ, (fun W _ => Cl.nil _ _) W hφ, (fun W _ => Cl.nil _ _) W hφ⟩)) (.inr rfl)
       refine res_agg (tag := 100020) rfl rfl Try.isAgg62 Try.sizeOf62 <| res_tmp <| res_nil ?_
       exact rfl
      ·
       replace hm := ite_f hm (of_decide_eq_false h167)
       refine c_seq <| c_region <| g_v rfl r_move <| g_v rfl (r_load (tag := 100010) rfl rfl rfl Try.isAgg9) <| g_v rfl (r_len Try.underlying9 rfl) <| g_v rfl (r_neq rfl rfl) <| g_v rfl r_assign <| g_nil <| d_then ?_
       refine c_flat [(2, .pointer (some ⟨g2, 0, none⟩)), (4, .pointer (some ⟨g21, 0, none⟩)), (63, .bool (decide (i161 ≠ (p0.size : Int))))] ⟨rfl, rfl, rfl, trivial⟩ (fun u => ?_)
       refine c_cond rfl (fun h168 => ?_) (fun h168 => ?_)
       ·
        replace hm := ite_t hm (of_decide_eq_true h168)
        refine c_seq <| c_region <| g_v rfl (r_build _ rfl (bld62_16)) <| g_storeL (tag := 100020) rfl rfl rfl rfl Try.sizeOf62 rfl rfl <| g_v rfl r_assign <| g_nil <| d_then <| c_ret <| d_ret_block <| d_ret_then ?_
        replace hm := Option.some.inj hm
        subst hm
        refine d_retC (none, 0, none, 0, none, 0, none, 0) Try.results43 ?_ ⟨(Nat.le_refl 0), (Nat.le_refl 0), (Nat.le_refl 0), (Nat.le_refl 0)⟩ (fun W h => ok_pre (H1 := [_, _, _]) (R1 := [_]) h (fun W hφ => ⟨(q19 _ (q90 _ (q128 _ (q166 _ hφ)))), (fun W _ => Cl.nil _ _) W hφ, (fun W _ => Cl.nil _ _) W hφ, (fun W _ => Cl.nil _ _) W hφ, (fun W _ => Cl.nil _ _) W hφ⟩)) (.inr rfl)
        refine res_agg (tag := 100020) rfl rfl Try.isAgg62 Try.sizeOf62 <| res_tmp <| res_nil ?_
        exact rfl
       ·
        replace hm := ite_f hm (of_decide_eq_false h168)
        refine c_skip <| d_normal_block <| d_then <| c_seq <| c_region <| g_v rfl (r_loadA (tag := 100040) rfl rfl Try.isAgg62 Try.sizeOf62 rfl rfl) <| g_storeL (tag := 100020) rfl rfl rfl rfl Try.sizeOf62 rfl rfl <| g_v rfl r_assign <| g_nil <| d_then ?_
        refine c_ret ?_
        replace hm := Option.some.inj hm
        subst hm
        refine d_shut (tag := 100290) rfl (fun φ169 q169' => ?_)
        have q169 : ∀ W, φ169 W → φ166 W := fun W h => (q169' W h).1
        have f170 := fun (W : World) (h : φ169 W) => (q169' W h).2
        refine d_retC (A49, c50, A87, c88, A125, c126, A163, c164) Try.results43 ?_ ⟨hc50, hc88, hc126, hc164⟩ (fun W h => ok_pre (H1 := [_, _, _]) (R1 := []) h (fun W hφ => ⟨(q19 _ (q90 _ (q128 _ (q166 _ (q169 _ hφ))))), (fun W h => f170 W h) W hφ, (fun W h => f89 W (q128 _ (q166 _ (q169 _ h)))) W hφ, (fun W h => f127 W (q166 _ (q169 _ h))) W hφ, (fun W h => f165 W (q169 _ h)) W hφ⟩)) (.inr rfl)
        refine res_agg (tag := 100020) rfl rfl Try.isAgg62 Try.sizeOf62 <| res_tmp <| res_nil ?_
        exact rfl
theorem bld62_24 (z0 : Int) (z1 : Bool) (z2 : Int) (z3 : Bool) (z4 : Bool) (z5 : Int) (zA6 : Option Addr) (zn6 : Nat) (zc6 : Nat) : ∀ W, (Instr.build 62 #[(0, .int .u16 z0), (1, .bool z1), (6, .int .i64 z2), (4, .bool z3), (5, .bool z4), (7, .int .i64 z5), (8, .slice zA6 zn6 zc6)]).run Try.prog W = .ok (.agg #[.int .u16 z0, .bool z1, .bool false, .bool false, .bool z3, .bool z4, .int .i64 z2, .int .i64 z5, .slice zA6 zn6 zc6, .slice none 0 0, .slice none 0 0, .slice none 0 0]) W := fun _ => by kernel_rfl
noncomputable def m_message_Reply (p0 : GMessage) (p1 : Int) : Option GMessage :=
  (app 24 ([] : List GQuestion) p0.fQuestions).bind fun l9 =>
  some (⟨p0.fID, true, false, false, p0.fDesired, true, p0.fOpcode, p1, l9, ([] : List GRR), ([] : List GRR), ([] : List GRR)⟩ : GMessage)
theorem c_message_Reply {w0 : World} {M : Nat → Prop} {H : List (Nat × Nat × Obj)} {R : List (Nat × Row)} {φ : World → Prop} (p0 : GMessage) (Ap0_0 : Option Addr) (cp0_0 : Nat) (hcp0_0 : p0.fQuestions.length ≤ cp0_0) (fp0_0 : ∀ W, (Sta.mk w0 M H R φ).ok W → Cl W Ap0_0 (p0.fQuestions.flatMap GQuestion.enc)) (Ap0_1 : Option Addr) (cp0_1 : Nat) (hcp0_1 : p0.fAnswers.length ≤ cp0_1) (fp0_1 : ∀ W, (Sta.mk w0 M H R φ).ok W → Cl W Ap0_1 (p0.fAnswers.flatMap GRR.enc)) (Ap0_2 : Option Addr) (cp0_2 : Nat) (hcp0_2 : p0.fAuthorities.length ≤ cp0_2) (fp0_2 : ∀ W, (Sta.mk w0 M H R φ).ok W → Cl W Ap0_2 (p0.fAuthorities.flatMap GRR.enc)) (Ap0_3 : Option Addr) (cp0_3 : Nat) (hcp0_3 : p0.fExtras.length ≤ cp0_3) (fp0_3 : ∀ W, (Sta.mk w0 M H R φ).ok W → Cl W Ap0_3 (p0.fExtras.flatMap GRR.enc)) (p1 : Int) (r : GMessage) (hm : m_message_Reply p0 p1 = some r) :
    Cn Try.prog 48 #[.agg #[.int .u16 p0.fID, .bool p0.fResponse, .bool p0.fAuthoritative, .bool p0.fTruncated, .bool p0.fDesired, .bool p0.fAvailable, .int .i64 p0.fOpcode, .int .i64 p0.fCode, .slice Ap0_0 p0.fQuestions.length cp0_0, .slice Ap0_1 p0.fAnswers.length cp0_1, .slice Ap0_2 p0.fAuthorities.length cp0_2, .slice Ap0_3 p0.fExtras.length cp0_3], .int .i64 p1] ⟨w0, M, H, R, φ⟩ (fun x : Option Addr × Nat × Option Addr × Nat × Option Addr × Nat × Option Addr × Nat => .agg #[.int .u16 r.fID, .bool r.fResponse, .bool r.fAuthoritative, .bool r.fTruncated, .bool r.fDesired, .bool r.fAvailable, .int .i64 r.fOpcode, .int .i64 r.fCode, .slice x.1 r.fQuestions.length x.2.1, .slice x.2.2.1 r.fAnswers.length x.2.2.2.1, .slice x.2.2.2.2.1 r.fAuthorities.length x.2.2.2.2.2.1, .slice x.2.2.2.2.2.2.1 r.fExtras.length x.2.2.2.2.2.2.2]) (fun x => r.fQuestions.length ≤ x.2.1 ∧ r.fAnswers.length ≤ x.2.2.2.1 ∧ r.fAuthorities.length ≤ x.2.2.2.2.2.1 ∧ r.fExtras.length ≤ x.2.2.2.2.2.2.2) (fun x => ⟨w0, M, H, R, fun W => φ W ∧ Cl W x.1 (r.fQuestions.flatMap GQuestion.enc) ∧ Cl W x.2.2.1 (r.fAnswers.flatMap GRR.enc) ∧ Cl W x.2.2.2.2.1 (r.fAuthorities.flatMap GRR.enc) ∧ Cl W x.2.2.2.2.2.2.1 (r.fExtras.flatMap GRR.enc)⟩) := by
 unfold m_message_Reply at hm
 refine cn_intro (fn := Try.f48) (N := 16) Try.func48 rfl Try.ntmps48 rfl <| c_seq <| c_region ?_
 refine g_e rfl (e_box 100020 rfl) (fun g1 _ => ?_)
 refine g_e rfl (e_alloc 100040 Try.zeroValue62) (fun g2 _ => ?_)
 refine g_nil <| d_then <| c_seq <| ga_start (n := 12) ⟨w0, M, (100040, g2, .cells #[.int .u16 0, .bool false, .bool false, .bool false, .bool false, .bool false, .int .i64 0, .int .i64 0, .slice none 0 0, .slice none 0 0, .slice none 0 0, .slice none 0 0] 62 (0, 0)) :: (100020, g1, .cells #[.int .u16 p0.fID, .bool p0.fResponse, .bool p0.fAuthoritative, .bool p0.fTruncated, .bool p0.fDesired, .bool p0.fAvailable, .int .i64 p0.fOpcode, .int .i64 p0.fCode, .slice Ap0_0 p0.fQuestions.length cp0_0, .slice Ap0_1 p0.fAnswers.length cp0_1, .slice Ap0_2 p0.fAuthorities.length cp0_2, .slice Ap0_3 p0.fExtras.length cp0_3] 62 (0, 0)) :: H, R, φ⟩ [11] #[false, false, false, false, false, false, false, false, false, false, false, false] (fun W h => h.phi (fun W hφ => hφ)) mixed rfl rfl <| ga_v (i := 0) (bz 12 1) rfl (by kernel_rfl) (fun _ _ _ _ h => h) rfl (r_field (n := 0) Try.underlying62 rfl Try.sizeOf24 rfl rfl) <| ga_v (i := 1) (bz 12 3) rfl (by kernel_rfl) (fun _ _ _ _ h => h) rfl (r_load (tag := 100020) rfl rfl rfl Try.isAgg24) <| ga_v (i := 2) (bz 12 7) rfl (by kernel_rfl) (fun _ _ _ _ h => h) rfl (r_field (n := 6) Try.underlying62 rfl Try.sizeOf3 rfl rfl) <| ga_v (i := 3) (bz 12 15) rfl (by kernel_rfl) (fun _ _ _ _ h => h) rfl (r_load (tag := 100020) rfl rfl rfl Try.isAgg3) <| ga_v (i := 4) (bz 12 31) rfl (by kernel_rfl) (fun _ _ _ _ h => h) rfl (r_field (n := 4) Try.underlying62 rfl Try.sizeOf4 rfl rfl) <| ga_v (i := 5) (bz 12 63) rfl (by kernel_rfl) (fun _ _ _ _ h => h) rfl (r_load (tag := 100020) rfl rfl rfl Try.isAgg4) ?_
 refine ga_v (i := 6) (bz 12 127) rfl (by kernel_rfl) (fun _ _ _ _ h => h) rfl (r_move) <| ga_r (i := 7) (bz 12 255) rfl (by kernel_rfl) (by decide) rfl (r_field (n := 8) Try.underlying62 rfl Try.sizeOf60 rfl rfl) <| ga_r (i := 8) (bz 12 511) rfl (by kernel_rfl) (by decide) rfl (r_load (tag := 100020) rfl rfl rfl Try.isAgg60) <| ga_sta _ (fun W h => nilR h 13 74 3) ?_
 replace hm := bnd hm
 obtain ⟨l9, hl9, hm⟩ := hm
 refine ga_e (i := 9) (bz 12 1023) rfl (by kernel_rfl) (by decide) rfl  (e_appR (enc := GQuestion.enc) (l := []) (l1 := p0.fQuestions) (l2 := l9) (tag := 13) Try.underlying60 inf74_19 rfl (by decide) (by decide) (fun _ => rfl) (fun _ => rfl) rfl (Nat.le_refl 0) rfl rfl (fun W hS => fp0_0 W (ok_pre (H1 := [_, _]) (R1 := [_]) hS (fun W h => h))) hl9) (fun ⟨A10, c11⟩ W hc11 h => (h.dropR (t := 13) rfl).phi (fun W hφ => hφ)) (fun ⟨A10, c11⟩ hc11 => ?_)
 refine ga_r (i := 10) (bz 12 2047) rfl (by kernel_rfl) (by decide) rfl (r_build _ rfl (bld62_24 _ _ _ _ _ _ _ _ _)) <| ga_lastL (i := 11) (tag := 100040) (bz 12 4095) rfl (by kernel_rfl) (by decide) rfl rfl rfl rfl Try.sizeOf62 rfl rfl <| gz_done (by kernel_rfl) <| d_then ?_
 refine c_flat [(4, .pointer (some ⟨g2, 0, none⟩))] ⟨rfl, trivial⟩ (fun u => ?_)
 refine c_sta ⟨w0, M, (100040, g2, .cells #[.int .u16 p0.fID, .bool true, .bool false, .bool false, .bool p0.fDesired, .bool true, .int .i64 p0.fOpcode, .int .i64 p1, .slice A10 l9.length c11, .slice none 0 0, .slice none 0 0, .slice none 0 0] 62 (0, 0)) :: (100020, g1, .cells #[.int .u16 p0.fID, .bool p0.fResponse, .bool p0.fAuthoritative, .bool p0.fTruncated, .bool p0.fDesired, .bool p0.fAvailable, .int .i64 p0.fOpcode, .int .i64 p0.fCode, .slice Ap0_0 p0.fQuestions.length cp0_0, .slice Ap0_1 p0.fAnswers.length cp0_1, .slice Ap0_2 p0.fAuthorities.length cp0_2, .slice Ap0_3 p0.fExtras.length cp0_3] 62 (0, 0)) :: H, (13, ⟨.slice A10 l9.length c11, 74, 3, l9.length, l9.flatMap GQuestion.enc⟩) :: R, φ⟩ (fun _ h => h) <| c_ret ?_
 replace hm := Option.some.inj hm
 subst hm
 refine d_shut (tag := 13) rfl (fun φ12 q12' => ?_)
 have q12 : ∀ W, φ12 W → φ W := fun W h => (q12' W h).1
 have f13 := fun (W : World) (h : φ12 W) => (q12' W h).2
 refine d_retC (A10, c11, none, 0, none, 0, none, 0) Try.results48 ?_ ⟨hc11, (Nat.le_refl 0), (Nat.le_refl 0), (Nat.le_refl 0)⟩ (fun W h => ok_pre (H1 := [_, _]) (R1 := []) h (fun W hφ => ⟨(q12 _ hφ), (fun W h => f13 W h) W hφ, (fun W _ => Cl.nil _ _) W hφ, (fun W _ => Cl.nil _ _) W hφ, (fun W _ => Cl.nil _ _) W hφ⟩)) (.inr rfl)
 refine res_agg (tag := 100040) rfl rfl Try.isAgg62 Try.sizeOf62 <| res_nil ?_
 exact rfl
noncomputable def m_name_Lower_j1  (l55 : List Int) : Option ByteArray :=
  some (strOfNums l55)
noncomputable def m_name_Lower_s2 (p0 : ByteArray) (l78 : List Int) (i79 : Int) : Option (((List Int) × Int) ⊕ (List Int)) :=
  if i79 < (((bytesI p0).length) : Int) then
    (at_ l78 i79).bind fun x104 =>
    if 65 ≤ x104 then
      (at_ l78 i79).bind fun x109 =>
      if x109 ≤ 90 then
        (at_ l78 i79).bind fun x114 =>
        (at_ l78 i79).bind fun x118 =>
        (setAt l78 i79 (orI .u8 x114 32)).bind fun l122 =>
        some (.inl (l122, w64 (i79 + 1)))
      else
        some (.inl (l78, w64 (i79 + 1)))
    else
      some (.inl (l78, w64 (i79 + 1)))
  else
    some (.inr l78)
noncomputable def m_name_Lower (p0 : ByteArray) : Option ByteArray :=
  (loop (fun s => m_name_Lower_s2 p0 s.1 s.2) ((bytesI p0), 0)).bind fun e => m_name_Lower_j1 e
theorem c_name_Lower {w0 : World} {M : Nat → Prop} {H : List (Nat × Nat × Obj)} {R : List (Nat × Row)} {φ : World → Prop} (p0 : ByteArray) (r : ByteArray) (hm : m_name_Lower p0 = some r) :
    Cn Try.prog 107 #[.string p0] ⟨w0, M, H, R, φ⟩ (fun x : Unit => .string r) (fun x => True) (fun x => ⟨w0, M, H, R, φ⟩) := by
 unfold m_name_Lower at hm
 refine cn_intro (fn := Try.f107) (N := 33) Try.func107 rfl Try.ntmps107 rfl <| c_seq <| c_region <| g_v rfl r_assign <| g_nil <| d_then <| c_seq <| c_region <| g_v rfl r_move ?_
 refine g_e rfl (e_bytesH 100060 Try.underlying9 Try.underlying77 Try.underlying5 rfl) (fun ⟨g5, c6, T7⟩ hc6 => ?_)
 refine g_v rfl r_assign <| g_nil <| d_then <| c_seq <| c_seq <| c_region <| g_v rfl r_move <| g_v rfl (r_lenL Try.underlying77 rfl) <| g_v rfl r_move <| g_nil ?_
 refine d_then ?_
 refine c_cut (ι := (List Int)) [3] (fun l55 => [(3, .slice (some ⟨g5, 0, none⟩) ((bytesI p0).length) c6)]) (fun l55 => ⟨w0, M, (100060, g5, rowO l55 T7 5) :: H, R, φ⟩) (fun l55 => m_name_Lower_j1 l55 = some r ∧ l55.length = (bytesI p0).length) ?_ (fun l55 u ⟨hm, hl55⟩ => ?_)
 ·
  refine c_block ?_
  replace hm := bnd hm
  obtain ⟨out2, hl2, hr2⟩ := hm
  obtain ⟨n102', hl2⟩ := loop_lp hl2
  refine c_loopU (ι := Nat × (List Int) × Int) [3, 8, 9] (fun ⟨n102, l78, i79⟩ => [(3, .slice (some ⟨g5, 0, none⟩) ((bytesI p0).length) c6), (9, .int .i64 i79)]) (fun ⟨n102, l78, i79⟩ => ⟨w0, M, (100060, g5, rowO l78 T7 5) :: H, R, φ⟩) (fun ⟨n102, l78, i79⟩ => Lp (fun s => m_name_Lower_s2 p0 s.1 s.2) n102 (l78, i79) out2 ∧ l78.length = (bytesI p0).length) (fun ⟨n102, l78, i79⟩ => n102) (n102', (bytesI p0), 0) ⟨hl2, rfl⟩ ⟨rfl, rfl, rfl, trivial⟩ (fun W h => h.phi (fun W hφ => hφ)) (fun ⟨n102, l78, i79⟩ u ⟨hlp, hl78⟩ => ?_)
  obtain ⟨o2, hm, hnx2⟩ := lp_step hlp
  clear hlp
  replace hm : m_name_Lower_s2 p0 l78 i79 = some o2 := hm
  unfold m_name_Lower_s2 at hm
  refine c_flat [(3, .slice (some ⟨g5, 0, none⟩) ((bytesI p0).length) c6), (8, .int .i64 (((bytesI p0).length) : Int)), (9, .int .i64 i79)] ⟨rfl, rfl, rfl, trivial⟩ (fun u => ?_)
  refine c_sta ⟨w0, M, (100060, g5, rowO l78 T7 5) :: H, R, φ⟩ (fun _ h => h) <| c_seq <| c_region <| g_v rfl (r_lss rfl rfl) <| g_nil <| d_then <| c_seq ?_
  refine c_cond rfl (fun h103 => ?_) (fun h103 => ?_)
  ·
   replace hm := ite_t hm (of_decide_eq_true h103)
   refine c_skip <| d_then <| c_seq <| c_block <| c_seq <| c_region <| g_v rfl r_move <| g_v rfl r_assign <| g_nil <| d_then ?_
   refine c_seq <| c_region <| g_v rfl r_move <| g_v rfl r_move ?_
   replace hm := bnd hm
   obtain ⟨x104, hx104, hm⟩ := hm
   refine g_know _ (fun W hS => cl_at (p := (Sta.ok ⟨w0, M, (100060, g5, rowO l78 T7 5) :: H, R, φ⟩)) (sz := 1) (fun _ => rfl) (by decide) hS (hrowCl (S := ⟨w0, M, (100060, g5, rowO l78 T7 5) :: H, R, φ⟩) (tag := 100060) rfl) hx104) ?_
   rintro ⟨ad105, hA107, f106⟩
   refine g_v rfl (r_ixN hl78 Try.underlying77 Try.sizeOf5 rfl hA107 rfl hx104) <| g_v rfl (r_ld rfl Try.isAgg5 (fun W hS => Cl.head (f106 W hS))) <| g_v rfl (r_geq rfl rfl) <| g_v rfl r_move ?_
   refine g_if rfl rfl rfl rfl rfl (fun h108 => ?_) (fun h108 => ?_)
   ·
    replace hm := ite_t hm (of_decide_eq_true h108)
    refine g_v rfl r_move <| g_do rfl rfl rfl rfl rfl h108 <| g_v rfl r_move <| g_do rfl rfl rfl rfl rfl h108 ?_
    replace hm := bnd hm
    obtain ⟨x109, hx109, hm⟩ := hm
    refine g_know _ (fun W hS => cl_at (p := (Sta.ok ⟨w0, M, (100060, g5, rowO l78 T7 5) :: H, R, φ⟩)) (sz := 1) (fun _ => rfl) (by decide) hS (hrowCl (S := ⟨w0, M, (100060, g5, rowO l78 T7 5) :: H, R, φ⟩) (tag := 100060) rfl) hx109) ?_
    rintro ⟨ad110, hA112, f111⟩
    refine g_v rfl (r_ixN hl78 Try.underlying77 Try.sizeOf5 rfl hA112 rfl hx109) <| g_do rfl rfl rfl rfl rfl h108 <| g_v rfl (r_ld rfl Try.isAgg5 (fun W hS => Cl.head (f111 W hS))) <| g_do rfl rfl rfl rfl rfl h108 <| g_v rfl (r_leq rfl rfl) <| g_v rfl (r_pick1 rfl h108) <| g_nil <| d_then ?_
    refine c_flat [(3, .slice (some ⟨g5, 0, none⟩) ((bytesI p0).length) c6), (4, .int .i64 i79), (8, .int .i64 (((bytesI p0).length) : Int)), (9, .int .i64 i79), (23, .bool (decide (x109 ≤ 90)))] ⟨rfl, rfl, rfl, rfl, rfl, trivial⟩ (fun u => ?_)
    refine c_cond rfl (fun h113 => ?_) (fun h113 => ?_)
    ·
     replace hm := ite_t hm (of_decide_eq_true h113)
     refine c_region <| g_v rfl r_move <| g_v rfl r_move ?_
     replace hm := bnd hm
     obtain ⟨x114, hx114, hm⟩ := hm
     refine g_know _ (fun W hS => cl_at (p := (Sta.ok ⟨w0, M, (100060, g5, rowO l78 T7 5) :: H, R, φ⟩)) (sz := 1) (fun _ => rfl) (by decide) hS (hrowCl (S := ⟨w0, M, (100060, g5, rowO l78 T7 5) :: H, R, φ⟩) (tag := 100060) rfl) hx114) ?_
     rintro ⟨ad115, hA117, f116⟩
     refine g_v rfl (r_ixN hl78 Try.underlying77 Try.sizeOf5 rfl hA117 rfl hx114) <| g_v rfl (r_ld rfl Try.isAgg5 (fun W hS => Cl.head (f116 W hS))) <| g_v rfl (r_bits_or rfl rfl) ?_
     replace hm := bnd hm
     obtain ⟨x118, hx118, hm⟩ := hm
     refine g_know _ (fun W hS => cl_at (p := (Sta.ok ⟨w0, M, (100060, g5, rowO l78 T7 5) :: H, R, φ⟩)) (sz := 1) (fun _ => rfl) (by decide) hS (hrowCl (S := ⟨w0, M, (100060, g5, rowO l78 T7 5) :: H, R, φ⟩) (tag := 100060) rfl) hx118) ?_
     rintro ⟨ad119, hA121, f120⟩
     refine g_v rfl (r_ixN hl78 Try.underlying77 Try.sizeOf5 rfl hA121 rfl hx118) ?_
     replace hm := bnd hm
     obtain ⟨l122, hl122, hm⟩ := hm
     refine g_stH (tag := 100060) (l := l78) rfl rfl hA121 rfl hl122 rfl Try.sizeOf5 <| g_nil <| d_normal_block <| d_then <| c_region <| g_v rfl (r_add rfl rfl rfl) <| g_v rfl r_move <| g_nil ?_
     obtain ⟨n123, hn123, hlp⟩ := nx_inl hm hnx2
     exact d_round (n123, l122, w64 (i79 + 1)) ⟨hlp, ((setAt_lenE hl122).trans hl78)⟩ hn123 ⟨rfl, rfl, rfl, trivial⟩ (fun W h => h.phi (fun W hφ => hφ))
    ·
     replace hm := ite_f hm (of_decide_eq_false h113)
     refine c_skip <| d_normal_block <| d_then <| c_region <| g_v rfl (r_add rfl rfl rfl) <| g_v rfl r_move <| g_nil ?_
     obtain ⟨n124, hn124, hlp⟩ := nx_inl hm hnx2
     exact d_round (n124, l78, w64 (i79 + 1)) ⟨hlp, hl78⟩ hn124 ⟨rfl, rfl, rfl, trivial⟩ (fun W h => h.phi (fun W hφ => hφ))
   ·
    replace hm := ite_f hm (of_decide_eq_false h108)
    refine g_no rfl rfl rfl rfl rfl h108 <| g_no rfl rfl rfl rfl rfl h108 <| g_no rfl rfl rfl rfl rfl h108 <| g_no rfl rfl rfl rfl rfl h108 <| g_v rfl (r_pick0 rfl h108) <| g_nil <| d_then ?_
    refine c_flat [(3, .slice (some ⟨g5, 0, none⟩) ((bytesI p0).length) c6), (4, .int .i64 i79), (8, .int .i64 (((bytesI p0).length) : Int)), (9, .int .i64 i79), (23, .bool false)] ⟨rfl, rfl, rfl, rfl, rfl, trivial⟩ (fun u => ?_)
    refine c_cond0 rfl rfl <| c_skip <| d_normal_block <| d_then <| c_region <| g_v rfl (r_add rfl rfl rfl) <| g_v rfl r_move <| g_nil ?_
    obtain ⟨n125, hn125, hlp⟩ := nx_inl hm hnx2
    exact d_round (n125, l78, w64 (i79 + 1)) ⟨hlp, hl78⟩ hn125 ⟨rfl, rfl, rfl, trivial⟩ (fun W h => h.phi (fun W hφ => hφ))
  ·
   replace hm := ite_f hm (of_decide_eq_false h103)
   refine c_exit <| d_exit_then <| d_exit_then <| d_exit_block ?_
   replace hm := nx_out (C := (fun e => m_name_Lower_j1 e = some r)) hm hnx2 hr2
   exact d_round l78 ⟨hm, hl78⟩ Nat.zero_lt_one ⟨rfl, trivial⟩ (fun W h => h.phi (fun W hφ => hφ))
 ·
  unfold m_name_Lower_j1 at hm
  refine d_flat [(3, .slice (some ⟨g5, 0, none⟩) ((bytesI p0).length) c6)] ⟨rfl, trivial⟩ (fun u => ?_)
  refine d_sta ⟨w0, M, (100060, g5, rowO l55 T7 5) :: H, R, φ⟩ (fun _ h => h) <| d_then <| c_seq <| c_region <| g_v rfl r_move <| g_v rfl (r_textN hl55 Try.underlying77 Try.underlying5 Try.underlying9 rfl (hrowCl (tag := 100060) rfl)) <| g_v rfl r_assign <| g_nil <| d_then <| c_ret ?_
  replace hm := Option.some.inj hm
  subst hm
  refine d_retC () Try.results107 ?_ trivial (fun W h => ok_pre (H1 := [_]) (R1 := []) h (fun W hφ => hφ)) (.inr rfl)
  refine res_tmp <| res_nil ?_
  exact rfl
noncomputable def m_name_Same (p0 : ByteArray) (p1 : ByteArray) : Option Bool :=
  (m_name_Check p0).bind fun x1 =>
  if x1 = 0 then
    (m_name_Lower p0).bind fun x4 =>
    (m_name_Lower p1).bind fun x6 =>
    some (decide (x4 = x6))
  else
    some false
theorem c_name_Same {w0 : World} {M : Nat → Prop} {H : List (Nat × Nat × Obj)} {R : List (Nat × Row)} {φ : World → Prop} (p0 : ByteArray) (p1 : ByteArray) (r : Bool) (hm : m_name_Same p0 p1 = some r) :
    Cn Try.prog 83 #[.string p0, .string p1] ⟨w0, M, H, R, φ⟩ (fun x : Unit => .bool r) (fun x => True) (fun x => ⟨w0, M, H, R, φ⟩) := by
 unfold m_name_Same at hm
 refine cn_intro (fn := Try.f83) (N := 15) Try.func83 rfl Try.ntmps83 rfl <| c_seq <| c_region <| g_v rfl r_assign <| g_nil <| d_then <| c_seq <| c_region <| g_v rfl r_move ?_
 replace hm := bnd hm
 obtain ⟨x1, hx2, hm⟩ := hm
 refine g_cn ⟨w0, M, _, _, φ⟩ (fun _ h => h) Try.call79 rfl rfl (c_name_Check p0 _ hx2) (fun _ _ => ?_)
 refine g_v rfl (r_eql rfl rfl) <| g_v rfl r_move ?_
 refine g_if rfl rfl rfl rfl rfl (fun h3 => ?_) (fun h3 => ?_)
 ·
  replace hm := ite_t hm (of_decide_eq_true h3)
  refine g_v rfl r_move <| g_do rfl rfl rfl rfl rfl h3 ?_
  replace hm := bnd hm
  obtain ⟨x4, hx5, hm⟩ := hm
  refine g_cn ⟨w0, M, _, _, φ⟩ (fun _ h => h) Try.call107 rfl rfl (c_name_Lower p0 _ hx5) (fun _ _ => ?_)
  refine g_do rfl rfl rfl rfl rfl h3 <| g_v rfl r_move <| g_do rfl rfl rfl rfl rfl h3 ?_
  replace hm := bnd hm
  obtain ⟨x6, hx7, hm⟩ := hm
  refine g_cn ⟨w0, M, _, _, φ⟩ (fun _ h => h) Try.call107 rfl rfl (c_name_Lower p1 _ hx7) (fun _ _ => ?_)
  refine g_do rfl rfl rfl rfl rfl h3 <| g_v rfl (r_eqlT rfl rfl) <| g_v rfl (r_pick1 rfl h3) <| g_v rfl r_assign <| g_nil <| d_then ?_
  refine c_flat [(4, .bool (decide (x4 = x6)))] ⟨rfl, trivial⟩ (fun u => ?_)
  refine c_sta ⟨w0, M, H, R, φ⟩ (fun _ h => h) <| c_ret ?_
  replace hm := Option.some.inj hm
  subst hm
  refine d_retC () Try.results83 ?_ trivial (fun W h => ok_pre (H1 := []) (R1 := []) h (fun W hφ => hφ)) (.inr rfl)
  refine res_tmp <| res_nil ?_
  exact rfl
 ·
  replace hm := ite_f hm (of_decide_eq_false h3)
  refine g_no rfl rfl rfl rfl rfl h3 <| g_no rfl rfl rfl rfl rfl h3 <| g_no rfl rfl rfl rfl rfl h3 <| g_no rfl rfl rfl rfl rfl h3 <| g_v rfl (r_pick0 rfl h3) <| g_v rfl r_assign <| g_nil <| d_then <| c_ret ?_
  replace hm := Option.some.inj hm
  subst hm
  refine d_retC () Try.results83 ?_ trivial (fun W h => ok_pre (H1 := []) (R1 := []) h (fun W hφ => hφ)) (.inr rfl)
  refine res_tmp <| res_nil ?_
  exact rfl
noncomputable def m_message_SameQuestion (p0 : GQuestion) (p1 : GQuestion) : Option Bool :=
  (m_name_Same p0.fName p1.fName).bind fun x3 =>
  if x3 = true then
    if p0.fType = p1.fType then
      some (decide (p0.fClass = p1.fClass))
    else
      some false
  else
    some false
theorem c_message_SameQuestion {w0 : World} {M : Nat → Prop} {H : List (Nat × Nat × Obj)} {R : List (Nat × Row)} {φ : World → Prop} (p0 : GQuestion) (p1 : GQuestion) (r : Bool) (hm : m_message_SameQuestion p0 p1 = some r) :
    Cn Try.prog 52 #[.agg #[.string p0.fName, .int .u16 p0.fType, .int .u16 p0.fClass], .agg #[.string p1.fName, .int .u16 p1.fType, .int .u16 p1.fClass]] ⟨w0, M, H, R, φ⟩ (fun x : Unit => .bool r) (fun x => True) (fun x => ⟨w0, M, H, R, φ⟩) := by
 unfold m_message_SameQuestion at hm
 refine cn_intro (fn := Try.f52) (N := 24) Try.func52 rfl Try.ntmps52 rfl <| c_seq <| c_region ?_
 refine g_e rfl (e_box 100020 rfl) (fun g1 _ => ?_)
 refine g_e rfl (e_box 100030 rfl) (fun g2 _ => ?_)
 refine g_v rfl r_assign <| g_nil <| d_then <| c_seq <| c_region <| g_v rfl (r_field (n := 0) Try.underlying74 rfl Try.sizeOf9 rfl rfl) <| g_v rfl (r_load (tag := 100020) rfl rfl rfl Try.isAgg9) <| g_v rfl (r_field (n := 0) Try.underlying74 rfl Try.sizeOf9 rfl rfl) <| g_v rfl (r_load (tag := 100030) rfl rfl rfl Try.isAgg9) ?_
 replace hm := bnd hm
 obtain ⟨x3, hx4, hm⟩ := hm
 refine g_cn ⟨w0, M, _, _, φ⟩ (fun _ h => h) Try.call83 rfl rfl (c_name_Same p0.fName p1.fName _ hx4) (fun _ _ => ?_)
 refine g_v rfl r_move ?_
 refine g_if rfl rfl rfl rfl rfl (fun h5 => ?_) (fun h5 => ?_)
 ·
  replace hm := ite_t hm h5
  refine g_v rfl (r_field (n := 1) Try.underlying74 rfl Try.sizeOf24 rfl rfl) <| g_do rfl rfl rfl rfl rfl h5 <| g_v rfl (r_load (tag := 100020) rfl rfl rfl Try.isAgg24) <| g_do rfl rfl rfl rfl rfl h5 <| g_v rfl (r_field (n := 1) Try.underlying74 rfl Try.sizeOf24 rfl rfl) <| g_do rfl rfl rfl rfl rfl h5 <| g_v rfl (r_load (tag := 100030) rfl rfl rfl Try.isAgg24) <| g_do rfl rfl rfl rfl rfl h5 <| g_v rfl (r_eql rfl rfl) <| g_v rfl (r_pick1 rfl h5) ?_
  refine g_v rfl r_move ?_
  refine g_if rfl rfl rfl rfl rfl (fun h6 => ?_) (fun h6 => ?_)
  ·
   replace hm := ite_t hm (of_decide_eq_true h6)
   refine g_v rfl (r_field (n := 2) Try.underlying74 rfl Try.sizeOf24 rfl rfl) <| g_do rfl rfl rfl rfl rfl h6 <| g_v rfl (r_load (tag := 100020) rfl rfl rfl Try.isAgg24) <| g_do rfl rfl rfl rfl rfl h6 <| g_v rfl (r_field (n := 2) Try.underlying74 rfl Try.sizeOf24 rfl rfl) <| g_do rfl rfl rfl rfl rfl h6 <| g_v rfl (r_load (tag := 100030) rfl rfl rfl Try.isAgg24) <| g_do rfl rfl rfl rfl rfl h6 <| g_v rfl (r_eql rfl rfl) <| g_v rfl (r_pick1 rfl h6) ?_
   refine g_v rfl r_assign <| g_nil <| d_then ?_
   refine c_flat [(4, .bool (decide (p0.fClass = p1.fClass)))] ⟨rfl, trivial⟩ (fun u => ?_)
   refine c_sta ⟨w0, M, (100030, g2, .cells #[.string p1.fName, .int .u16 p1.fType, .int .u16 p1.fClass] 74 (0, 0)) :: (100020, g1, .cells #[.string p0.fName, .int .u16 p0.fType, .int .u16 p0.fClass] 74 (0, 0)) :: H, R, φ⟩ (fun _ h => h) <| c_ret ?_
   replace hm := Option.some.inj hm
   subst hm
   refine d_retC () Try.results52 ?_ trivial (fun W h => ok_pre (H1 := [_, _]) (R1 := []) h (fun W hφ => hφ)) (.inr rfl)
   refine res_tmp <| res_nil ?_
   exact rfl
  ·
   replace hm := ite_f hm (of_decide_eq_false h6)
   refine g_no rfl rfl rfl rfl rfl h6 <| g_no rfl rfl rfl rfl rfl h6 <| g_no rfl rfl rfl rfl rfl h6 <| g_no rfl rfl rfl rfl rfl h6 <| g_v rfl (r_pick0 rfl h6) <| g_v rfl r_assign <| g_nil <| d_then ?_
   refine c_flat [(4, .bool false)] ⟨rfl, trivial⟩ (fun u => ?_)
   refine c_sta ⟨w0, M, (100030, g2, .cells #[.string p1.fName, .int .u16 p1.fType, .int .u16 p1.fClass] 74 (0, 0)) :: (100020, g1, .cells #[.string p0.fName, .int .u16 p0.fType, .int .u16 p0.fClass] 74 (0, 0)) :: H, R, φ⟩ (fun _ h => h) <| c_ret ?_
   replace hm := Option.some.inj hm
   subst hm
   refine d_retC () Try.results52 ?_ trivial (fun W h => ok_pre (H1 := [_, _]) (R1 := []) h (fun W hφ => hφ)) (.inr rfl)
   refine res_tmp <| res_nil ?_
   exact rfl
 ·
  replace hm := ite_f hm (bool_nt h5)
  refine g_no rfl rfl rfl rfl rfl h5 <| g_no rfl rfl rfl rfl rfl h5 <| g_no rfl rfl rfl rfl rfl h5 <| g_no rfl rfl rfl rfl rfl h5 <| g_v rfl (r_pick0 rfl h5) <| g_v rfl r_move <| g_no rfl rfl rfl rfl rfl rfl <| g_no rfl rfl rfl rfl rfl rfl <| g_no rfl rfl rfl rfl rfl rfl <| g_no rfl rfl rfl rfl rfl rfl ?_
  refine g_no rfl rfl rfl rfl rfl rfl <| g_v rfl (r_pick0 rfl rfl) <| g_v rfl r_assign <| g_nil <| d_then ?_
  refine c_flat [(4, .bool false)] ⟨rfl, trivial⟩ (fun u => ?_)
  refine c_sta ⟨w0, M, (100030, g2, .cells #[.string p1.fName, .int .u16 p1.fType, .int .u16 p1.fClass] 74 (0, 0)) :: (100020, g1, .cells #[.string p0.fName, .int .u16 p0.fType, .int .u16 p0.fClass] 74 (0, 0)) :: H, R, φ⟩ (fun _ h => h) <| c_ret ?_
  replace hm := Option.some.inj hm
  subst hm
  refine d_retC () Try.results52 ?_ trivial (fun W h => ok_pre (H1 := [_, _]) (R1 := []) h (fun W hφ => hφ)) (.inr rfl)
  refine res_tmp <| res_nil ?_
  exact rfl
noncomputable def m_message_Matches (p0 : GMessage) (p1 : GMessage) : Option Bool :=
  if p1.fResponse = true then
    if p1.fID = p0.fID then
      if p1.fOpcode = p0.fOpcode then
        if (p0.fQuestions.length : Int) = 1 then
          if (p1.fQuestions.length : Int) = 1 then
            (at_ p0.fQuestions 0).bind fun x38 =>
            (at_ p1.fQuestions 0).bind fun x42 =>
            (m_message_SameQuestion x38 x42).bind fun x46 =>
            some x46
          else
            some false
        else
          some false
      else
        some false
    else
      some false
  else
    some false
theorem c_message_Matches {w0 : World} {M : Nat → Prop} {H : List (Nat × Nat × Obj)} {R : List (Nat × Row)} {φ : World → Prop} (p0 : GMessage) (Ap0_0 : Option Addr) (cp0_0 : Nat) (hcp0_0 : p0.fQuestions.length ≤ cp0_0) (fp0_0 : ∀ W, (Sta.mk w0 M H R φ).ok W → Cl W Ap0_0 (p0.fQuestions.flatMap GQuestion.enc)) (Ap0_1 : Option Addr) (cp0_1 : Nat) (hcp0_1 : p0.fAnswers.length ≤ cp0_1) (fp0_1 : ∀ W, (Sta.mk w0 M H R φ).ok W → Cl W Ap0_1 (p0.fAnswers.flatMap GRR.enc)) (Ap0_2 : Option Addr) (cp0_2 : Nat) (hcp0_2 : p0.fAuthorities.length ≤ cp0_2) (fp0_2 : ∀ W, (Sta.mk w0 M H R φ).ok W → Cl W Ap0_2 (p0.fAuthorities.flatMap GRR.enc)) (Ap0_3 : Option Addr) (cp0_3 : Nat) (hcp0_3 : p0.fExtras.length ≤ cp0_3) (fp0_3 : ∀ W, (Sta.mk w0 M H R φ).ok W → Cl W Ap0_3 (p0.fExtras.flatMap GRR.enc)) (p1 : GMessage) (Ap1_0 : Option Addr) (cp1_0 : Nat) (hcp1_0 : p1.fQuestions.length ≤ cp1_0) (fp1_0 : ∀ W, (Sta.mk w0 M H R φ).ok W → Cl W Ap1_0 (p1.fQuestions.flatMap GQuestion.enc)) (Ap1_1 : Option Addr) (cp1_1 : Nat) (hcp1_1 : p1.fAnswers.length ≤ cp1_1) (fp1_1 : ∀ W, (Sta.mk w0 M H R φ).ok W → Cl W Ap1_1 (p1.fAnswers.flatMap GRR.enc)) (Ap1_2 : Option Addr) (cp1_2 : Nat) (hcp1_2 : p1.fAuthorities.length ≤ cp1_2) (fp1_2 : ∀ W, (Sta.mk w0 M H R φ).ok W → Cl W Ap1_2 (p1.fAuthorities.flatMap GRR.enc)) (Ap1_3 : Option Addr) (cp1_3 : Nat) (hcp1_3 : p1.fExtras.length ≤ cp1_3) (fp1_3 : ∀ W, (Sta.mk w0 M H R φ).ok W → Cl W Ap1_3 (p1.fExtras.flatMap GRR.enc)) (r : Bool) (hm : m_message_Matches p0 p1 = some r) :
    Cn Try.prog 49 #[.agg #[.int .u16 p0.fID, .bool p0.fResponse, .bool p0.fAuthoritative, .bool p0.fTruncated, .bool p0.fDesired, .bool p0.fAvailable, .int .i64 p0.fOpcode, .int .i64 p0.fCode, .slice Ap0_0 p0.fQuestions.length cp0_0, .slice Ap0_1 p0.fAnswers.length cp0_1, .slice Ap0_2 p0.fAuthorities.length cp0_2, .slice Ap0_3 p0.fExtras.length cp0_3], .agg #[.int .u16 p1.fID, .bool p1.fResponse, .bool p1.fAuthoritative, .bool p1.fTruncated, .bool p1.fDesired, .bool p1.fAvailable, .int .i64 p1.fOpcode, .int .i64 p1.fCode, .slice Ap1_0 p1.fQuestions.length cp1_0, .slice Ap1_1 p1.fAnswers.length cp1_1, .slice Ap1_2 p1.fAuthorities.length cp1_2, .slice Ap1_3 p1.fExtras.length cp1_3]] ⟨w0, M, H, R, φ⟩ (fun x : Unit => .bool r) (fun x => True) (fun x => ⟨w0, M, H, R, φ⟩) := by
 unfold m_message_Matches at hm
 refine cn_intro (fn := Try.f49) (N := 44) Try.func49 rfl Try.ntmps49 rfl <| c_seq <| c_region ?_
 refine g_e rfl (e_box 100020 rfl) (fun g1 _ => ?_)
 refine g_e rfl (e_box 100030 rfl) (fun g2 _ => ?_)
 refine g_v rfl r_assign <| g_nil <| d_then <| c_seq <| ga_start (n := 40) ⟨w0, M, (100030, g2, .cells #[.int .u16 p1.fID, .bool p1.fResponse, .bool p1.fAuthoritative, .bool p1.fTruncated, .bool p1.fDesired, .bool p1.fAvailable, .int .i64 p1.fOpcode, .int .i64 p1.fCode, .slice Ap1_0 p1.fQuestions.length cp1_0, .slice Ap1_1 p1.fAnswers.length cp1_1, .slice Ap1_2 p1.fAuthorities.length cp1_2, .slice Ap1_3 p1.fExtras.length cp1_3] 62 (0, 0)) :: (100020, g1, .cells #[.int .u16 p0.fID, .bool p0.fResponse, .bool p0.fAuthoritative, .bool p0.fTruncated, .bool p0.fDesired, .bool p0.fAvailable, .int .i64 p0.fOpcode, .int .i64 p0.fCode, .slice Ap0_0 p0.fQuestions.length cp0_0, .slice Ap0_1 p0.fAnswers.length cp0_1, .slice Ap0_2 p0.fAuthorities.length cp0_2, .slice Ap0_3 p0.fExtras.length cp0_3] 62 (0, 0)) :: H, R, φ⟩ [] #[false, false, false, false, false, false, false, false, false, false, false, false, false, false, false, false, false, false, false, false, false, false, false, false, false, false, false, false, false, false, false, false, false, false, false, false, false, false, false, false] (fun W h => h.phi (fun W hφ => hφ)) mixed rfl rfl <| ga_r (i := 0) (bz 40 1) rfl (by kernel_rfl) (by decide) rfl (r_field (n := 1) Try.underlying62 rfl Try.sizeOf4 rfl rfl) <| ga_r (i := 1) (bz 40 3) rfl (by kernel_rfl) (by decide) rfl (r_load (tag := 100030) rfl rfl rfl Try.isAgg4) <| ga_r (i := 2) (bz 40 7) rfl (by kernel_rfl) (by decide) rfl (r_move) ?_
 refine ga_if (t := 7) rfl (fun h33 => ?_) (fun h33 => ?_)
 ·
  replace hm := ite_t hm h33
  refine ga_do (i := 3) (bz 40 15) rfl (by kernel_rfl) (fun _ _ _ _ h => h) rfl rfl rfl rfl rfl h33 (r_field (n := 0) Try.underlying62 rfl Try.sizeOf24 rfl rfl) <| ga_do (i := 4) (bz 40 31) rfl (by kernel_rfl) (fun _ _ _ _ h => h) rfl rfl rfl rfl rfl h33 (r_load (tag := 100030) rfl rfl rfl Try.isAgg24) <| ga_rG (i := 5) (bz 40 63) rfl (by kernel_rfl) (by decide) rfl rfl rfl rfl rfl h33 (r_field (n := 0) Try.underlying62 rfl Try.sizeOf24 rfl rfl) <| ga_rG (i := 6) (bz 40 127) rfl (by kernel_rfl) (by decide) rfl rfl rfl rfl rfl h33 (r_load (tag := 100020) rfl rfl rfl Try.isAgg24) <| ga_rG (i := 7) (bz 40 255) rfl (by kernel_rfl) (by decide) rfl rfl rfl rfl rfl h33 (r_eql rfl rfl) <| ga_r (i := 8) (bz 40 511) rfl (by kernel_rfl) (by decide) rfl (r_pick1 rfl h33) <| ga_r (i := 9) (bz 40 1023) rfl (by kernel_rfl) (by decide) rfl (r_move) ?_
  refine ga_if (t := 14) rfl (fun h34 => ?_) (fun h34 => ?_)
  ·
   replace hm := ite_t hm (of_decide_eq_true h34)
   refine ga_do (i := 10) (bz 40 2047) rfl (by kernel_rfl) (fun _ _ _ _ h => h) rfl rfl rfl rfl rfl h34 (r_field (n := 6) Try.underlying62 rfl Try.sizeOf3 rfl rfl) <| ga_do (i := 11) (bz 40 4095) rfl (by kernel_rfl) (fun _ _ _ _ h => h) rfl rfl rfl rfl rfl h34 (r_load (tag := 100030) rfl rfl rfl Try.isAgg3) <| ga_rG (i := 12) (bz 40 8191) rfl (by kernel_rfl) (by decide) rfl rfl rfl rfl rfl h34 (r_field (n := 6) Try.underlying62 rfl Try.sizeOf3 rfl rfl) <| ga_rG (i := 13) (bz 40 16383) rfl (by kernel_rfl) (by decide) rfl rfl rfl rfl rfl h34 (r_load (tag := 100020) rfl rfl rfl Try.isAgg3) <| ga_rG (i := 14) (bz 40 32767) rfl (by kernel_rfl) (by decide) rfl rfl rfl rfl rfl h34 (r_eql rfl rfl) <| ga_r (i := 15) (bz 40 65535) rfl (by kernel_rfl) (by decide) rfl (r_pick1 rfl h34) <| ga_r (i := 16) (bz 40 131071) rfl (by kernel_rfl) (by decide) rfl (r_move) ?_
   refine ga_if (t := 21) rfl (fun h35 => ?_) (fun h35 => ?_)
   ·
    replace hm := ite_t hm (of_decide_eq_true h35)
    refine ga_rG (i := 17) (bz 40 262143) rfl (by kernel_rfl) (by decide) rfl rfl rfl rfl rfl h35 (r_field (n := 8) Try.underlying62 rfl Try.sizeOf60 rfl rfl) <| ga_rG (i := 18) (bz 40 524287) rfl (by kernel_rfl) (by decide) rfl rfl rfl rfl rfl h35 (r_load (tag := 100020) rfl rfl rfl Try.isAgg60) <| ga_rG (i := 19) (bz 40 1048575) rfl (by kernel_rfl) (by decide) rfl rfl rfl rfl rfl h35 (r_lenL Try.underlying60 rfl) <| ga_rG (i := 20) (bz 40 2097151) rfl (by kernel_rfl) (by decide) rfl rfl rfl rfl rfl h35 (r_eql rfl rfl) <| ga_r (i := 21) (bz 40 4194303) rfl (by kernel_rfl) (by decide) rfl (r_pick1 rfl h35) <| ga_r (i := 22) (bz 40 8388607) rfl (by kernel_rfl) (by decide) rfl (r_move) ?_
    refine ga_if (t := 27) rfl (fun h36 => ?_) (fun h36 => ?_)
    ·
     replace hm := ite_t hm (of_decide_eq_true h36)
     refine ga_rG (i := 23) (bz 40 16777215) rfl (by kernel_rfl) (by decide) rfl rfl rfl rfl rfl h36 (r_field (n := 8) Try.underlying62 rfl Try.sizeOf60 rfl rfl) <| ga_rG (i := 24) (bz 40 33554431) rfl (by kernel_rfl) (by decide) rfl rfl rfl rfl rfl h36 (r_load (tag := 100030) rfl rfl rfl Try.isAgg60) <| ga_rG (i := 25) (bz 40 67108863) rfl (by kernel_rfl) (by decide) rfl rfl rfl rfl rfl h36 (r_lenL Try.underlying60 rfl) <| ga_rG (i := 26) (bz 40 134217727) rfl (by kernel_rfl) (by decide) rfl rfl rfl rfl rfl h36 (r_eql rfl rfl) <| ga_r (i := 27) (bz 40 268435455) rfl (by kernel_rfl) (by decide) rfl (r_pick1 rfl h36) <| ga_r (i := 28) (bz 40 536870911) rfl (by kernel_rfl) (by decide) rfl (r_move) ?_
     refine ga_if (t := 33) rfl (fun h37 => ?_) (fun h37 => ?_)
     ·
      replace hm := ite_t hm (of_decide_eq_true h37)
      refine ga_do (i := 29) (bz 40 1073741823) rfl (by kernel_rfl) (fun _ _ _ _ h => h) rfl rfl rfl rfl rfl h37 (r_field (n := 8) Try.underlying62 rfl Try.sizeOf60 rfl rfl) <| ga_do (i := 30) (bz 40 2147483647) rfl (by kernel_rfl) (fun _ _ _ _ h => h) rfl rfl rfl rfl rfl h37 (r_load (tag := 100020) rfl rfl rfl Try.isAgg60) ?_
      replace hm := bnd hm
      obtain ⟨x38, hx38, hm⟩ := hm
      refine ga_know _ (fun W hS => cl_at (p := (Sta.mk w0 M H R φ).ok) (sz := 3) (fun _ => rfl) (by decide) (ok_pre (H1 := [_, _]) (R1 := []) hS (fun W h => h)) fp0_0 hx38) ?_
      rintro ⟨ad39, hA41, f40⟩
      refine ga_do (i := 31) (bz 40 4294967295) rfl (by kernel_rfl) (fun _ _ _ _ h => h) rfl rfl rfl rfl rfl h37 (r_ix Try.underlying60 Try.sizeOf74 rfl hA41 rfl hx38) <| ga_do (i := 32) (bz 40 8589934591) rfl (by kernel_rfl) (fun _ _ _ _ h => h) rfl rfl rfl rfl rfl h37 (r_ldA rfl Try.isAgg74 Try.sizeOf74 (fun W hS => (f40 W (ok_pre (H1 := [_, _]) (R1 := []) hS (fun W h => h))).take 3) rfl) <| ga_rG (i := 33) (bz 40 17179869183) rfl (by kernel_rfl) (by decide) rfl rfl rfl rfl rfl h37 (r_field (n := 8) Try.underlying62 rfl Try.sizeOf60 rfl rfl) <| ga_rG (i := 34) (bz 40 34359738367) rfl (by kernel_rfl) (by decide) rfl rfl rfl rfl rfl h37 (r_load (tag := 100030) rfl rfl rfl Try.isAgg60) ?_
      replace hm := bnd hm
      obtain ⟨x42, hx42, hm⟩ := hm
      refine ga_know _ (fun W hS => cl_at (p := (Sta.mk w0 M H R φ).ok) (sz := 3) (fun _ => rfl) (by decide) (ok_pre (H1 := [_, _]) (R1 := []) hS (fun W h => h)) fp1_0 hx42) ?_
      rintro ⟨ad43, hA45, f44⟩
      refine ga_rG (i := 35) (bz 40 68719476735) rfl (by kernel_rfl) (by decide) rfl rfl rfl rfl rfl h37 (r_ix Try.underlying60 Try.sizeOf74 rfl hA45 rfl hx42) <| ga_rG (i := 36) (bz 40 137438953471) rfl (by kernel_rfl) (by decide) rfl rfl rfl rfl rfl h37 (r_ldA rfl Try.isAgg74 Try.sizeOf74 (fun W hS => (f44 W (ok_pre (H1 := [_, _]) (R1 := []) hS (fun W h => h))).take 3) rfl) ?_
      replace hm := bnd hm
      obtain ⟨x46, hx47, hm⟩ := hm
      refine ga_cnG (first := #[]) (i := 37) (bz 40 274877906943) rfl (by kernel_rfl) (by decide) rfl rfl rfl rfl h37  ⟨w0, M, _, _, φ⟩ (fun _ h => h) Try.call52 rfl rfl rfl (c_message_SameQuestion x38 x42 _ hx47) (fun _ W _ h => h.phi (fun W hφ => hφ)) (fun _ _ => ?_)
      refine ga_r (i := 38) (bz 40 549755813887) rfl (by kernel_rfl) (by decide) rfl (r_pick1 rfl h37) <| ga_r (i := 39) (bz 40 1099511627775) rfl (by kernel_rfl) (by decide) rfl (r_assign) <| ga_done (by kernel_rfl) <| d_then ?_
      refine c_flat [(4, .bool x46)] ⟨rfl, trivial⟩ (fun u => ?_)
      refine c_sta ⟨w0, M, (100030, g2, .cells #[.int .u16 p1.fID, .bool p1.fResponse, .bool p1.fAuthoritative, .bool p1.fTruncated, .bool p1.fDesired, .bool p1.fAvailable, .int .i64 p1.fOpcode, .int .i64 p1.fCode, .slice Ap1_0 p1.fQuestions.length cp1_0, .slice Ap1_1 p1.fAnswers.length cp1_1, .slice Ap1_2 p1.fAuthorities.length cp1_2, .slice Ap1_3 p1.fExtras.length cp1_3] 62 (0, 0)) :: (100020, g1, .cells #[.int .u16 p0.fID, .bool p0.fResponse, .bool p0.fAuthoritative, .bool p0.fTruncated, .bool p0.fDesired, .bool p0.fAvailable, .int .i64 p0.fOpcode, .int .i64 p0.fCode, .slice Ap0_0 p0.fQuestions.length cp0_0, .slice Ap0_1 p0.fAnswers.length cp0_1, .slice Ap0_2 p0.fAuthorities.length cp0_2, .slice Ap0_3 p0.fExtras.length cp0_3] 62 (0, 0)) :: H, R, φ⟩ (fun _ h => h) <| c_ret ?_
      replace hm := Option.some.inj hm
      subst hm
      refine d_retC () Try.results49 ?_ trivial (fun W h => ok_pre (H1 := [_, _]) (R1 := []) h (fun W hφ => hφ)) (.inr rfl)
      refine res_tmp <| res_nil ?_
      exact rfl
     ·
      replace hm := ite_f hm (of_decide_eq_false h37)
      refine ga_no (i := 29) (bz 40 1073741823) rfl (by kernel_rfl) (fun _ _ _ _ h => h) rfl rfl rfl rfl rfl h37 <| ga_no (i := 30) (bz 40 2147483647) rfl (by kernel_rfl) (fun _ _ _ _ h => h) rfl rfl rfl rfl rfl h37 <| ga_no (i := 31) (bz 40 4294967295) rfl (by kernel_rfl) (fun _ _ _ _ h => h) rfl rfl rfl rfl rfl h37 <| ga_no (i := 32) (bz 40 8589934591) rfl (by kernel_rfl) (fun _ _ _ _ h => h) rfl rfl rfl rfl rfl h37 <| ga_no (i := 33) (bz 40 17179869183) rfl (by kernel_rfl) (fun _ _ _ _ h => h) rfl rfl rfl rfl rfl h37 <| ga_no (i := 34) (bz 40 34359738367) rfl (by kernel_rfl) (fun _ _ _ _ h => h) rfl rfl rfl rfl rfl h37 <| ga_no (i := 35) (bz 40 68719476735) rfl (by kernel_rfl) (fun _ _ _ _ h => h) rfl rfl rfl rfl rfl h37 <| ga_no (i := 36) (bz 40 137438953471) rfl (by kernel_rfl) (fun _ _ _ _ h => h) rfl rfl rfl rfl rfl h37 <| ga_no (i := 37) (bz 40 274877906943) rfl (by kernel_rfl) (fun _ _ _ _ h => h) rfl rfl rfl rfl rfl h37 <| ga_r (i := 38) (bz 40 549755813887) rfl (by kernel_rfl) (by decide) rfl (r_pick0 rfl h37) ?_
      refine ga_r (i := 39) (bz 40 1099511627775) rfl (by kernel_rfl) (by decide) rfl (r_assign) <| ga_done (by kernel_rfl) <| d_then ?_
      refine c_flat [(4, .bool false)] ⟨rfl, trivial⟩ (fun u => ?_)
      refine c_sta ⟨w0, M, (100030, g2, .cells #[.int .u16 p1.fID, .bool p1.fResponse, .bool p1.fAuthoritative, .bool p1.fTruncated, .bool p1.fDesired, .bool p1.fAvailable, .int .i64 p1.fOpcode, .int .i64 p1.fCode, .slice Ap1_0 p1.fQuestions.length cp1_0, .slice Ap1_1 p1.fAnswers.length cp1_1, .slice Ap1_2 p1.fAuthorities.length cp1_2, .slice Ap1_3 p1.fExtras.length cp1_3] 62 (0, 0)) :: (100020, g1, .cells #[.int .u16 p0.fID, .bool p0.fResponse, .bool p0.fAuthoritative, .bool p0.fTruncated, .bool p0.fDesired, .bool p0.fAvailable, .int .i64 p0.fOpcode, .int .i64 p0.fCode, .slice Ap0_0 p0.fQuestions.length cp0_0, .slice Ap0_1 p0.fAnswers.length cp0_1, .slice Ap0_2 p0.fAuthorities.length cp0_2, .slice Ap0_3 p0.fExtras.length cp0_3] 62 (0, 0)) :: H, R, φ⟩ (fun _ h => h) <| c_ret ?_
      replace hm := Option.some.inj hm
      subst hm
      refine d_retC () Try.results49 ?_ trivial (fun W h => ok_pre (H1 := [_, _]) (R1 := []) h (fun W hφ => hφ)) (.inr rfl)
      refine res_tmp <| res_nil ?_
      exact rfl
    ·
     replace hm := ite_f hm (of_decide_eq_false h36)
     refine ga_no (i := 23) (bz 40 16777215) rfl (by kernel_rfl) (fun _ _ _ _ h => h) rfl rfl rfl rfl rfl h36 <| ga_no (i := 24) (bz 40 33554431) rfl (by kernel_rfl) (fun _ _ _ _ h => h) rfl rfl rfl rfl rfl h36 <| ga_no (i := 25) (bz 40 67108863) rfl (by kernel_rfl) (fun _ _ _ _ h => h) rfl rfl rfl rfl rfl h36 <| ga_no (i := 26) (bz 40 134217727) rfl (by kernel_rfl) (fun _ _ _ _ h => h) rfl rfl rfl rfl rfl h36 <| ga_r (i := 27) (bz 40 268435455) rfl (by kernel_rfl) (by decide) rfl (r_pick0 rfl h36) <| ga_r (i := 28) (bz 40 536870911) rfl (by kernel_rfl) (by decide) rfl (r_move) <| ga_no (i := 29) (bz 40 1073741823) rfl (by kernel_rfl) (fun _ _ _ _ h => h) rfl rfl rfl rfl rfl rfl <| ga_no (i := 30) (bz 40 2147483647) rfl (by kernel_rfl) (fun _ _ _ _ h => h) rfl rfl rfl rfl rfl rfl <| ga_no (i := 31) (bz 40 4294967295) rfl (by kernel_rfl) (fun _ _ _ _ h => h) rfl rfl rfl rfl rfl rfl <| ga_no (i := 32) (bz 40 8589934591) rfl (by kernel_rfl) (fun _ _ _ _ h => h) rfl rfl rfl rfl rfl rfl ?_
     refine ga_no (i := 33) (bz 40 17179869183) rfl (by kernel_rfl) (fun _ _ _ _ h => h) rfl rfl rfl rfl rfl rfl <| ga_no (i := 34) (bz 40 34359738367) rfl (by kernel_rfl) (fun _ _ _ _ h => h) rfl rfl rfl rfl rfl rfl <| ga_no (i := 35) (bz 40 68719476735) rfl (by kernel_rfl) (fun _ _ _ _ h => h) rfl rfl rfl rfl rfl rfl <| ga_no (i := 36) (bz 40 137438953471) rfl (by kernel_rfl) (fun _ _ _ _ h => h) rfl rfl rfl rfl rfl rfl <| ga_no (i := 37) (bz 40 274877906943) rfl (by kernel_rfl) (fun _ _ _ _ h => h) rfl rfl rfl rfl rfl rfl <| ga_r (i := 38) (bz 40 549755813887) rfl (by kernel_rfl) (by decide) rfl (r_pick0 rfl rfl) <| ga_r (i := 39) (bz 40 1099511627775) rfl (by kernel_rfl) (by decide) rfl (r_assign) <| ga_done (by kernel_rfl) <| d_then ?_
     refine c_flat [(4, .bool false)] ⟨rfl, trivial⟩ (fun u => ?_)
     refine c_sta ⟨w0, M, (100030, g2, .cells #[.int .u16 p1.fID, .bool p1.fResponse, .bool p1.fAuthoritative, .bool p1.fTruncated, .bool p1.fDesired, .bool p1.fAvailable, .int .i64 p1.fOpcode, .int .i64 p1.fCode, .slice Ap1_0 p1.fQuestions.length cp1_0, .slice Ap1_1 p1.fAnswers.length cp1_1, .slice Ap1_2 p1.fAuthorities.length cp1_2, .slice Ap1_3 p1.fExtras.length cp1_3] 62 (0, 0)) :: (100020, g1, .cells #[.int .u16 p0.fID, .bool p0.fResponse, .bool p0.fAuthoritative, .bool p0.fTruncated, .bool p0.fDesired, .bool p0.fAvailable, .int .i64 p0.fOpcode, .int .i64 p0.fCode, .slice Ap0_0 p0.fQuestions.length cp0_0, .slice Ap0_1 p0.fAnswers.length cp0_1, .slice Ap0_2 p0.fAuthorities.length cp0_2, .slice Ap0_3 p0.fExtras.length cp0_3] 62 (0, 0)) :: H, R, φ⟩ (fun _ h => h) <| c_ret ?_
     replace hm := Option.some.inj hm
     subst hm
     refine d_retC () Try.results49 ?_ trivial (fun W h => ok_pre (H1 := [_, _]) (R1 := []) h (fun W hφ => hφ)) (.inr rfl)
     refine res_tmp <| res_nil ?_
     exact rfl
   ·
    replace hm := ite_f hm (of_decide_eq_false h35)
    refine ga_no (i := 17) (bz 40 262143) rfl (by kernel_rfl) (fun _ _ _ _ h => h) rfl rfl rfl rfl rfl h35 <| ga_no (i := 18) (bz 40 524287) rfl (by kernel_rfl) (fun _ _ _ _ h => h) rfl rfl rfl rfl rfl h35 <| ga_no (i := 19) (bz 40 1048575) rfl (by kernel_rfl) (fun _ _ _ _ h => h) rfl rfl rfl rfl rfl h35 <| ga_no (i := 20) (bz 40 2097151) rfl (by kernel_rfl) (fun _ _ _ _ h => h) rfl rfl rfl rfl rfl h35 <| ga_r (i := 21) (bz 40 4194303) rfl (by kernel_rfl) (by decide) rfl (r_pick0 rfl h35) <| ga_r (i := 22) (bz 40 8388607) rfl (by kernel_rfl) (by decide) rfl (r_move) <| ga_no (i := 23) (bz 40 16777215) rfl (by kernel_rfl) (fun _ _ _ _ h => h) rfl rfl rfl rfl rfl rfl <| ga_no (i := 24) (bz 40 33554431) rfl (by kernel_rfl) (fun _ _ _ _ h => h) rfl rfl rfl rfl rfl rfl <| ga_no (i := 25) (bz 40 67108863) rfl (by kernel_rfl) (fun _ _ _ _ h => h) rfl rfl rfl rfl rfl rfl <| ga_no (i := 26) (bz 40 134217727) rfl (by kernel_rfl) (fun _ _ _ _ h => h) rfl rfl rfl rfl rfl rfl ?_
    refine ga_r (i := 27) (bz 40 268435455) rfl (by kernel_rfl) (by decide) rfl (r_pick0 rfl rfl) <| ga_r (i := 28) (bz 40 536870911) rfl (by kernel_rfl) (by decide) rfl (r_move) <| ga_no (i := 29) (bz 40 1073741823) rfl (by kernel_rfl) (fun _ _ _ _ h => h) rfl rfl rfl rfl rfl rfl <| ga_no (i := 30) (bz 40 2147483647) rfl (by kernel_rfl) (fun _ _ _ _ h => h) rfl rfl rfl rfl rfl rfl <| ga_no (i := 31) (bz 40 4294967295) rfl (by kernel_rfl) (fun _ _ _ _ h => h) rfl rfl rfl rfl rfl rfl <| ga_no (i := 32) (bz 40 8589934591) rfl (by kernel_rfl) (fun _ _ _ _ h => h) rfl rfl rfl rfl rfl rfl <| ga_no (i := 33) (bz 40 17179869183) rfl (by kernel_rfl) (fun _ _ _ _ h => h) rfl rfl rfl rfl rfl rfl <| ga_no (i := 34) (bz 40 34359738367) rfl (by kernel_rfl) (fun _ _ _ _ h => h) rfl rfl rfl rfl rfl rfl <| ga_no (i := 35) (bz 40 68719476735) rfl (by kernel_rfl) (fun _ _ _ _ h => h) rfl rfl rfl rfl rfl rfl <| ga_no (i := 36) (bz 40 137438953471) rfl (by kernel_rfl) (fun _ _ _ _ h => h) rfl rfl rfl rfl rfl rfl ?_
    refine ga_no (i := 37) (bz 40 274877906943) rfl (by kernel_rfl) (fun _ _ _ _ h => h) rfl rfl rfl rfl rfl rfl <| ga_r (i := 38) (bz 40 549755813887) rfl (by kernel_rfl) (by decide) rfl (r_pick0 rfl rfl) <| ga_r (i := 39) (bz 40 1099511627775) rfl (by kernel_rfl) (by decide) rfl (r_assign) <| ga_done (by kernel_rfl) <| d_then ?_
    refine c_flat [(4, .bool false)] ⟨rfl, trivial⟩ (fun u => ?_)
    refine c_sta ⟨w0, M, (100030, g2, .cells #[.int .u16 p1.fID, .bool p1.fResponse, .bool p1.fAuthoritative, .bool p1.fTruncated, .bool p1.fDesired, .bool p1.fAvailable, .int .i64 p1.fOpcode, .int .i64 p1.fCode, .slice Ap1_0 p1.fQuestions.length cp1_0, .slice Ap1_1 p1.fAnswers.length cp1_1, .slice Ap1_2 p1.fAuthorities.length cp1_2, .slice Ap1_3 p1.fExtras.length cp1_3] 62 (0, 0)) :: (100020, g1, .cells #[.int .u16 p0.fID, .bool p0.fResponse, .bool p0.fAuthoritative, .bool p0.fTruncated, .bool p0.fDesired, .bool p0.fAvailable, .int .i64 p0.fOpcode, .int .i64 p0.fCode, .slice Ap0_0 p0.fQuestions.length cp0_0, .slice Ap0_1 p0.fAnswers.length cp0_1, .slice Ap0_2 p0.fAuthorities.length cp0_2, .slice Ap0_3 p0.fExtras.length cp0_3] 62 (0, 0)) :: H, R, φ⟩ (fun _ h => h) <| c_ret ?_
    replace hm := Option.some.inj hm
    subst hm
    refine d_retC () Try.results49 ?_ trivial (fun W h => ok_pre (H1 := [_, _]) (R1 := []) h (fun W hφ => hφ)) (.inr rfl)
    refine res_tmp <| res_nil ?_
    exact rfl
  ·
   replace hm := ite_f hm (of_decide_eq_false h34)
   refine ga_no (i := 10) (bz 40 2047) rfl (by kernel_rfl) (fun _ _ _ _ h => h) rfl rfl rfl rfl rfl h34 <| ga_no (i := 11) (bz 40 4095) rfl (by kernel_rfl) (fun _ _ _ _ h => h) rfl rfl rfl rfl rfl h34 <| ga_no (i := 12) (bz 40 8191) rfl (by kernel_rfl) (fun _ _ _ _ h => h) rfl rfl rfl rfl rfl h34 <| ga_no (i := 13) (bz 40 16383) rfl (by kernel_rfl) (fun _ _ _ _ h => h) rfl rfl rfl rfl rfl h34 <| ga_no (i := 14) (bz 40 32767) rfl (by kernel_rfl) (fun _ _ _ _ h => h) rfl rfl rfl rfl rfl h34 <| ga_r (i := 15) (bz 40 65535) rfl (by kernel_rfl) (by decide) rfl (r_pick0 rfl h34) <| ga_r (i := 16) (bz 40 131071) rfl (by kernel_rfl) (by decide) rfl (r_move) <| ga_no (i := 17) (bz 40 262143) rfl (by kernel_rfl) (fun _ _ _ _ h => h) rfl rfl rfl rfl rfl rfl <| ga_no (i := 18) (bz 40 524287) rfl (by kernel_rfl) (fun _ _ _ _ h => h) rfl rfl rfl rfl rfl rfl <| ga_no (i := 19) (bz 40 1048575) rfl (by kernel_rfl) (fun _ _ _ _ h => h) rfl rfl rfl rfl rfl rfl ?_
   refine ga_no (i := 20) (bz 40 2097151) rfl (by kernel_rfl) (fun _ _ _ _ h => h) rfl rfl rfl rfl rfl rfl <| ga_r (i := 21) (bz 40 4194303) rfl (by kernel_rfl) (by decide) rfl (r_pick0 rfl rfl) <| ga_r (i := 22) (bz 40 8388607) rfl (by kernel_rfl) (by decide) rfl (r_move) <| ga_no (i := 23) (bz 40 16777215) rfl (by kernel_rfl) (fun _ _ _ _ h => h) rfl rfl rfl rfl rfl rfl <| ga_no (i := 24) (bz 40 33554431) rfl (by kernel_rfl) (fun _ _ _ _ h => h) rfl rfl rfl rfl rfl rfl <| ga_no (i := 25) (bz 40 67108863) rfl (by kernel_rfl) (fun _ _ _ _ h => h) rfl rfl rfl rfl rfl rfl <| ga_no (i := 26) (bz 40 134217727) rfl (by kernel_rfl) (fun _ _ _ _ h => h) rfl rfl rfl rfl rfl rfl <| ga_r (i := 27) (bz 40 268435455) rfl (by kernel_rfl) (by decide) rfl (r_pick0 rfl rfl) <| ga_r (i := 28) (bz 40 536870911) rfl (by kernel_rfl) (by decide) rfl (r_move) <| ga_no (i := 29) (bz 40 1073741823) rfl (by kernel_rfl) (fun _ _ _ _ h => h) rfl rfl rfl rfl rfl rfl ?_
   refine ga_no (i := 30) (bz 40 2147483647) rfl (by kernel_rfl) (fun _ _ _ _ h => h) rfl rfl rfl rfl rfl rfl <| ga_no (i := 31) (bz 40 4294967295) rfl (by kernel_rfl) (fun _ _ _ _ h => h) rfl rfl rfl rfl rfl rfl <| ga_no (i := 32) (bz 40 8589934591) rfl (by kernel_rfl) (fun _ _ _ _ h => h) rfl rfl rfl rfl rfl rfl <| ga_no (i := 33) (bz 40 17179869183) rfl (by kernel_rfl) (fun _ _ _ _ h => h) rfl rfl rfl rfl rfl rfl <| ga_no (i := 34) (bz 40 34359738367) rfl (by kernel_rfl) (fun _ _ _ _ h => h) rfl rfl rfl rfl rfl rfl <| ga_no (i := 35) (bz 40 68719476735) rfl (by kernel_rfl) (fun _ _ _ _ h => h) rfl rfl rfl rfl rfl rfl <| ga_no (i := 36) (bz 40 137438953471) rfl (by kernel_rfl) (fun _ _ _ _ h => h) rfl rfl rfl rfl rfl rfl <| ga_no (i := 37) (bz 40 274877906943) rfl (by kernel_rfl) (fun _ _ _ _ h => h) rfl rfl rfl rfl rfl rfl <| ga_r (i := 38) (bz 40 549755813887) rfl (by kernel_rfl) (by decide) rfl (r_pick0 rfl rfl) <| ga_r (i := 39) (bz 40 1099511627775) rfl (by kernel_rfl) (by decide) rfl (r_assign) ?_
   refine ga_done (by kernel_rfl) <| d_then ?_
   refine c_flat [(4, .bool false)] ⟨rfl, trivial⟩ (fun u => ?_)
   refine c_sta ⟨w0, M, (100030, g2, .cells #[.int .u16 p1.fID, .bool p1.fResponse, .bool p1.fAuthoritative, .bool p1.fTruncated, .bool p1.fDesired, .bool p1.fAvailable, .int .i64 p1.fOpcode, .int .i64 p1.fCode, .slice Ap1_0 p1.fQuestions.length cp1_0, .slice Ap1_1 p1.fAnswers.length cp1_1, .slice Ap1_2 p1.fAuthorities.length cp1_2, .slice Ap1_3 p1.fExtras.length cp1_3] 62 (0, 0)) :: (100020, g1, .cells #[.int .u16 p0.fID, .bool p0.fResponse, .bool p0.fAuthoritative, .bool p0.fTruncated, .bool p0.fDesired, .bool p0.fAvailable, .int .i64 p0.fOpcode, .int .i64 p0.fCode, .slice Ap0_0 p0.fQuestions.length cp0_0, .slice Ap0_1 p0.fAnswers.length cp0_1, .slice Ap0_2 p0.fAuthorities.length cp0_2, .slice Ap0_3 p0.fExtras.length cp0_3] 62 (0, 0)) :: H, R, φ⟩ (fun _ h => h) <| c_ret ?_
   replace hm := Option.some.inj hm
   subst hm
   refine d_retC () Try.results49 ?_ trivial (fun W h => ok_pre (H1 := [_, _]) (R1 := []) h (fun W hφ => hφ)) (.inr rfl)
   refine res_tmp <| res_nil ?_
   exact rfl
 ·
  replace hm := ite_f hm (bool_nt h33)
  refine ga_no (i := 3) (bz 40 15) rfl (by kernel_rfl) (fun _ _ _ _ h => h) rfl rfl rfl rfl rfl h33 <| ga_no (i := 4) (bz 40 31) rfl (by kernel_rfl) (fun _ _ _ _ h => h) rfl rfl rfl rfl rfl h33 <| ga_no (i := 5) (bz 40 63) rfl (by kernel_rfl) (fun _ _ _ _ h => h) rfl rfl rfl rfl rfl h33 <| ga_no (i := 6) (bz 40 127) rfl (by kernel_rfl) (fun _ _ _ _ h => h) rfl rfl rfl rfl rfl h33 <| ga_no (i := 7) (bz 40 255) rfl (by kernel_rfl) (fun _ _ _ _ h => h) rfl rfl rfl rfl rfl h33 <| ga_r (i := 8) (bz 40 511) rfl (by kernel_rfl) (by decide) rfl (r_pick0 rfl h33) <| ga_r (i := 9) (bz 40 1023) rfl (by kernel_rfl) (by decide) rfl (r_move) <| ga_no (i := 10) (bz 40 2047) rfl (by kernel_rfl) (fun _ _ _ _ h => h) rfl rfl rfl rfl rfl rfl <| ga_no (i := 11) (bz 40 4095) rfl (by kernel_rfl) (fun _ _ _ _ h => h) rfl rfl rfl rfl rfl rfl <| ga_no (i := 12) (bz 40 8191) rfl (by kernel_rfl) (fun _ _ _ _ h => h) rfl rfl rfl rfl rfl rfl ?_
  refine ga_no (i := 13) (bz 40 16383) rfl (by kernel_rfl) (fun _ _ _ _ h => h) rfl rfl rfl rfl rfl rfl <| ga_no (i := 14) (bz 40 32767) rfl (by kernel_rfl) (fun _ _ _ _ h => h) rfl rfl rfl rfl rfl rfl <| ga_r (i := 15) (bz 40 65535) rfl (by kernel_rfl) (by decide) rfl (r_pick0 rfl rfl) <| ga_r (i := 16) (bz 40 131071) rfl (by kernel_rfl) (by decide) rfl (r_move) <| ga_no (i := 17) (bz 40 262143) rfl (by kernel_rfl) (fun _ _ _ _ h => h) rfl rfl rfl rfl rfl rfl <| ga_no (i := 18) (bz 40 524287) rfl (by kernel_rfl) (fun _ _ _ _ h => h) rfl rfl rfl rfl rfl rfl <| ga_no (i := 19) (bz 40 1048575) rfl (by kernel_rfl) (fun _ _ _ _ h => h) rfl rfl rfl rfl rfl rfl <| ga_no (i := 20) (bz 40 2097151) rfl (by kernel_rfl) (fun _ _ _ _ h => h) rfl rfl rfl rfl rfl rfl <| ga_r (i := 21) (bz 40 4194303) rfl (by kernel_rfl) (by decide) rfl (r_pick0 rfl rfl) <| ga_r (i := 22) (bz 40 8388607) rfl (by kernel_rfl) (by decide) rfl (r_move) ?_
  refine ga_no (i := 23) (bz 40 16777215) rfl (by kernel_rfl) (fun _ _ _ _ h => h) rfl rfl rfl rfl rfl rfl <| ga_no (i := 24) (bz 40 33554431) rfl (by kernel_rfl) (fun _ _ _ _ h => h) rfl rfl rfl rfl rfl rfl <| ga_no (i := 25) (bz 40 67108863) rfl (by kernel_rfl) (fun _ _ _ _ h => h) rfl rfl rfl rfl rfl rfl <| ga_no (i := 26) (bz 40 134217727) rfl (by kernel_rfl) (fun _ _ _ _ h => h) rfl rfl rfl rfl rfl rfl <| ga_r (i := 27) (bz 40 268435455) rfl (by kernel_rfl) (by decide) rfl (r_pick0 rfl rfl) <| ga_r (i := 28) (bz 40 536870911) rfl (by kernel_rfl) (by decide) rfl (r_move) <| ga_no (i := 29) (bz 40 1073741823) rfl (by kernel_rfl) (fun _ _ _ _ h => h) rfl rfl rfl rfl rfl rfl <| ga_no (i := 30) (bz 40 2147483647) rfl (by kernel_rfl) (fun _ _ _ _ h => h) rfl rfl rfl rfl rfl rfl <| ga_no (i := 31) (bz 40 4294967295) rfl (by kernel_rfl) (fun _ _ _ _ h => h) rfl rfl rfl rfl rfl rfl <| ga_no (i := 32) (bz 40 8589934591) rfl (by kernel_rfl) (fun _ _ _ _ h => h) rfl rfl rfl rfl rfl rfl ?_
  refine ga_no (i := 33) (bz 40 17179869183) rfl (by kernel_rfl) (fun _ _ _ _ h => h) rfl rfl rfl rfl rfl rfl <| ga_no (i := 34) (bz 40 34359738367) rfl (by kernel_rfl) (fun _ _ _ _ h => h) rfl rfl rfl rfl rfl rfl <| ga_no (i := 35) (bz 40 68719476735) rfl (by kernel_rfl) (fun _ _ _ _ h => h) rfl rfl rfl rfl rfl rfl <| ga_no (i := 36) (bz 40 137438953471) rfl (by kernel_rfl) (fun _ _ _ _ h => h) rfl rfl rfl rfl rfl rfl <| ga_no (i := 37) (bz 40 274877906943) rfl (by kernel_rfl) (fun _ _ _ _ h => h) rfl rfl rfl rfl rfl rfl <| ga_r (i := 38) (bz 40 549755813887) rfl (by kernel_rfl) (by decide) rfl (r_pick0 rfl rfl) <| ga_r (i := 39) (bz 40 1099511627775) rfl (by kernel_rfl) (by decide) rfl (r_assign) <| ga_done (by kernel_rfl) <| d_then ?_
  refine c_flat [(4, .bool false)] ⟨rfl, trivial⟩ (fun u => ?_)
  refine c_sta ⟨w0, M, (100030, g2, .cells #[.int .u16 p1.fID, .bool p1.fResponse, .bool p1.fAuthoritative, .bool p1.fTruncated, .bool p1.fDesired, .bool p1.fAvailable, .int .i64 p1.fOpcode, .int .i64 p1.fCode, .slice Ap1_0 p1.fQuestions.length cp1_0, .slice Ap1_1 p1.fAnswers.length cp1_1, .slice Ap1_2 p1.fAuthorities.length cp1_2, .slice Ap1_3 p1.fExtras.length cp1_3] 62 (0, 0)) :: (100020, g1, .cells #[.int .u16 p0.fID, .bool p0.fResponse, .bool p0.fAuthoritative, .bool p0.fTruncated, .bool p0.fDesired, .bool p0.fAvailable, .int .i64 p0.fOpcode, .int .i64 p0.fCode, .slice Ap0_0 p0.fQuestions.length cp0_0, .slice Ap0_1 p0.fAnswers.length cp0_1, .slice Ap0_2 p0.fAuthorities.length cp0_2, .slice Ap0_3 p0.fExtras.length cp0_3] 62 (0, 0)) :: H, R, φ⟩ (fun _ h => h) <| c_ret ?_
  replace hm := Option.some.inj hm
  subst hm
  refine d_retC () Try.results49 ?_ trivial (fun W h => ok_pre (H1 := [_, _]) (R1 := []) h (fun W hφ => hφ)) (.inr rfl)
  refine res_tmp <| res_nil ?_
  exact rfl
end Go.Proofs.Ytpdhdpefdgndeaa
