import Derived.Test.YtildknbbpkbkeabV6B
set_option maxRecDepth 16384
set_option maxHeartbeats 4000000
set_option linter.unusedVariables false
set_option linter.unusedSimpArgs false
namespace Go.Proofs.Ytildknbbpkbkeab
open Go.RowKit Go.Proofs.YtildknbbpkbkeabW.PrintLast
structure GHardD where
  val : GHard
  A0 : Option Addr
  c0 : Nat
  A1 : Option Addr
  c1 : Nat
def GHardD.enc (z : GHardD) : List Value := [.int .i64 z.val.fTerm, .int .i64 z.val.fVote, .slice z.A0 z.val.fVoters.length z.c0, .string z.val.fSnap, .int .i64 z.val.fLog.fBase, .int .i64 z.val.fLog.fBaseTerm, .slice z.A1 z.val.fLog.fEntries.length z.c1]
def GHardD.caps (z : GHardD) : Prop := z.val.fVoters.length ≤ z.c0 ∧ z.val.fLog.fEntries.length ≤ z.c1
def GHardD.own (W : World) (z : GHardD) : Prop := Cl W z.A0 (z.val.fVoters.flatMap (fun x : Int => [Value.int .i64 x])) ∧ Cl W z.A1 (z.val.fLog.fEntries.flatMap GEntry.enc)
noncomputable def m_law11_few_j1  (l94 : List GEntry) : Option (List GEntry) :=
  some l94
noncomputable def m_law11_few_j3 (l114 : List GEntry) (x139 : GEntry) (i117 : Int) (s146 : ByteArray) : Option (((List GEntry) × Int) ⊕ (List GEntry)) :=
  (app 32 l114 [(⟨x139.fTerm, x139.fKind, s146⟩ : GEntry)]).bind fun l148 =>
  some (.inl (l148, w64 (i117 + 1)))
noncomputable def m_law11_few_s2 (p0 : List GEntry) (l114 : List GEntry) (i117 : Int) : Option (((List GEntry) × Int) ⊕ (List GEntry)) :=
  if i117 < (p0.length : Int) then
    if i117 < 40 then
      (at_ p0 i117).bind fun x139 =>
      if 60 < (x139.fData.size : Int) then
        (scutHi x139.fData 60).bind fun s153 =>
        m_law11_few_j3 l114 x139 i117 s153
      else
        m_law11_few_j3 l114 x139 i117 x139.fData
    else
      some (.inr l114)
  else
    some (.inr l114)
noncomputable def m_law11_few (p0 : List GEntry) : Option (List GEntry) :=
  (loop (fun s => m_law11_few_s2 p0 s.1 s.2) (([] : List GEntry), 0)).bind fun e => m_law11_few_j1 e
theorem c_law11_few {w0 : World} {M : Nat → Prop} {H : List (Nat × Nat × Obj)} {R : List (Nat × Row)} {φ : World → Prop} (p0 : List GEntry) (Ap0_0 : Option Addr) (cp0_0 : Nat) (hcp0_0 : p0.length ≤ cp0_0) (fp0_0 : ∀ W, (Sta.mk w0 M H R φ).ok W → Cl W Ap0_0 (p0.flatMap GEntry.enc)) (r : (List GEntry)) (hm : m_law11_few p0 = some r) :
    Cn Try.prog 32 #[.slice Ap0_0 p0.length cp0_0] ⟨w0, M, H, R, φ⟩ (fun x : Option Addr × Nat => .slice x.1 r.length x.2) (fun x => r.length ≤ x.2) (fun x => ⟨w0, M, H, (2000, ⟨.slice x.1 r.length x.2, 46, 3, r.length, r.flatMap GEntry.enc⟩) :: R, φ⟩) := by
 unfold m_law11_few at hm
 refine cn_intro (fn := Try.f32) (N := 33) Try.func32 rfl Try.ntmps32 rfl ?_
 refine c_seq ?_
 refine c_region ?_
 refine g_v rfl r_assign ?_
 refine g_nil ?_
 refine d_then ?_
 refine c_seq ?_
 refine c_region ?_
 refine g_v rfl r_assign ?_
 refine g_nil ?_
 refine d_then ?_
 refine c_seq ?_
 refine c_sta _ (fun W h => nilR h 3 46 3) ?_
 refine c_cut (ι := (List GEntry) × Option Addr × Nat) [3] (fun ⟨l94, A95, c96⟩ => [(3, .slice A95 l94.length c96)]) (fun ⟨l94, A95, c96⟩ => ⟨w0, M, H, (3, ⟨.slice A95 l94.length c96, 46, 3, l94.length, l94.flatMap GEntry.enc⟩) :: R, φ⟩) (fun ⟨l94, A95, c96⟩ => m_law11_few_j1 l94 = some r ∧ l94.length ≤ c96) ?_ (fun ⟨l94, A95, c96⟩ u ⟨hm, hc96⟩ => ?_)
 ·
  refine c_seq ?_
  refine c_region ?_
  refine g_v rfl r_assign ?_
  refine g_nil ?_
  refine d_then ?_
  refine c_block ?_
  replace hm := bnd hm
  obtain ⟨out2, hl2, hr2⟩ := hm
  obtain ⟨n136', hl2⟩ := loop_lp hl2
  refine c_loopU (ι := Nat × (List GEntry) × Int × Option Addr × Nat) [0, 3, 4] (fun ⟨n136, l114, i117, A115, c116⟩ => [(3, .slice A115 l114.length c116), (4, .int .i64 i117)]) (fun ⟨n136, l114, i117, A115, c116⟩ => ⟨w0, M, H, (3, ⟨.slice A115 l114.length c116, 46, 3, l114.length, l114.flatMap GEntry.enc⟩) :: R, φ⟩) (fun ⟨n136, l114, i117, A115, c116⟩ => Lp (fun s => m_law11_few_s2 p0 s.1 s.2) n136 (l114, i117) out2 ∧ l114.length ≤ c116) (fun ⟨n136, l114, i117, A115, c116⟩ => n136) (n136', ([] : List GEntry), 0, none, 0) ⟨hl2, (Nat.le_refl 0)⟩ ⟨rfl, rfl, rfl, trivial⟩ (fun W h => h.phi (fun W hφ => hφ)) (fun ⟨n136, l114, i117, A115, c116⟩ u ⟨hlp, hc116⟩ => ?_)
  obtain ⟨o2, hm, hnx2⟩ := lp_step hlp
  clear hlp
  replace hm : m_law11_few_s2 p0 l114 i117 = some o2 := hm
  unfold m_law11_few_s2 at hm
  refine c_flat [(0, .slice Ap0_0 p0.length cp0_0), (3, .slice A115 l114.length c116), (4, .int .i64 i117)] ⟨rfl, rfl, rfl, trivial⟩ (fun u => ?_)
  refine c_sta ⟨w0, M, H, (3, ⟨.slice A115 l114.length c116, 46, 3, l114.length, l114.flatMap GEntry.enc⟩) :: R, φ⟩ (fun _ h => h) ?_
  refine c_seq ?_
  refine c_seq ?_
  refine c_region ?_
  refine g_v rfl r_move ?_
  refine g_v rfl r_move ?_
  refine g_v rfl (r_lenL Try.underlying26 rfl) ?_
  refine g_v rfl (r_lss rfl rfl) ?_
  refine g_v rfl r_move ?_
  refine g_if rfl rfl rfl rfl rfl (fun h137 => ?_) (fun h137 => ?_)
  ·
   replace hm := ite_t hm (of_decide_eq_true h137)
   refine g_v rfl r_move ?_
   refine g_do rfl rfl rfl rfl rfl h137 ?_
   refine g_v rfl (r_lss rfl rfl) ?_
   refine g_v rfl (r_pick1 rfl h137) ?_
   refine g_nil ?_
   refine d_then ?_
   refine c_cond rfl (fun h138 => ?_) (fun h138 => ?_)
   ·
    replace hm := ite_t hm (of_decide_eq_true h138)
    refine c_skip ?_
    refine d_then ?_
    refine c_seq ?_
    refine c_block ?_
    refine c_seq ?_
    refine c_region ?_
    refine g_v rfl r_move ?_
    refine g_v rfl r_move ?_
    replace hm := bnd hm
    obtain ⟨x139, hx139, hm⟩ := hm
    refine g_know _ (fun W hS => cl_at (p := (Sta.mk w0 M H R φ).ok) (sz := 3) (fun _ => rfl) (by decide) (ok_pre (H1 := []) (R1 := [_]) hS (fun W h => h)) fp0_0 hx139) ?_
    rintro ⟨ad140, hA142, f141⟩
    refine g_v rfl (r_ix Try.underlying26 Try.sizeOf46 rfl hA142 rfl hx139) ?_
    refine g_v rfl (r_ldA rfl Try.isAgg46 Try.sizeOf46 (fun W hS => (f141 W (ok_pre (H1 := []) (R1 := [_]) hS (fun W h => h))).take 3) rfl) ?_
    refine g_e rfl (e_alloc 100050 Try.zeroValue46) (fun g143 _ => ?_)
    refine g_storeL (tag := 100050) rfl rfl rfl rfl Try.sizeOf46 rfl rfl ?_
    refine g_nil ?_
    refine d_then ?_
    refine c_flat [(0, .slice Ap0_0 p0.length cp0_0), (3, .slice A115 l114.length c116), (4, .int .i64 i117), (5, .pointer (some ⟨g143, 0, none⟩))] ⟨rfl, rfl, rfl, rfl, trivial⟩ (fun u => ?_)
    refine c_sta ⟨w0, M, (100050, g143, .cells #[.int .i64 x139.fTerm, .int .i64 x139.fKind, .string x139.fData] 46 (0, 0)) :: H, (3, ⟨.slice A115 l114.length c116, 46, 3, l114.length, l114.flatMap GEntry.enc⟩) :: R, φ⟩ (fun _ h => h) ?_
    refine c_seq ?_
    refine c_cut (ι := ByteArray) [0, 3, 4, 5] (fun s146 => []) (fun s146 => ⟨w0, M, (100050, g143, .cells #[.int .i64 x139.fTerm, .int .i64 x139.fKind, .string s146] 46 (0, 0)) :: H, (3, ⟨.slice A115 l114.length c116, 46, 3, l114.length, l114.flatMap GEntry.enc⟩) :: R, φ⟩) (fun s146 => m_law11_few_j3 l114 x139 i117 s146 = some o2) ?_ (fun s146 u hm => ?_)
    ·
     refine c_seq ?_
     refine c_region ?_
     refine g_v rfl (r_field (n := 2) Try.underlying46 rfl Try.sizeOf9 rfl rfl) ?_
     refine g_v rfl (r_load (tag := 100050) rfl rfl rfl Try.isAgg9) ?_
     refine g_v rfl (r_len Try.underlying9 rfl) ?_
     refine g_v rfl (r_gtr rfl rfl) ?_
     refine g_nil ?_
     refine d_then ?_
     refine c_cond rfl (fun h152 => ?_) (fun h152 => ?_)
     ·
      replace hm := ite_t hm (of_decide_eq_true h152)
      refine c_region ?_
      refine g_v rfl (r_field (n := 2) Try.underlying46 rfl Try.sizeOf9 rfl rfl) ?_
      refine g_v rfl (r_load (tag := 100050) rfl rfl rfl Try.isAgg9) ?_
      replace hm := bnd hm
      obtain ⟨s153, hs153, hm⟩ := hm
      refine g_v rfl (r_scutHi Try.underlying9 rfl rfl hs153) ?_
      refine g_v rfl (r_field (n := 2) Try.underlying46 rfl Try.sizeOf9 rfl rfl) ?_
      refine g_storeL (tag := 100050) rfl rfl rfl rfl Try.sizeOf9 rfl rfl ?_
      refine g_nil ?_
      exact d_round s153 hm Nat.zero_lt_one ⟨rfl, rfl, rfl, rfl, trivial⟩ (fun W h => h.phi (fun W hφ => hφ))
     ·
      replace hm := ite_f hm (of_decide_eq_false h152)
      refine c_skip ?_
      exact d_round x139.fData hm Nat.zero_lt_one ⟨rfl, rfl, rfl, rfl, trivial⟩ (fun W h => h.phi (fun W hφ => hφ))
    ·
     unfold m_law11_few_j3 at hm
     refine d_flat [(0, .slice Ap0_0 p0.length cp0_0), (3, .slice A115 l114.length c116), (4, .int .i64 i117), (5, .pointer (some ⟨g143, 0, none⟩))] ⟨rfl, rfl, rfl, rfl, trivial⟩ (fun u => ?_)
     refine d_sta ⟨w0, M, (100050, g143, .cells #[.int .i64 x139.fTerm, .int .i64 x139.fKind, .string s146] 46 (0, 0)) :: H, (3, ⟨.slice A115 l114.length c116, 46, 3, l114.length, l114.flatMap GEntry.enc⟩) :: R, φ⟩ (fun _ h => h) ?_
     refine d_then ?_
     refine c_region ?_
     refine g_v rfl r_move ?_
     refine g_v rfl (r_loadA (tag := 100050) rfl rfl Try.isAgg46 Try.sizeOf46 rfl rfl) ?_
     refine g_e rfl (e_lit (tag := 100300) (l := [(⟨x139.fTerm, x139.fKind, s146⟩ : GEntry)]) (enc := GEntry.enc) (sz := 3) rfl Try.underlying26 (lit46_4 _ _ _) rfl rfl (fun _ => rfl)) (fun g147 _ => ?_)
     replace hm := bnd hm
     obtain ⟨l148, hl148, hm⟩ := hm
     refine g_e rfl (e_appR (enc := GEntry.enc) (l := l114) (l1 := [(⟨x139.fTerm, x139.fKind, s146⟩ : GEntry)]) (l2 := l148) (tag := 3) Try.underlying26 inf46_5 rfl (by decide) (by decide) (fun _ => rfl) (fun _ => rfl) rfl hc116 rfl rfl (fun W hS => rowCl (tag := 100300) rfl W hS) hl148) (fun ⟨A149, c150⟩ hc150 => ?_)
     refine g_v rfl r_assign ?_
     refine g_nil ?_
     refine d_normal_block ?_
     refine d_then ?_
     refine c_region ?_
     refine g_v rfl r_move ?_
     refine g_v rfl (r_add rfl rfl rfl) ?_
     refine g_v rfl r_assign ?_
     refine g_nil ?_
     obtain ⟨n151, hn151, hlp⟩ := nx_inl hm hnx2
     exact d_round (n151, l148, w64 (i117 + 1), A149, c150) ⟨hlp, hc150⟩ hn151 ⟨rfl, rfl, rfl, trivial⟩ (fun W h => (((h.shut (t := 100300) rfl).phi (fun _ hh => hh.1)).dropH (t := 100050) rfl).phi (fun W hφ => hφ))
   ·
    replace hm := ite_f hm (of_decide_eq_false h138)
    refine c_exit ?_
    refine d_exit_then ?_
    refine d_exit_then ?_
    refine d_exit_block ?_
    replace hm := nx_out (C := (fun e => m_law11_few_j1 e = some r)) hm hnx2 hr2
    exact d_round (l114, A115, c116) ⟨hm, hc116⟩ Nat.zero_lt_one ⟨rfl, trivial⟩ (fun W h => h.phi (fun W hφ => hφ))
  ·
   replace hm := ite_f hm (of_decide_eq_false h137)
   refine g_no rfl rfl rfl rfl rfl h137 ?_
   refine g_v rfl (r_pick0 rfl h137) ?_
   refine g_nil ?_
   refine d_then ?_
   refine c_cond0 rfl rfl ?_
   refine c_exit ?_
   refine d_exit_then ?_
   refine d_exit_then ?_
   refine d_exit_block ?_
   replace hm := nx_out (C := (fun e => m_law11_few_j1 e = some r)) hm hnx2 hr2
   exact d_round (l114, A115, c116) ⟨hm, hc116⟩ Nat.zero_lt_one ⟨rfl, trivial⟩ (fun W h => h.phi (fun W hφ => hφ))
 ·
  unfold m_law11_few_j1 at hm
  refine d_flat [(3, .slice A95 l94.length c96)] ⟨rfl, trivial⟩ (fun u => ?_)
  refine d_sta ⟨w0, M, H, (3, ⟨.slice A95 l94.length c96, 46, 3, l94.length, l94.flatMap GEntry.enc⟩) :: R, φ⟩ (fun _ h => h) ?_
  refine d_then ?_
  refine c_seq ?_
  refine c_region ?_
  refine g_v rfl r_move ?_
  refine g_v rfl r_assign ?_
  refine g_nil ?_
  refine d_then ?_
  refine c_ret ?_
  replace hm := Option.some.inj hm
  subst hm
  refine d_sta _ (fun W h => ok_frontR (t := 3) (t' := 2000) h rfl) ?_
  refine d_retC (A95, c96) Try.results32 ?_ hc96 (fun W h => h.phi (fun W hφ => hφ)) (.inr rfl)
  refine res_tmp ?_
  refine res_nil ?_
  exact rfl

noncomputable def m_law11_small (p0 : GLog) : Option GLog :=
  (m_law11_few p0.fEntries).bind fun x4 =>
  some (⟨p0.fBase, p0.fBaseTerm, x4⟩ : GLog)
theorem c_law11_small {w0 : World} {M : Nat → Prop} {H : List (Nat × Nat × Obj)} {R : List (Nat × Row)} {φ : World → Prop} (p0 : GLog) (Ap0_0 : Option Addr) (cp0_0 : Nat) (hcp0_0 : p0.fEntries.length ≤ cp0_0) (fp0_0 : ∀ W, (Sta.mk w0 M H R φ).ok W → Cl W Ap0_0 (p0.fEntries.flatMap GEntry.enc)) (r : GLog) (hm : m_law11_small p0 = some r) :
    Cn Try.prog 16 #[.agg #[.int .i64 p0.fBase, .int .i64 p0.fBaseTerm, .slice Ap0_0 p0.fEntries.length cp0_0]] ⟨w0, M, H, R, φ⟩ (fun x : Option Addr × Nat => .agg #[.int .i64 r.fBase, .int .i64 r.fBaseTerm, .slice x.1 r.fEntries.length x.2]) (fun x => r.fEntries.length ≤ x.2) (fun x => ⟨w0, M, H, R, fun W => φ W ∧ Cl W x.1 (r.fEntries.flatMap GEntry.enc)⟩) := by
 unfold m_law11_small at hm
 refine cn_intro (fn := Try.f16) (N := 14) Try.func16 rfl Try.ntmps16 rfl ?_
 refine c_seq ?_
 refine c_region ?_
 refine g_e rfl (e_box 100010 rfl) (fun g1 _ => ?_)
 refine g_e rfl (e_alloc 100020 Try.zeroValue28) (fun g2 _ => ?_)
 refine g_nil ?_
 refine d_then ?_
 refine c_seq ?_
 refine c_region ?_
 refine g_v rfl (r_field (n := 0) Try.underlying28 rfl Try.sizeOf3 rfl rfl) ?_
 refine g_v rfl (r_load (tag := 100010) rfl rfl rfl Try.isAgg3) ?_
 refine g_v rfl (r_field (n := 1) Try.underlying28 rfl Try.sizeOf3 rfl rfl) ?_
 refine g_v rfl (r_load (tag := 100010) rfl rfl rfl Try.isAgg3) ?_
 refine g_v rfl (r_build _ rfl (bld28_8 _ _)) ?_
 refine g_e rfl (e_alloc 100030 Try.zeroValue28) (fun g3 _ => ?_)
 refine g_storeL (tag := 100030) rfl rfl rfl rfl Try.sizeOf28 rfl rfl ?_
 refine g_nil ?_
 refine d_then ?_
 refine c_flat [(1, .pointer (some ⟨g1, 0, none⟩)), (2, .pointer (some ⟨g2, 0, none⟩)), (3, .pointer (some ⟨g3, 0, none⟩))] ⟨rfl, rfl, rfl, trivial⟩ (fun u => ?_)
 refine c_sta ⟨w0, M, (100030, g3, .cells #[.int .i64 p0.fBase, .int .i64 p0.fBaseTerm, .slice none 0 0] 28 (0, 0)) :: (100020, g2, .cells #[.int .i64 0, .int .i64 0, .slice none 0 0] 28 (0, 0)) :: (100010, g1, .cells #[.int .i64 p0.fBase, .int .i64 p0.fBaseTerm, .slice Ap0_0 p0.fEntries.length cp0_0] 28 (0, 0)) :: H, R, φ⟩ (fun _ h => h) ?_
 refine c_seq ?_
 refine c_region ?_
 refine g_v rfl (r_field (n := 2) Try.underlying28 rfl Try.sizeOf26 rfl rfl) ?_
 refine g_v rfl (r_load (tag := 100010) rfl rfl rfl Try.isAgg26) ?_
 replace hm := bnd hm
 obtain ⟨x4, hx5, hm⟩ := hm
 refine g_cn ⟨w0, M, _, _, φ⟩ (fun _ h => h) Try.call32 rfl rfl (c_law11_few p0.fEntries Ap0_0 cp0_0 hcp0_0 (fun W hS => fp0_0 W (ok_pre (H1 := [_, _, _]) (R1 := []) hS (fun W h => h))) _ hx5) (fun ⟨A6, c7⟩ hc7 => ?_)
 refine g_sta _ (fun W h => (ok_frontR (t := 2000) (t' := 100110) h rfl)) ?_
 refine g_v rfl (r_field (n := 2) Try.underlying28 rfl Try.sizeOf26 rfl rfl) ?_
 refine g_storeL (tag := 100030) rfl rfl rfl rfl Try.sizeOf26 rfl rfl ?_
 refine g_nil ?_
 refine d_then ?_
 refine c_seq ?_
 refine c_region ?_
 refine g_v rfl (r_loadA (tag := 100030) rfl rfl Try.isAgg28 Try.sizeOf28 rfl rfl) ?_
 refine g_storeL (tag := 100020) rfl rfl rfl rfl Try.sizeOf28 rfl rfl ?_
 refine g_nil ?_
 refine d_then ?_
 refine c_ret ?_
 replace hm := Option.some.inj hm
 subst hm
 refine d_shut (tag := 100110) rfl (fun φ9 q9' => ?_)
 have q9 : ∀ W, φ9 W → φ W := fun W h => (q9' W h).1
 have f10 := fun (W : World) (h : φ9 W) => (q9' W h).2
 refine d_retC (A6, c7) Try.results16 ?_ hc7 (fun W h => ok_pre (H1 := [_, _, _]) (R1 := []) h (fun W hφ => ⟨(q9 _ hφ), (fun W h => f10 W h) W hφ⟩)) (.inr rfl)
 refine res_agg (tag := 100020) rfl rfl Try.isAgg28 Try.sizeOf28 ?_
 refine res_nil ?_
 exact rfl

noncomputable def m_law11_tame_j2 (p0 : GHard) (l12 : List Int) (x3 : GLog) (s19 : ByteArray) : Option GHard :=
  some (⟨p0.fTerm, p0.fVote, l12, s19, x3⟩ : GHard)
noncomputable def m_law11_tame_j1 (p0 : GHard) (x3 : GLog) (l12 : List Int) : Option GHard :=
  if 200 < (p0.fSnap.size : Int) then
    (scutHi p0.fSnap 200).bind fun s21 =>
    m_law11_tame_j2 p0 l12 x3 s21
  else
    m_law11_tame_j2 p0 l12 x3 p0.fSnap
noncomputable def m_law11_tame (p0 : GHard) : Option GHard :=
  (m_law11_small p0.fLog).bind fun x3 =>
  if 70 < (p0.fVoters.length : Int) then
    (cutHi p0.fVoters 70).bind fun l24 =>
    m_law11_tame_j1 p0 x3 l24
  else
    m_law11_tame_j1 p0 x3 p0.fVoters
theorem c_law11_tame {w0 : World} {M : Nat → Prop} {H : List (Nat × Nat × Obj)} {R : List (Nat × Row)} {φ : World → Prop} (p0 : GHard) (Ap0_0 : Option Addr) (cp0_0 : Nat) (hcp0_0 : p0.fVoters.length ≤ cp0_0) (fp0_0 : ∀ W, φ W → Cl W Ap0_0 (p0.fVoters.flatMap (fun x : Int => [Value.int .i64 x]))) (Ap0_1 : Option Addr) (cp0_1 : Nat) (hcp0_1 : p0.fLog.fEntries.length ≤ cp0_1) (fp0_1 : ∀ W, (Sta.mk w0 M H R φ).ok W → Cl W Ap0_1 (p0.fLog.fEntries.flatMap GEntry.enc)) (r : GHard) (hm : m_law11_tame p0 = some r) :
    Cn Try.prog 5 #[.agg #[.int .i64 p0.fTerm, .int .i64 p0.fVote, .slice Ap0_0 p0.fVoters.length cp0_0, .string p0.fSnap, .int .i64 p0.fLog.fBase, .int .i64 p0.fLog.fBaseTerm, .slice Ap0_1 p0.fLog.fEntries.length cp0_1]] ⟨w0, M, H, R, φ⟩ (fun x : Option Addr × Nat × Option Addr × Nat => .agg #[.int .i64 r.fTerm, .int .i64 r.fVote, .slice x.1 r.fVoters.length x.2.1, .string r.fSnap, .int .i64 r.fLog.fBase, .int .i64 r.fLog.fBaseTerm, .slice x.2.2.1 r.fLog.fEntries.length x.2.2.2]) (fun x => r.fVoters.length ≤ x.2.1 ∧ r.fLog.fEntries.length ≤ x.2.2.2) (fun x => ⟨w0, M, H, R, fun W => φ W ∧ Cl W x.1 (r.fVoters.flatMap (fun x : Int => [Value.int .i64 x])) ∧ Cl W x.2.2.1 (r.fLog.fEntries.flatMap GEntry.enc)⟩) := by
 unfold m_law11_tame at hm
 refine cn_intro (fn := Try.f5) (N := 24) Try.func5 rfl Try.ntmps5 rfl ?_
 refine c_seq ?_
 refine c_region ?_
 refine g_e rfl (e_box 100010 rfl) (fun g1 _ => ?_)
 refine g_e rfl (e_alloc 100020 Try.zeroValue30) (fun g2 _ => ?_)
 refine g_nil ?_
 refine d_then ?_
 refine c_seq ?_
 refine c_region ?_
 refine g_v rfl (r_field (n := 4) Try.underlying30 rfl Try.sizeOf28 rfl rfl) ?_
 refine g_v rfl (r_loadA (tag := 100010) rfl rfl Try.isAgg28 Try.sizeOf28 rfl rfl) ?_
 replace hm := bnd hm
 obtain ⟨x3, hx4, hm⟩ := hm
 refine g_cn ⟨w0, M, _, _, φ⟩ (fun _ h => h) Try.call16 rfl rfl (c_law11_small p0.fLog Ap0_1 cp0_1 hcp0_1 (fun W hS => fp0_1 W (ok_pre (H1 := [_, _]) (R1 := []) hS (fun W h => h))) _ hx4) (fun ⟨A5, c6⟩ hc6 => ?_)
 refine g_abs (fun φ8 q8' => ?_)
 have q8 : ∀ W, φ8 W → φ W := fun W h => (q8' W h).1
 have f7 := fun (W : World) (h : φ8 W) => (q8' W h).2
 refine g_v rfl (r_field (n := 4) Try.underlying30 rfl Try.sizeOf28 rfl rfl) ?_
 refine g_storeL (tag := 100010) rfl rfl rfl rfl Try.sizeOf28 rfl rfl ?_
 refine g_nil ?_
 refine d_then ?_
 refine c_seq ?_
 refine c_cut (ι := (List Int) × Option Addr × Nat) [1, 2] (fun ⟨l12, A13, c14⟩ => []) (fun ⟨l12, A13, c14⟩ => ⟨w0, M, (100020, g2, .cells #[.int .i64 0, .int .i64 0, .slice none 0 0, .string (⟨#[]⟩ : ByteArray), .int .i64 0, .int .i64 0, .slice none 0 0] 30 (0, 0)) :: (100010, g1, .cells #[.int .i64 p0.fTerm, .int .i64 p0.fVote, .slice A13 l12.length c14, .string p0.fSnap, .int .i64 x3.fBase, .int .i64 x3.fBaseTerm, .slice A5 x3.fEntries.length c6] 30 (0, 0)) :: H, R, fun W => φ8 W ∧ Cl W A13 (l12.flatMap (fun x : Int => [Value.int .i64 x]))⟩) (fun ⟨l12, A13, c14⟩ => m_law11_tame_j1 p0 x3 l12 = some r ∧ l12.length ≤ c14) ?_ (fun ⟨l12, A13, c14⟩ u ⟨hm, hc14⟩ => ?_)
 ·
  refine c_seq ?_
  refine c_region ?_
  refine g_v rfl (r_field (n := 2) Try.underlying30 rfl Try.sizeOf25 rfl rfl) ?_
  refine g_v rfl (r_load (tag := 100010) rfl rfl rfl Try.isAgg25) ?_
  refine g_v rfl (r_lenL Try.underlying25 rfl) ?_
  refine g_v rfl (r_gtr rfl rfl) ?_
  refine g_nil ?_
  refine d_then ?_
  refine c_flat [(1, .pointer (some ⟨g1, 0, none⟩)), (2, .pointer (some ⟨g2, 0, none⟩)), (10, .bool (decide (70 < (p0.fVoters.length : Int))))] ⟨rfl, rfl, rfl, trivial⟩ (fun u => ?_)
  refine c_sta ⟨w0, M, (100020, g2, .cells #[.int .i64 0, .int .i64 0, .slice none 0 0, .string (⟨#[]⟩ : ByteArray), .int .i64 0, .int .i64 0, .slice none 0 0] 30 (0, 0)) :: (100010, g1, .cells #[.int .i64 p0.fTerm, .int .i64 p0.fVote, .slice Ap0_0 p0.fVoters.length cp0_0, .string p0.fSnap, .int .i64 x3.fBase, .int .i64 x3.fBaseTerm, .slice A5 x3.fEntries.length c6] 30 (0, 0)) :: H, R, φ8⟩ (fun _ h => h) ?_
  refine c_cond rfl (fun h22 => ?_) (fun h22 => ?_)
  ·
   replace hm := ite_t hm (of_decide_eq_true h22)
   refine c_region ?_
   refine g_v rfl (r_field (n := 2) Try.underlying30 rfl Try.sizeOf25 rfl rfl) ?_
   refine g_v rfl (r_load (tag := 100010) rfl rfl rfl Try.isAgg25) ?_
   replace hm := bnd hm
   obtain ⟨l24, hl24, hm⟩ := hm
   have f23 := fun (W : World) (h : φ W) => cl_cutHi (enc := (fun x : Int => [Value.int .i64 x])) (sz := 1) (fun _ => rfl) hl24 (fp0_0 W h)
   refine g_v rfl (r_lcutHi Try.underlying25 Try.sizeOf3 rfl hcp0_0 rfl hl24) ?_
   refine g_v rfl (r_field (n := 2) Try.underlying30 rfl Try.sizeOf25 rfl rfl) ?_
   refine g_storeL (tag := 100010) rfl rfl rfl rfl Try.sizeOf25 rfl rfl ?_
   refine g_nil ?_
   exact d_round (l24, Ap0_0, cp0_0) ⟨hm, (cutHi_len hcp0_0 hl24)⟩ Nat.zero_lt_one ⟨rfl, rfl, trivial⟩ (fun W h => h.phi (fun W hφ => ⟨hφ, (fun W h => f23 W (q8 _ h)) W hφ⟩))
  ·
   replace hm := ite_f hm (of_decide_eq_false h22)
   refine c_skip ?_
   exact d_round (p0.fVoters, Ap0_0, cp0_0) ⟨hm, hcp0_0⟩ Nat.zero_lt_one ⟨rfl, rfl, trivial⟩ (fun W h => h.phi (fun W hφ => ⟨hφ, (fun W h => fp0_0 W (q8 _ h)) W hφ⟩))
 ·
  unfold m_law11_tame_j1 at hm
  refine d_abs (fun φ16 q16' => ?_)
  have q16 : ∀ W, φ16 W → φ8 W := fun W h => (q16' W h).1
  have f15 := fun (W : World) (h : φ16 W) => (q16' W h).2
  refine d_flat [(1, .pointer (some ⟨g1, 0, none⟩)), (2, .pointer (some ⟨g2, 0, none⟩))] ⟨rfl, rfl, trivial⟩ (fun u => ?_)
  refine d_sta ⟨w0, M, (100020, g2, .cells #[.int .i64 0, .int .i64 0, .slice none 0 0, .string (⟨#[]⟩ : ByteArray), .int .i64 0, .int .i64 0, .slice none 0 0] 30 (0, 0)) :: (100010, g1, .cells #[.int .i64 p0.fTerm, .int .i64 p0.fVote, .slice A13 l12.length c14, .string p0.fSnap, .int .i64 x3.fBase, .int .i64 x3.fBaseTerm, .slice A5 x3.fEntries.length c6] 30 (0, 0)) :: H, R, φ16⟩ (fun _ h => h) ?_
  refine d_then ?_
  refine c_seq ?_
  refine c_cut (ι := ByteArray) [1, 2] (fun s19 => []) (fun s19 => ⟨w0, M, (100020, g2, .cells #[.int .i64 0, .int .i64 0, .slice none 0 0, .string (⟨#[]⟩ : ByteArray), .int .i64 0, .int .i64 0, .slice none 0 0] 30 (0, 0)) :: (100010, g1, .cells #[.int .i64 p0.fTerm, .int .i64 p0.fVote, .slice A13 l12.length c14, .string s19, .int .i64 x3.fBase, .int .i64 x3.fBaseTerm, .slice A5 x3.fEntries.length c6] 30 (0, 0)) :: H, R, φ16⟩) (fun s19 => m_law11_tame_j2 p0 l12 x3 s19 = some r) ?_ (fun s19 u hm => ?_)
  ·
   refine c_seq ?_
   refine c_region ?_
   refine g_v rfl (r_field (n := 3) Try.underlying30 rfl Try.sizeOf9 rfl rfl) ?_
   refine g_v rfl (r_load (tag := 100010) rfl rfl rfl Try.isAgg9) ?_
   refine g_v rfl (r_len Try.underlying9 rfl) ?_
   refine g_v rfl (r_gtr rfl rfl) ?_
   refine g_nil ?_
   refine d_then ?_
   refine c_cond rfl (fun h20 => ?_) (fun h20 => ?_)
   ·
    replace hm := ite_t hm (of_decide_eq_true h20)
    refine c_region ?_
    refine g_v rfl (r_field (n := 3) Try.underlying30 rfl Try.sizeOf9 rfl rfl) ?_
    refine g_v rfl (r_load (tag := 100010) rfl rfl rfl Try.isAgg9) ?_
    replace hm := bnd hm
    obtain ⟨s21, hs21, hm⟩ := hm
    refine g_v rfl (r_scutHi Try.underlying9 rfl rfl hs21) ?_
    refine g_v rfl (r_field (n := 3) Try.underlying30 rfl Try.sizeOf9 rfl rfl) ?_
    refine g_storeL (tag := 100010) rfl rfl rfl rfl Try.sizeOf9 rfl rfl ?_
    refine g_nil ?_
    exact d_round s21 hm Nat.zero_lt_one ⟨rfl, rfl, trivial⟩ (fun W h => h.phi (fun W hφ => hφ))
   ·
    replace hm := ite_f hm (of_decide_eq_false h20)
    refine c_skip ?_
    exact d_round p0.fSnap hm Nat.zero_lt_one ⟨rfl, rfl, trivial⟩ (fun W h => h.phi (fun W hφ => hφ))
  ·
   unfold m_law11_tame_j2 at hm
   refine d_flat [(1, .pointer (some ⟨g1, 0, none⟩)), (2, .pointer (some ⟨g2, 0, none⟩))] ⟨rfl, rfl, trivial⟩ (fun u => ?_)
   refine d_sta ⟨w0, M, (100020, g2, .cells #[.int .i64 0, .int .i64 0, .slice none 0 0, .string (⟨#[]⟩ : ByteArray), .int .i64 0, .int .i64 0, .slice none 0 0] 30 (0, 0)) :: (100010, g1, .cells #[.int .i64 p0.fTerm, .int .i64 p0.fVote, .slice A13 l12.length c14, .string s19, .int .i64 x3.fBase, .int .i64 x3.fBaseTerm, .slice A5 x3.fEntries.length c6] 30 (0, 0)) :: H, R, φ16⟩ (fun _ h => h) ?_
   refine d_then ?_
   refine c_seq ?_
   refine c_region ?_
   refine g_v rfl (r_loadA (tag := 100010) rfl rfl Try.isAgg30 Try.sizeOf30 rfl rfl) ?_
   refine g_storeL (tag := 100020) rfl rfl rfl rfl Try.sizeOf30 rfl rfl ?_
   refine g_nil ?_
   refine d_then ?_
   refine c_ret ?_
   replace hm := Option.some.inj hm
   subst hm
   refine d_retC (A13, c14, A5, c6) Try.results5 ?_ ⟨hc14, hc6⟩ (fun W h => ok_pre (H1 := [_, _]) (R1 := []) h (fun W hφ => ⟨(q8 _ (q16 _ hφ)), (fun W h => f15 W h) W hφ, (fun W h => f7 W (q16 _ h)) W hφ⟩)) (.inr rfl)
   refine res_agg (tag := 100020) rfl rfl Try.isAgg30 Try.sizeOf30 ?_
   refine res_nil ?_
   exact rfl

noncomputable def m_ref11_Right_j1 (p0 : List Int) : Option Bool :=
  some (decide (0 < (p0.length : Int)))
noncomputable def m_ref11_Right_s2 (p0 : List Int) (i127 : Int) : Option (Int ⊕ (Unit ⊕ Bool)) :=
  if i127 < (p0.length : Int) then
    (at_ p0 i127).bind fun x228 =>
    if x228 < 0 then
      some (.inr (.inr false))
    else
      (at_ p0 i127).bind fun x233 =>
      if 63 < x233 then
        some (.inr (.inr false))
      else
        if 0 < i127 then
          (at_ p0 i127).bind fun x239 =>
          (at_ p0 (w64 (i127 - 1))).bind fun x243 =>
          if x239 ≤ x243 then
            some (.inr (.inr false))
          else
            some (.inl (w64 (i127 + 1)))
        else
          some (.inl (w64 (i127 + 1)))
  else
    some (.inr (.inl ()))
noncomputable def m_ref11_Right (p0 : List Int) : Option Bool :=
  (loop (fun s => m_ref11_Right_s2 p0 s) 0).bind fun e => Sum.elim (fun e => m_ref11_Right_j1 p0) (fun x => some x) e
theorem c_ref11_Right {w0 : World} {M : Nat → Prop} {H : List (Nat × Nat × Obj)} {R : List (Nat × Row)} {φ : World → Prop} (p0 : List Int) (Ap0_0 : Option Addr) (cp0_0 : Nat) (hcp0_0 : p0.length ≤ cp0_0) (fp0_0 : ∀ W, (Sta.mk w0 M H R φ).ok W → Cl W Ap0_0 (p0.flatMap (fun x : Int => [Value.int .i64 x]))) (r : Bool) (hm : m_ref11_Right p0 = some r) :
    Cn Try.prog 17 #[.slice Ap0_0 p0.length cp0_0] ⟨w0, M, H, R, φ⟩ (fun x : Unit => .bool r) (fun x => True) (fun x => ⟨w0, M, H, R, φ⟩) := by
 unfold m_ref11_Right at hm
 refine cn_intro (fn := Try.f17) (N := 41) Try.func17 rfl Try.ntmps17 rfl ?_
 refine c_seq ?_
 refine c_region ?_
 refine g_v rfl r_assign ?_
 refine g_nil ?_
 refine d_then ?_
 refine c_seq ?_
 refine c_seq ?_
 refine c_region ?_
 refine g_v rfl r_assign ?_
 refine g_nil ?_
 refine d_then ?_
 refine c_cut (ι := Unit) [0] (fun _ => []) (fun _ => ⟨w0, M, H, R, φ⟩) (fun _ => m_ref11_Right_j1 p0 = some r) ?_ (fun _ u hm => ?_)
 ·
  refine c_block ?_
  replace hm := bnd hm
  obtain ⟨out2, hl2, hr2⟩ := hm
  obtain ⟨n188', hl2⟩ := loop_lp hl2
  refine c_loopU (ι := Nat × Int) [0, 3] (fun ⟨n188, i127⟩ => [(3, .int .i64 i127)]) (fun ⟨n188, i127⟩ => ⟨w0, M, H, R, φ⟩) (fun ⟨n188, i127⟩ => Lp (fun s => m_ref11_Right_s2 p0 s) n188 i127 out2) (fun ⟨n188, i127⟩ => n188) (n188', 0) hl2 ⟨rfl, rfl, trivial⟩ (fun W h => h.phi (fun W hφ => hφ)) (fun ⟨n188, i127⟩ u hlp => ?_)
  obtain ⟨o2, hm, hnx2⟩ := lp_step hlp
  clear hlp
  replace hm : m_ref11_Right_s2 p0 i127 = some o2 := hm
  unfold m_ref11_Right_s2 at hm
  refine c_flat [(0, .slice Ap0_0 p0.length cp0_0), (3, .int .i64 i127)] ⟨rfl, rfl, trivial⟩ (fun u => ?_)
  refine c_sta ⟨w0, M, H, R, φ⟩ (fun _ h => h) ?_
  refine c_seq ?_
  refine c_seq ?_
  refine c_region ?_
  refine g_v rfl r_move ?_
  refine g_v rfl r_move ?_
  refine g_v rfl (r_lenL Try.underlying25 rfl) ?_
  refine g_v rfl (r_lss rfl rfl) ?_
  refine g_nil ?_
  refine d_then ?_
  refine c_cond rfl (fun h189 => ?_) (fun h189 => ?_)
  ·
   replace hm := ite_t hm (of_decide_eq_true h189)
   refine c_skip ?_
   refine d_then ?_
   refine c_seq ?_
   refine c_block ?_
   refine c_seq ?_
   refine ga_start (n := 28) ⟨w0, M, H, R, φ⟩ [] #[false, false, false, false, false, false, false, false, false, false, false, false, false, false, false, false, false, false, false, false, false, false, false, false, false, false, false, false] (fun W h => h.phi (fun W hφ => hφ)) mixed rfl rfl ?_
   refine ga_v (i := 0) #[true, false, false, false, false, false, false, false, false, false, false, false, false, false, false, false, false, false, false, false, false, false, false, false, false, false, false, false] rfl (by kernel_rfl) (fun _ _ _ _ h => h) rfl (r_move) ?_
   refine ga_r (i := 1) #[true, true, false, false, false, false, false, false, false, false, false, false, false, false, false, false, false, false, false, false, false, false, false, false, false, false, false, false] rfl (by kernel_rfl) (by decide) rfl (r_move) ?_
   replace hm := bnd hm
   obtain ⟨x228, hx228, hm⟩ := hm
   refine ga_know _ (fun W hS => cl_at (p := (Sta.mk w0 M H R φ).ok) (sz := 1) (fun _ => rfl) (by decide) (ok_pre (H1 := []) (R1 := []) hS (fun W h => h)) fp0_0 hx228) ?_
   rintro ⟨ad229, hA231, f230⟩
   refine ga_r (i := 2) #[true, true, true, false, false, false, false, false, false, false, false, false, false, false, false, false, false, false, false, false, false, false, false, false, false, false, false, false] rfl (by kernel_rfl) (by decide) rfl (r_ix Try.underlying25 Try.sizeOf3 rfl hA231 rfl hx228) ?_
   refine ga_r (i := 3) #[true, true, true, true, false, false, false, false, false, false, false, false, false, false, false, false, false, false, false, false, false, false, false, false, false, false, false, false] rfl (by kernel_rfl) (by decide) rfl (r_ld rfl Try.isAgg3 (fun W hS => Cl.head (f230 W (ok_pre (H1 := []) (R1 := []) hS (fun W h => h))))) ?_
   refine ga_r (i := 4) #[true, true, true, true, true, false, false, false, false, false, false, false, false, false, false, false, false, false, false, false, false, false, false, false, false, false, false, false] rfl (by kernel_rfl) (by decide) rfl (r_lss rfl rfl) ?_
   refine ga_r (i := 5) #[true, true, true, true, true, true, false, false, false, false, false, false, false, false, false, false, false, false, false, false, false, false, false, false, false, false, false, false] rfl (by kernel_rfl) (by decide) rfl (r_move) ?_
   refine ga_if (t := 15) rfl (fun h232 => ?_) (fun h232 => ?_)
   ·
    replace hm := ite_t hm (of_decide_eq_true h232)
    refine ga_no (i := 6) #[true, true, true, true, true, true, true, false, false, false, false, false, false, false, false, false, false, false, false, false, false, false, false, false, false, false, false, false] rfl (by kernel_rfl) (fun _ _ _ _ h => h) rfl rfl rfl rfl rfl h232 ?_
    refine ga_no (i := 7) #[true, true, true, true, true, true, true, true, false, false, false, false, false, false, false, false, false, false, false, false, false, false, false, false, false, false, false, false] rfl (by kernel_rfl) (fun _ _ _ _ h => h) rfl rfl rfl rfl rfl h232 ?_
    refine ga_no (i := 8) #[true, true, true, true, true, true, true, true, true, false, false, false, false, false, false, false, false, false, false, false, false, false, false, false, false, false, false, false] rfl (by kernel_rfl) (fun _ _ _ _ h => h) rfl rfl rfl rfl rfl h232 ?_
    refine ga_no (i := 9) #[true, true, true, true, true, true, true, true, true, true, false, false, false, false, false, false, false, false, false, false, false, false, false, false, false, false, false, false] rfl (by kernel_rfl) (fun _ _ _ _ h => h) rfl rfl rfl rfl rfl h232 ?_
    refine ga_no (i := 10) #[true, true, true, true, true, true, true, true, true, true, true, false, false, false, false, false, false, false, false, false, false, false, false, false, false, false, false, false] rfl (by kernel_rfl) (fun _ _ _ _ h => h) rfl rfl rfl rfl rfl h232 ?_
    refine ga_r (i := 11) #[true, true, true, true, true, true, true, true, true, true, true, true, false, false, false, false, false, false, false, false, false, false, false, false, false, false, false, false] rfl (by kernel_rfl) (by decide) rfl (r_pick1 rfl h232) ?_
    refine ga_r (i := 12) #[true, true, true, true, true, true, true, true, true, true, true, true, true, false, false, false, false, false, false, false, false, false, false, false, false, false, false, false] rfl (by kernel_rfl) (by decide) rfl (r_move) ?_
    refine ga_no (i := 13) #[true, true, true, true, true, true, true, true, true, true, true, true, true, true, false, false, false, false, false, false, false, false, false, false, false, false, false, false] rfl (by kernel_rfl) (fun _ _ _ _ h => h) rfl rfl rfl rfl rfl rfl ?_
    refine ga_no (i := 14) #[true, true, true, true, true, true, true, true, true, true, true, true, true, true, true, false, false, false, false, false, false, false, false, false, false, false, false, false] rfl (by kernel_rfl) (fun _ _ _ _ h => h) rfl rfl rfl rfl rfl rfl ?_
    refine ga_no (i := 15) #[true, true, true, true, true, true, true, true, true, true, true, true, true, true, true, true, false, false, false, false, false, false, false, false, false, false, false, false] rfl (by kernel_rfl) (fun _ _ _ _ h => h) rfl rfl rfl rfl rfl rfl ?_
    refine ga_nu (i := 16) #[true, true, true, true, true, true, true, true, true, true, true, true, true, true, true, true, true, false, false, false, false, false, false, false, false, false, false, false] rfl (by kernel_rfl) (fun _ _ _ _ h => h) rfl rfl rfl rfl rfl ?_
    refine ga_nu (i := 17) #[true, true, true, true, true, true, true, true, true, true, true, true, true, true, true, true, true, true, false, false, false, false, false, false, false, false, false, false] rfl (by kernel_rfl) (fun _ _ _ _ h => h) rfl rfl rfl rfl rfl ?_
    refine ga_nu (i := 18) #[true, true, true, true, true, true, true, true, true, true, true, true, true, true, true, true, true, true, true, false, false, false, false, false, false, false, false, false] rfl (by kernel_rfl) (fun _ _ _ _ h => h) rfl rfl rfl rfl rfl ?_
    refine ga_nu (i := 19) #[true, true, true, true, true, true, true, true, true, true, true, true, true, true, true, true, true, true, true, true, false, false, false, false, false, false, false, false] rfl (by kernel_rfl) (fun _ _ _ _ h => h) rfl rfl rfl rfl rfl ?_
    refine ga_nu (i := 20) #[true, true, true, true, true, true, true, true, true, true, true, true, true, true, true, true, true, true, true, true, true, false, false, false, false, false, false, false] rfl (by kernel_rfl) (fun _ _ _ _ h => h) rfl rfl rfl rfl rfl ?_
    refine ga_nu (i := 21) #[true, true, true, true, true, true, true, true, true, true, true, true, true, true, true, true, true, true, true, true, true, true, false, false, false, false, false, false] rfl (by kernel_rfl) (fun _ _ _ _ h => h) rfl rfl rfl rfl rfl ?_
    refine ga_nu (i := 22) #[true, true, true, true, true, true, true, true, true, true, true, true, true, true, true, true, true, true, true, true, true, true, true, false, false, false, false, false] rfl (by kernel_rfl) (fun _ _ _ _ h => h) rfl rfl rfl rfl rfl ?_
    refine ga_nu (i := 23) #[true, true, true, true, true, true, true, true, true, true, true, true, true, true, true, true, true, true, true, true, true, true, true, true, false, false, false, false] rfl (by kernel_rfl) (fun _ _ _ _ h => h) rfl rfl rfl rfl rfl ?_
    refine ga_nu (i := 24) #[true, true, true, true, true, true, true, true, true, true, true, true, true, true, true, true, true, true, true, true, true, true, true, true, true, false, false, false] rfl (by kernel_rfl) (fun _ _ _ _ h => h) rfl rfl rfl rfl rfl ?_
    refine ga_nu (i := 25) #[true, true, true, true, true, true, true, true, true, true, true, true, true, true, true, true, true, true, true, true, true, true, true, true, true, true, false, false] rfl (by kernel_rfl) (fun _ _ _ _ h => h) rfl rfl rfl rfl rfl ?_
    refine ga_no (i := 26) #[true, true, true, true, true, true, true, true, true, true, true, true, true, true, true, true, true, true, true, true, true, true, true, true, true, true, true, false] rfl (by kernel_rfl) (fun _ _ _ _ h => h) rfl rfl rfl rfl rfl rfl ?_
    refine ga_r (i := 27) #[true, true, true, true, true, true, true, true, true, true, true, true, true, true, true, true, true, true, true, true, true, true, true, true, true, true, true, true] rfl (by kernel_rfl) (by decide) rfl (r_pick1 rfl rfl) ?_
    refine ga_done (by kernel_rfl) ?_
    refine d_then ?_
    refine c_flat [(0, .slice Ap0_0 p0.length cp0_0), (3, .int .i64 i127), (37, .bool true)] ⟨rfl, rfl, rfl, trivial⟩ (fun u => ?_)
    refine c_sta ⟨w0, M, H, R, φ⟩ (fun _ h => h) ?_
    refine c_cond1 rfl rfl ?_
    refine c_seq ?_
    refine c_region ?_
    refine g_v rfl r_assign ?_
    refine g_nil ?_
    refine d_then ?_
    refine c_ret ?_
    refine d_ret_block ?_
    refine d_ret_then ?_
    refine d_ret_then ?_
    refine d_ret_block ?_
    refine d_ret_then ?_
    refine d_ret_then ?_
    replace hm := nx_out (C := (fun e => Sum.elim (fun e => m_ref11_Right_j1 p0) (fun x => some x) e = some r)) hm hnx2 hr2
    replace hm : some false = some r := hm
    replace hm := Option.some.inj hm
    subst hm
    refine d_retC () Try.results17 ?_ trivial (fun W h => ok_pre (H1 := []) (R1 := []) h (fun W hφ => hφ)) (.inr rfl)
    refine res_tmp ?_
    refine res_nil ?_
    exact rfl
   ·
    replace hm := ite_f hm (of_decide_eq_false h232)
    refine ga_do (i := 6) #[true, true, true, true, true, true, true, false, false, false, false, false, false, false, false, false, false, false, false, false, false, false, false, false, false, false, false, false] rfl (by kernel_rfl) (fun _ _ _ _ h => h) rfl rfl rfl rfl rfl h232 (r_move) ?_
    refine ga_rG (i := 7) #[true, true, true, true, true, true, true, true, false, false, false, false, false, false, false, false, false, false, false, false, false, false, false, false, false, false, false, false] rfl (by kernel_rfl) (by decide) rfl rfl rfl rfl rfl h232 (r_move) ?_
    replace hm := bnd hm
    obtain ⟨x233, hx233, hm⟩ := hm
    refine ga_know _ (fun W hS => cl_at (p := (Sta.mk w0 M H R φ).ok) (sz := 1) (fun _ => rfl) (by decide) (ok_pre (H1 := []) (R1 := []) hS (fun W h => h)) fp0_0 hx233) ?_
    rintro ⟨ad234, hA236, f235⟩
    refine ga_rG (i := 8) #[true, true, true, true, true, true, true, true, true, false, false, false, false, false, false, false, false, false, false, false, false, false, false, false, false, false, false, false] rfl (by kernel_rfl) (by decide) rfl rfl rfl rfl rfl h232 (r_ix Try.underlying25 Try.sizeOf3 rfl hA236 rfl hx233) ?_
    refine ga_rG (i := 9) #[true, true, true, true, true, true, true, true, true, true, false, false, false, false, false, false, false, false, false, false, false, false, false, false, false, false, false, false] rfl (by kernel_rfl) (by decide) rfl rfl rfl rfl rfl h232 (r_ld rfl Try.isAgg3 (fun W hS => Cl.head (f235 W (ok_pre (H1 := []) (R1 := []) hS (fun W h => h))))) ?_
    refine ga_rG (i := 10) #[true, true, true, true, true, true, true, true, true, true, true, false, false, false, false, false, false, false, false, false, false, false, false, false, false, false, false, false] rfl (by kernel_rfl) (by decide) rfl rfl rfl rfl rfl h232 (r_gtr rfl rfl) ?_
    refine ga_r (i := 11) #[true, true, true, true, true, true, true, true, true, true, true, true, false, false, false, false, false, false, false, false, false, false, false, false, false, false, false, false] rfl (by kernel_rfl) (by decide) rfl (r_pick0 rfl h232) ?_
    refine ga_r (i := 12) #[true, true, true, true, true, true, true, true, true, true, true, true, true, false, false, false, false, false, false, false, false, false, false, false, false, false, false, false] rfl (by kernel_rfl) (by decide) rfl (r_move) ?_
    refine ga_if (t := 22) rfl (fun h237 => ?_) (fun h237 => ?_)
    ·
     replace hm := ite_t hm (of_decide_eq_true h237)
     refine ga_no (i := 13) #[true, true, true, true, true, true, true, true, true, true, true, true, true, true, false, false, false, false, false, false, false, false, false, false, false, false, false, false] rfl (by kernel_rfl) (fun _ _ _ _ h => h) rfl rfl rfl rfl rfl h237 ?_
     refine ga_no (i := 14) #[true, true, true, true, true, true, true, true, true, true, true, true, true, true, true, false, false, false, false, false, false, false, false, false, false, false, false, false] rfl (by kernel_rfl) (fun _ _ _ _ h => h) rfl rfl rfl rfl rfl h237 ?_
     refine ga_no (i := 15) #[true, true, true, true, true, true, true, true, true, true, true, true, true, true, true, true, false, false, false, false, false, false, false, false, false, false, false, false] rfl (by kernel_rfl) (fun _ _ _ _ h => h) rfl rfl rfl rfl rfl h237 ?_
     refine ga_nu (i := 16) #[true, true, true, true, true, true, true, true, true, true, true, true, true, true, true, true, true, false, false, false, false, false, false, false, false, false, false, false] rfl (by kernel_rfl) (fun _ _ _ _ h => h) rfl rfl rfl rfl rfl ?_
     refine ga_nu (i := 17) #[true, true, true, true, true, true, true, true, true, true, true, true, true, true, true, true, true, true, false, false, false, false, false, false, false, false, false, false] rfl (by kernel_rfl) (fun _ _ _ _ h => h) rfl rfl rfl rfl rfl ?_
     refine ga_nu (i := 18) #[true, true, true, true, true, true, true, true, true, true, true, true, true, true, true, true, true, true, true, false, false, false, false, false, false, false, false, false] rfl (by kernel_rfl) (fun _ _ _ _ h => h) rfl rfl rfl rfl rfl ?_
     refine ga_nu (i := 19) #[true, true, true, true, true, true, true, true, true, true, true, true, true, true, true, true, true, true, true, true, false, false, false, false, false, false, false, false] rfl (by kernel_rfl) (fun _ _ _ _ h => h) rfl rfl rfl rfl rfl ?_
     refine ga_nu (i := 20) #[true, true, true, true, true, true, true, true, true, true, true, true, true, true, true, true, true, true, true, true, true, false, false, false, false, false, false, false] rfl (by kernel_rfl) (fun _ _ _ _ h => h) rfl rfl rfl rfl rfl ?_
     refine ga_nu (i := 21) #[true, true, true, true, true, true, true, true, true, true, true, true, true, true, true, true, true, true, true, true, true, true, false, false, false, false, false, false] rfl (by kernel_rfl) (fun _ _ _ _ h => h) rfl rfl rfl rfl rfl ?_
     refine ga_nu (i := 22) #[true, true, true, true, true, true, true, true, true, true, true, true, true, true, true, true, true, true, true, true, true, true, true, false, false, false, false, false] rfl (by kernel_rfl) (fun _ _ _ _ h => h) rfl rfl rfl rfl rfl ?_
     refine ga_nu (i := 23) #[true, true, true, true, true, true, true, true, true, true, true, true, true, true, true, true, true, true, true, true, true, true, true, true, false, false, false, false] rfl (by kernel_rfl) (fun _ _ _ _ h => h) rfl rfl rfl rfl rfl ?_
     refine ga_nu (i := 24) #[true, true, true, true, true, true, true, true, true, true, true, true, true, true, true, true, true, true, true, true, true, true, true, true, true, false, false, false] rfl (by kernel_rfl) (fun _ _ _ _ h => h) rfl rfl rfl rfl rfl ?_
     refine ga_nu (i := 25) #[true, true, true, true, true, true, true, true, true, true, true, true, true, true, true, true, true, true, true, true, true, true, true, true, true, true, false, false] rfl (by kernel_rfl) (fun _ _ _ _ h => h) rfl rfl rfl rfl rfl ?_
     refine ga_no (i := 26) #[true, true, true, true, true, true, true, true, true, true, true, true, true, true, true, true, true, true, true, true, true, true, true, true, true, true, true, false] rfl (by kernel_rfl) (fun _ _ _ _ h => h) rfl rfl rfl rfl rfl h237 ?_
     refine ga_r (i := 27) #[true, true, true, true, true, true, true, true, true, true, true, true, true, true, true, true, true, true, true, true, true, true, true, true, true, true, true, true] rfl (by kernel_rfl) (by decide) rfl (r_pick1 rfl h237) ?_
     refine ga_done (by kernel_rfl) ?_
     refine d_then ?_
     refine c_flat [(0, .slice Ap0_0 p0.length cp0_0), (3, .int .i64 i127), (37, .bool true)] ⟨rfl, rfl, rfl, trivial⟩ (fun u => ?_)
     refine c_sta ⟨w0, M, H, R, φ⟩ (fun _ h => h) ?_
     refine c_cond1 rfl rfl ?_
     refine c_seq ?_
     refine c_region ?_
     refine g_v rfl r_assign ?_
     refine g_nil ?_
     refine d_then ?_
     refine c_ret ?_
     refine d_ret_block ?_
     refine d_ret_then ?_
     refine d_ret_then ?_
     refine d_ret_block ?_
     refine d_ret_then ?_
     refine d_ret_then ?_
     replace hm := nx_out (C := (fun e => Sum.elim (fun e => m_ref11_Right_j1 p0) (fun x => some x) e = some r)) hm hnx2 hr2
     replace hm : some false = some r := hm
     replace hm := Option.some.inj hm
     subst hm
     refine d_retC () Try.results17 ?_ trivial (fun W h => ok_pre (H1 := []) (R1 := []) h (fun W hφ => hφ)) (.inr rfl)
     refine res_tmp ?_
     refine res_nil ?_
     exact rfl
    ·
     replace hm := ite_f hm (of_decide_eq_false h237)
     refine ga_rG (i := 13) #[true, true, true, true, true, true, true, true, true, true, true, true, true, true, false, false, false, false, false, false, false, false, false, false, false, false, false, false] rfl (by kernel_rfl) (by decide) rfl rfl rfl rfl rfl h237 (r_move) ?_
     refine ga_rG (i := 14) #[true, true, true, true, true, true, true, true, true, true, true, true, true, true, true, false, false, false, false, false, false, false, false, false, false, false, false, false] rfl (by kernel_rfl) (by decide) rfl rfl rfl rfl rfl h237 (r_gtr rfl rfl) ?_
     refine ga_rG (i := 15) #[true, true, true, true, true, true, true, true, true, true, true, true, true, true, true, true, false, false, false, false, false, false, false, false, false, false, false, false] rfl (by kernel_rfl) (by decide) rfl rfl rfl rfl rfl h237 (r_move) ?_
     refine ga_if (t := 25) rfl (fun h238 => ?_) (fun h238 => ?_)
     ·
      replace hm := ite_t hm (of_decide_eq_true h238)
      refine ga_do (i := 16) #[true, true, true, true, true, true, true, true, true, true, true, true, true, true, true, true, true, false, false, false, false, false, false, false, false, false, false, false] rfl (by kernel_rfl) (fun _ _ _ _ h => h) rfl rfl rfl rfl rfl h238 (r_move) ?_
      refine ga_do (i := 17) #[true, true, true, true, true, true, true, true, true, true, true, true, true, true, true, true, true, true, false, false, false, false, false, false, false, false, false, false] rfl (by kernel_rfl) (fun _ _ _ _ h => h) rfl rfl rfl rfl rfl h238 (r_move) ?_
      replace hm := bnd hm
      obtain ⟨x239, hx239, hm⟩ := hm
      refine ga_know _ (fun W hS => cl_at (p := (Sta.mk w0 M H R φ).ok) (sz := 1) (fun _ => rfl) (by decide) (ok_pre (H1 := []) (R1 := []) hS (fun W h => h)) fp0_0 hx239) ?_
      rintro ⟨ad240, hA242, f241⟩
      refine ga_do (i := 18) #[true, true, true, true, true, true, true, true, true, true, true, true, true, true, true, true, true, true, true, false, false, false, false, false, false, false, false, false] rfl (by kernel_rfl) (fun _ _ _ _ h => h) rfl rfl rfl rfl rfl h238 (r_ix Try.underlying25 Try.sizeOf3 rfl hA242 rfl hx239) ?_
      refine ga_do (i := 19) #[true, true, true, true, true, true, true, true, true, true, true, true, true, true, true, true, true, true, true, true, false, false, false, false, false, false, false, false] rfl (by kernel_rfl) (fun _ _ _ _ h => h) rfl rfl rfl rfl rfl h238 (r_ld rfl Try.isAgg3 (fun W hS => Cl.head (f241 W (ok_pre (H1 := []) (R1 := []) hS (fun W h => h))))) ?_
      refine ga_do (i := 20) #[true, true, true, true, true, true, true, true, true, true, true, true, true, true, true, true, true, true, true, true, true, false, false, false, false, false, false, false] rfl (by kernel_rfl) (fun _ _ _ _ h => h) rfl rfl rfl rfl rfl h238 (r_move) ?_
      refine ga_rG (i := 21) #[true, true, true, true, true, true, true, true, true, true, true, true, true, true, true, true, true, true, true, true, true, true, false, false, false, false, false, false] rfl (by kernel_rfl) (by decide) rfl rfl rfl rfl rfl h238 (r_move) ?_
      refine ga_rG (i := 22) #[true, true, true, true, true, true, true, true, true, true, true, true, true, true, true, true, true, true, true, true, true, true, true, false, false, false, false, false] rfl (by kernel_rfl) (by decide) rfl rfl rfl rfl rfl h238 (r_sub rfl rfl rfl) ?_
      replace hm := bnd hm
      obtain ⟨x243, hx243, hm⟩ := hm
      refine ga_know _ (fun W hS => cl_at (p := (Sta.mk w0 M H R φ).ok) (sz := 1) (fun _ => rfl) (by decide) (ok_pre (H1 := []) (R1 := []) hS (fun W h => h)) fp0_0 hx243) ?_
      rintro ⟨ad244, hA246, f245⟩
      refine ga_rG (i := 23) #[true, true, true, true, true, true, true, true, true, true, true, true, true, true, true, true, true, true, true, true, true, true, true, true, false, false, false, false] rfl (by kernel_rfl) (by decide) rfl rfl rfl rfl rfl h238 (r_ix Try.underlying25 Try.sizeOf3 rfl hA246 rfl hx243) ?_
      refine ga_rG (i := 24) #[true, true, true, true, true, true, true, true, true, true, true, true, true, true, true, true, true, true, true, true, true, true, true, true, true, false, false, false] rfl (by kernel_rfl) (by decide) rfl rfl rfl rfl rfl h238 (r_ld rfl Try.isAgg3 (fun W hS => Cl.head (f245 W (ok_pre (H1 := []) (R1 := []) hS (fun W h => h))))) ?_
      refine ga_rG (i := 25) #[true, true, true, true, true, true, true, true, true, true, true, true, true, true, true, true, true, true, true, true, true, true, true, true, true, true, false, false] rfl (by kernel_rfl) (by decide) rfl rfl rfl rfl rfl h238 (r_leq rfl rfl) ?_
      refine ga_rG (i := 26) #[true, true, true, true, true, true, true, true, true, true, true, true, true, true, true, true, true, true, true, true, true, true, true, true, true, true, true, false] rfl (by kernel_rfl) (by decide) rfl rfl rfl rfl rfl h237 (r_pick1 rfl h238) ?_
      refine ga_r (i := 27) #[true, true, true, true, true, true, true, true, true, true, true, true, true, true, true, true, true, true, true, true, true, true, true, true, true, true, true, true] rfl (by kernel_rfl) (by decide) rfl (r_pick0 rfl h237) ?_
      refine ga_done (by kernel_rfl) ?_
      refine d_then ?_
      refine c_flat [(0, .slice Ap0_0 p0.length cp0_0), (3, .int .i64 i127), (37, .bool (decide (x239 ≤ x243)))] ⟨rfl, rfl, rfl, trivial⟩ (fun u => ?_)
      refine c_sta ⟨w0, M, H, R, φ⟩ (fun _ h => h) ?_
      refine c_cond rfl (fun h247 => ?_) (fun h247 => ?_)
      ·
       replace hm := ite_t hm (of_decide_eq_true h247)
       refine c_seq ?_
       refine c_region ?_
       refine g_v rfl r_assign ?_
       refine g_nil ?_
       refine d_then ?_
       refine c_ret ?_
       refine d_ret_block ?_
       refine d_ret_then ?_
       refine d_ret_then ?_
       refine d_ret_block ?_
       refine d_ret_then ?_
       refine d_ret_then ?_
       replace hm := nx_out (C := (fun e => Sum.elim (fun e => m_ref11_Right_j1 p0) (fun x => some x) e = some r)) hm hnx2 hr2
       replace hm : some false = some r := hm
       replace hm := Option.some.inj hm
       subst hm
       refine d_retC () Try.results17 ?_ trivial (fun W h => ok_pre (H1 := []) (R1 := []) h (fun W hφ => hφ)) (.inr rfl)
       refine res_tmp ?_
       refine res_nil ?_
       exact rfl
      ·
       replace hm := ite_f hm (of_decide_eq_false h247)
       refine c_skip ?_
       refine d_normal_block ?_
       refine d_then ?_
       refine c_region ?_
       refine g_v rfl r_move ?_
       refine g_v rfl (r_add rfl rfl rfl) ?_
       refine g_v rfl r_assign ?_
       refine g_nil ?_
       obtain ⟨n248, hn248, hlp⟩ := nx_inl hm hnx2
       exact d_round (n248, w64 (i127 + 1)) hlp hn248 ⟨rfl, rfl, trivial⟩ (fun W h => h.phi (fun W hφ => hφ))
     ·
      replace hm := ite_f hm (of_decide_eq_false h238)
      refine ga_no (i := 16) #[true, true, true, true, true, true, true, true, true, true, true, true, true, true, true, true, true, false, false, false, false, false, false, false, false, false, false, false] rfl (by kernel_rfl) (fun _ _ _ _ h => h) rfl rfl rfl rfl rfl h238 ?_
      refine ga_no (i := 17) #[true, true, true, true, true, true, true, true, true, true, true, true, true, true, true, true, true, true, false, false, false, false, false, false, false, false, false, false] rfl (by kernel_rfl) (fun _ _ _ _ h => h) rfl rfl rfl rfl rfl h238 ?_
      refine ga_no (i := 18) #[true, true, true, true, true, true, true, true, true, true, true, true, true, true, true, true, true, true, true, false, false, false, false, false, false, false, false, false] rfl (by kernel_rfl) (fun _ _ _ _ h => h) rfl rfl rfl rfl rfl h238 ?_
      refine ga_no (i := 19) #[true, true, true, true, true, true, true, true, true, true, true, true, true, true, true, true, true, true, true, true, false, false, false, false, false, false, false, false] rfl (by kernel_rfl) (fun _ _ _ _ h => h) rfl rfl rfl rfl rfl h238 ?_
      refine ga_no (i := 20) #[true, true, true, true, true, true, true, true, true, true, true, true, true, true, true, true, true, true, true, true, true, false, false, false, false, false, false, false] rfl (by kernel_rfl) (fun _ _ _ _ h => h) rfl rfl rfl rfl rfl h238 ?_
      refine ga_no (i := 21) #[true, true, true, true, true, true, true, true, true, true, true, true, true, true, true, true, true, true, true, true, true, true, false, false, false, false, false, false] rfl (by kernel_rfl) (fun _ _ _ _ h => h) rfl rfl rfl rfl rfl h238 ?_
      refine ga_no (i := 22) #[true, true, true, true, true, true, true, true, true, true, true, true, true, true, true, true, true, true, true, true, true, true, true, false, false, false, false, false] rfl (by kernel_rfl) (fun _ _ _ _ h => h) rfl rfl rfl rfl rfl h238 ?_
      refine ga_no (i := 23) #[true, true, true, true, true, true, true, true, true, true, true, true, true, true, true, true, true, true, true, true, true, true, true, true, false, false, false, false] rfl (by kernel_rfl) (fun _ _ _ _ h => h) rfl rfl rfl rfl rfl h238 ?_
      refine ga_no (i := 24) #[true, true, true, true, true, true, true, true, true, true, true, true, true, true, true, true, true, true, true, true, true, true, true, true, true, false, false, false] rfl (by kernel_rfl) (fun _ _ _ _ h => h) rfl rfl rfl rfl rfl h238 ?_
      refine ga_no (i := 25) #[true, true, true, true, true, true, true, true, true, true, true, true, true, true, true, true, true, true, true, true, true, true, true, true, true, true, false, false] rfl (by kernel_rfl) (fun _ _ _ _ h => h) rfl rfl rfl rfl rfl h238 ?_
      refine ga_rG (i := 26) #[true, true, true, true, true, true, true, true, true, true, true, true, true, true, true, true, true, true, true, true, true, true, true, true, true, true, true, false] rfl (by kernel_rfl) (by decide) rfl rfl rfl rfl rfl h237 (r_pick0 rfl h238) ?_
      refine ga_r (i := 27) #[true, true, true, true, true, true, true, true, true, true, true, true, true, true, true, true, true, true, true, true, true, true, true, true, true, true, true, true] rfl (by kernel_rfl) (by decide) rfl (r_pick0 rfl h237) ?_
      refine ga_done (by kernel_rfl) ?_
      refine d_then ?_
      refine c_flat [(0, .slice Ap0_0 p0.length cp0_0), (3, .int .i64 i127), (37, .bool false)] ⟨rfl, rfl, rfl, trivial⟩ (fun u => ?_)
      refine c_sta ⟨w0, M, H, R, φ⟩ (fun _ h => h) ?_
      refine c_cond0 rfl rfl ?_
      refine c_skip ?_
      refine d_normal_block ?_
      refine d_then ?_
      refine c_region ?_
      refine g_v rfl r_move ?_
      refine g_v rfl (r_add rfl rfl rfl) ?_
      refine g_v rfl r_assign ?_
      refine g_nil ?_
      obtain ⟨n249, hn249, hlp⟩ := nx_inl hm hnx2
      exact d_round (n249, w64 (i127 + 1)) hlp hn249 ⟨rfl, rfl, trivial⟩ (fun W h => h.phi (fun W hφ => hφ))
  ·
   replace hm := ite_f hm (of_decide_eq_false h189)
   refine c_exit ?_
   refine d_exit_then ?_
   refine d_exit_then ?_
   refine d_exit_block ?_
   replace hm := nx_out (C := (fun e => Sum.elim (fun e => m_ref11_Right_j1 p0) (fun x => some x) e = some r)) hm hnx2 hr2
   exact d_round () hm Nat.zero_lt_one ⟨rfl, trivial⟩ (fun W h => h.phi (fun W hφ => hφ))
 ·
  unfold m_ref11_Right_j1 at hm
  refine d_flat [(0, .slice Ap0_0 p0.length cp0_0)] ⟨rfl, trivial⟩ (fun u => ?_)
  refine d_sta ⟨w0, M, H, R, φ⟩ (fun _ h => h) ?_
  refine d_then ?_
  refine c_seq ?_
  refine c_region ?_
  refine g_v rfl r_move ?_
  refine g_v rfl (r_lenL Try.underlying25 rfl) ?_
  refine g_v rfl (r_gtr rfl rfl) ?_
  refine g_v rfl r_assign ?_
  refine g_nil ?_
  refine d_then ?_
  refine c_ret ?_
  replace hm := Option.some.inj hm
  subst hm
  refine d_retC () Try.results17 ?_ trivial (fun W h => ok_pre (H1 := []) (R1 := []) h (fun W hφ => hφ)) (.inr rfl)
  refine res_tmp ?_
  refine res_nil ?_
  exact rfl

noncomputable def m_ref11_List_j1 (p0 : ByteArray) (l107 : List Int) : Option ((List Int) × Bool) :=
  some (l107, decide (0 < (p0.size : Int)))
noncomputable def m_ref11_List_j3 (p0 : ByteArray) (i129 : Int) (l126 : List Int) : Option (((List Int) × Int) ⊕ ((List Int) ⊕ ((List Int) × Bool))) :=
  (sat_ p0 i129).bind fun b174 =>
  (app 8 l126 [w64 b174]).bind fun l176 =>
  some (.inl (l176, w64 (i129 + 1)))
noncomputable def m_ref11_List_s2 (p0 : ByteArray) (l126 : List Int) (i129 : Int) : Option (((List Int) × Int) ⊕ ((List Int) ⊕ ((List Int) × Bool))) :=
  if i129 < (p0.size : Int) then
    (sat_ p0 i129).bind fun b190 =>
    if 63 < b190 then
      some (.inr (.inr (([] : List Int), false)))
    else
      if 0 < i129 then
        (sat_ p0 i129).bind fun b193 =>
        (sat_ p0 (w64 (i129 - 1))).bind fun b194 =>
        if b193 ≤ b194 then
          some (.inr (.inr (([] : List Int), false)))
        else
          m_ref11_List_j3 p0 i129 l126
      else
        m_ref11_List_j3 p0 i129 l126
  else
    some (.inr (.inl l126))
noncomputable def m_ref11_List (p0 : ByteArray) : Option ((List Int) × Bool) :=
  (loop (fun s => m_ref11_List_s2 p0 s.1 s.2) (([] : List Int), 0)).bind fun e => Sum.elim (fun e => m_ref11_List_j1 p0 e) (fun x => some x) e
theorem c_ref11_List {w0 : World} {M : Nat → Prop} {H : List (Nat × Nat × Obj)} {R : List (Nat × Row)} {φ : World → Prop} (p0 : ByteArray) (r : (List Int) × Bool) (hm : m_ref11_List p0 = some r) :
    Cn Try.prog 33 #[.string p0] ⟨w0, M, H, R, φ⟩ (fun x : Option Addr × Nat => .tuple #[.slice x.1 r.1.length x.2, .bool r.2]) (fun x => r.1.length ≤ x.2) (fun x => ⟨w0, M, H, (2000, ⟨.slice x.1 r.1.length x.2, 3, 1, r.1.length, r.1.flatMap (fun x : Int => [Value.int .i64 x])⟩) :: R, φ⟩) := by
 unfold m_ref11_List at hm
 refine cn_intro (fn := Try.f33) (N := 41) Try.func33 rfl Try.ntmps33 rfl ?_
 refine c_seq ?_
 refine c_region ?_
 refine g_v rfl r_assign ?_
 refine g_v rfl r_assign ?_
 refine g_nil ?_
 refine d_then ?_
 refine c_seq ?_
 refine c_region ?_
 refine g_v rfl r_assign ?_
 refine g_nil ?_
 refine d_then ?_
 refine c_seq ?_
 refine c_seq ?_
 refine c_region ?_
 refine g_v rfl r_assign ?_
 refine g_nil ?_
 refine d_then ?_
 refine c_sta _ (fun W h => nilR h 7 3 1) ?_
 refine c_cut (ι := (List Int) × Option Addr × Nat) [0, 4] (fun ⟨l107, A108, c109⟩ => [(4, .slice A108 l107.length c109)]) (fun ⟨l107, A108, c109⟩ => ⟨w0, M, H, (7, ⟨.slice A108 l107.length c109, 3, 1, l107.length, l107.flatMap (fun x : Int => [Value.int .i64 x])⟩) :: R, φ⟩) (fun ⟨l107, A108, c109⟩ => m_ref11_List_j1 p0 l107 = some r ∧ l107.length ≤ c109) ?_ (fun ⟨l107, A108, c109⟩ u ⟨hm, hc109⟩ => ?_)
 ·
  refine c_block ?_
  replace hm := bnd hm
  obtain ⟨out2, hl2, hr2⟩ := hm
  obtain ⟨n156', hl2⟩ := loop_lp hl2
  refine c_loopU (ι := Nat × (List Int) × Int × Option Addr × Nat) [0, 4, 5] (fun ⟨n156, l126, i129, A127, c128⟩ => [(4, .slice A127 l126.length c128), (5, .int .i64 i129)]) (fun ⟨n156, l126, i129, A127, c128⟩ => ⟨w0, M, H, (7, ⟨.slice A127 l126.length c128, 3, 1, l126.length, l126.flatMap (fun x : Int => [Value.int .i64 x])⟩) :: R, φ⟩) (fun ⟨n156, l126, i129, A127, c128⟩ => Lp (fun s => m_ref11_List_s2 p0 s.1 s.2) n156 (l126, i129) out2 ∧ l126.length ≤ c128) (fun ⟨n156, l126, i129, A127, c128⟩ => n156) (n156', ([] : List Int), 0, none, 0) ⟨hl2, (Nat.le_refl 0)⟩ ⟨rfl, rfl, rfl, trivial⟩ (fun W h => h.phi (fun W hφ => hφ)) (fun ⟨n156, l126, i129, A127, c128⟩ u ⟨hlp, hc128⟩ => ?_)
  obtain ⟨o2, hm, hnx2⟩ := lp_step hlp
  clear hlp
  replace hm : m_ref11_List_s2 p0 l126 i129 = some o2 := hm
  unfold m_ref11_List_s2 at hm
  refine c_flat [(0, .string p0), (4, .slice A127 l126.length c128), (5, .int .i64 i129)] ⟨rfl, rfl, rfl, trivial⟩ (fun u => ?_)
  refine c_sta ⟨w0, M, H, (7, ⟨.slice A127 l126.length c128, 3, 1, l126.length, l126.flatMap (fun x : Int => [Value.int .i64 x])⟩) :: R, φ⟩ (fun _ h => h) ?_
  refine c_seq ?_
  refine c_seq ?_
  refine c_region ?_
  refine g_v rfl r_move ?_
  refine g_v rfl r_move ?_
  refine g_v rfl (r_len Try.underlying9 rfl) ?_
  refine g_v rfl (r_lss rfl rfl) ?_
  refine g_nil ?_
  refine d_then ?_
  refine c_cond rfl (fun h157 => ?_) (fun h157 => ?_)
  ·
   replace hm := ite_t hm (of_decide_eq_true h157)
   refine c_skip ?_
   refine d_then ?_
   refine c_seq ?_
   refine c_block ?_
   refine c_seq ?_
   refine c_cut (ι := Unit) [0, 4, 5] (fun _ => []) (fun _ => ⟨w0, M, H, (7, ⟨.slice A127 l126.length c128, 3, 1, l126.length, l126.flatMap (fun x : Int => [Value.int .i64 x])⟩) :: R, φ⟩) (fun _ => m_ref11_List_j3 p0 i129 l126 = some o2) ?_ (fun _ u hm => ?_)
   ·
    refine c_seq ?_
    refine ga_start (n := 18) ⟨w0, M, H, (7, ⟨.slice A127 l126.length c128, 3, 1, l126.length, l126.flatMap (fun x : Int => [Value.int .i64 x])⟩) :: R, φ⟩ [] #[false, false, false, false, false, false, false, false, false, false, false, false, false, false, false, false, false, false] (fun W h => h.phi (fun W hφ => hφ)) mixed rfl rfl ?_
    refine ga_v (i := 0) #[true, false, false, false, false, false, false, false, false, false, false, false, false, false, false, false, false, false] rfl (by kernel_rfl) (fun _ _ _ _ h => h) rfl (r_move) ?_
    refine ga_r (i := 1) #[true, true, false, false, false, false, false, false, false, false, false, false, false, false, false, false, false, false] rfl (by kernel_rfl) (by decide) rfl (r_move) ?_
    replace hm := bnd hm
    obtain ⟨b190, hb190, hm⟩ := hm
    refine ga_r (i := 2) #[true, true, true, false, false, false, false, false, false, false, false, false, false, false, false, false, false, false] rfl (by kernel_rfl) (by decide) rfl (r_sat Try.underlying9 rfl rfl hb190) ?_
    refine ga_r (i := 3) #[true, true, true, true, false, false, false, false, false, false, false, false, false, false, false, false, false, false] rfl (by kernel_rfl) (by decide) rfl (r_gtr rfl rfl) ?_
    refine ga_r (i := 4) #[true, true, true, true, true, false, false, false, false, false, false, false, false, false, false, false, false, false] rfl (by kernel_rfl) (by decide) rfl (r_move) ?_
    refine ga_if (t := 16) rfl (fun h191 => ?_) (fun h191 => ?_)
    ·
     replace hm := ite_t hm (of_decide_eq_true h191)
     refine ga_no (i := 5) #[true, true, true, true, true, true, false, false, false, false, false, false, false, false, false, false, false, false] rfl (by kernel_rfl) (fun _ _ _ _ h => h) rfl rfl rfl rfl rfl h191 ?_
     refine ga_no (i := 6) #[true, true, true, true, true, true, true, false, false, false, false, false, false, false, false, false, false, false] rfl (by kernel_rfl) (fun _ _ _ _ h => h) rfl rfl rfl rfl rfl h191 ?_
     refine ga_no (i := 7) #[true, true, true, true, true, true, true, true, false, false, false, false, false, false, false, false, false, false] rfl (by kernel_rfl) (fun _ _ _ _ h => h) rfl rfl rfl rfl rfl h191 ?_
     refine ga_nu (i := 8) #[true, true, true, true, true, true, true, true, true, false, false, false, false, false, false, false, false, false] rfl (by kernel_rfl) (fun _ _ _ _ h => h) rfl rfl rfl rfl rfl ?_
     refine ga_nu (i := 9) #[true, true, true, true, true, true, true, true, true, true, false, false, false, false, false, false, false, false] rfl (by kernel_rfl) (fun _ _ _ _ h => h) rfl rfl rfl rfl rfl ?_
     refine ga_nu (i := 10) #[true, true, true, true, true, true, true, true, true, true, true, false, false, false, false, false, false, false] rfl (by kernel_rfl) (fun _ _ _ _ h => h) rfl rfl rfl rfl rfl ?_
     refine ga_nu (i := 11) #[true, true, true, true, true, true, true, true, true, true, true, true, false, false, false, false, false, false] rfl (by kernel_rfl) (fun _ _ _ _ h => h) rfl rfl rfl rfl rfl ?_
     refine ga_nu (i := 12) #[true, true, true, true, true, true, true, true, true, true, true, true, true, false, false, false, false, false] rfl (by kernel_rfl) (fun _ _ _ _ h => h) rfl rfl rfl rfl rfl ?_
     refine ga_nu (i := 13) #[true, true, true, true, true, true, true, true, true, true, true, true, true, true, false, false, false, false] rfl (by kernel_rfl) (fun _ _ _ _ h => h) rfl rfl rfl rfl rfl ?_
     refine ga_nu (i := 14) #[true, true, true, true, true, true, true, true, true, true, true, true, true, true, true, false, false, false] rfl (by kernel_rfl) (fun _ _ _ _ h => h) rfl rfl rfl rfl rfl ?_
     refine ga_nu (i := 15) #[true, true, true, true, true, true, true, true, true, true, true, true, true, true, true, true, false, false] rfl (by kernel_rfl) (fun _ _ _ _ h => h) rfl rfl rfl rfl rfl ?_
     refine ga_no (i := 16) #[true, true, true, true, true, true, true, true, true, true, true, true, true, true, true, true, true, false] rfl (by kernel_rfl) (fun _ _ _ _ h => h) rfl rfl rfl rfl rfl h191 ?_
     refine ga_r (i := 17) #[true, true, true, true, true, true, true, true, true, true, true, true, true, true, true, true, true, true] rfl (by kernel_rfl) (by decide) rfl (r_pick1 rfl h191) ?_
     refine ga_done (by kernel_rfl) ?_
     refine d_then ?_
     refine c_flat [(0, .string p0), (4, .slice A127 l126.length c128), (5, .int .i64 i129), (29, .bool true)] ⟨rfl, rfl, rfl, rfl, trivial⟩ (fun u => ?_)
     refine c_sta ⟨w0, M, H, (7, ⟨.slice A127 l126.length c128, 3, 1, l126.length, l126.flatMap (fun x : Int => [Value.int .i64 x])⟩) :: R, φ⟩ (fun _ h => h) ?_
     refine c_cond1 rfl rfl ?_
     refine c_seq ?_
     refine c_region ?_
     refine g_v rfl r_assign ?_
     refine g_v rfl r_assign ?_
     refine g_nil ?_
     refine d_then ?_
     refine c_ret ?_
     refine d_ret_then ?_
     refine d_ret_then ?_
     refine d_ret_block ?_
     refine d_ret_then ?_
     refine d_ret_then ?_
     refine d_ret_block ?_
     refine d_ret_then ?_
     refine d_ret_then ?_
     replace hm := nx_out (C := (fun e => Sum.elim (fun e => m_ref11_List_j1 p0 e) (fun x => some x) e = some r)) hm hnx2 hr2
     replace hm : some (([] : List Int), false) = some r := hm
     replace hm := Option.some.inj hm
     subst hm
     refine d_sta _ (fun W h => nilR h 16 3 1) ?_
     refine d_sta _ (fun W h => ok_frontR (t := 16) (t' := 2000) h rfl) ?_
     refine d_retC (none, 0) Try.results33 ?_ (Nat.le_refl 0) (fun W h => ((h.shut (t := 7) rfl).phi (fun _ hh => hh.1)).phi (fun W hφ => hφ)) (.inr rfl)
     refine res_tmp ?_
     refine res_tmp ?_
     refine res_nil ?_
     exact rfl
    ·
     replace hm := ite_f hm (of_decide_eq_false h191)
     refine ga_rG (i := 5) #[true, true, true, true, true, true, false, false, false, false, false, false, false, false, false, false, false, false] rfl (by kernel_rfl) (by decide) rfl rfl rfl rfl rfl h191 (r_move) ?_
     refine ga_rG (i := 6) #[true, true, true, true, true, true, true, false, false, false, false, false, false, false, false, false, false, false] rfl (by kernel_rfl) (by decide) rfl rfl rfl rfl rfl h191 (r_gtr rfl rfl) ?_
     refine ga_rG (i := 7) #[true, true, true, true, true, true, true, true, false, false, false, false, false, false, false, false, false, false] rfl (by kernel_rfl) (by decide) rfl rfl rfl rfl rfl h191 (r_move) ?_
     refine ga_if (t := 19) rfl (fun h192 => ?_) (fun h192 => ?_)
     ·
      replace hm := ite_t hm (of_decide_eq_true h192)
      refine ga_do (i := 8) #[true, true, true, true, true, true, true, true, true, false, false, false, false, false, false, false, false, false] rfl (by kernel_rfl) (fun _ _ _ _ h => h) rfl rfl rfl rfl rfl h192 (r_move) ?_
      refine ga_do (i := 9) #[true, true, true, true, true, true, true, true, true, true, false, false, false, false, false, false, false, false] rfl (by kernel_rfl) (fun _ _ _ _ h => h) rfl rfl rfl rfl rfl h192 (r_move) ?_
      replace hm := bnd hm
      obtain ⟨b193, hb193, hm⟩ := hm
      refine ga_do (i := 10) #[true, true, true, true, true, true, true, true, true, true, true, false, false, false, false, false, false, false] rfl (by kernel_rfl) (fun _ _ _ _ h => h) rfl rfl rfl rfl rfl h192 (r_sat Try.underlying9 rfl rfl hb193) ?_
      refine ga_do (i := 11) #[true, true, true, true, true, true, true, true, true, true, true, true, false, false, false, false, false, false] rfl (by kernel_rfl) (fun _ _ _ _ h => h) rfl rfl rfl rfl rfl h192 (r_move) ?_
      refine ga_rG (i := 12) #[true, true, true, true, true, true, true, true, true, true, true, true, true, false, false, false, false, false] rfl (by kernel_rfl) (by decide) rfl rfl rfl rfl rfl h192 (r_move) ?_
      refine ga_rG (i := 13) #[true, true, true, true, true, true, true, true, true, true, true, true, true, true, false, false, false, false] rfl (by kernel_rfl) (by decide) rfl rfl rfl rfl rfl h192 (r_sub rfl rfl rfl) ?_
      replace hm := bnd hm
      obtain ⟨b194, hb194, hm⟩ := hm
      refine ga_rG (i := 14) #[true, true, true, true, true, true, true, true, true, true, true, true, true, true, true, false, false, false] rfl (by kernel_rfl) (by decide) rfl rfl rfl rfl rfl h192 (r_sat Try.underlying9 rfl rfl hb194) ?_
      refine ga_rG (i := 15) #[true, true, true, true, true, true, true, true, true, true, true, true, true, true, true, true, false, false] rfl (by kernel_rfl) (by decide) rfl rfl rfl rfl rfl h192 (r_leq rfl rfl) ?_
      refine ga_rG (i := 16) #[true, true, true, true, true, true, true, true, true, true, true, true, true, true, true, true, true, false] rfl (by kernel_rfl) (by decide) rfl rfl rfl rfl rfl h191 (r_pick1 rfl h192) ?_
      refine ga_r (i := 17) #[true, true, true, true, true, true, true, true, true, true, true, true, true, true, true, true, true, true] rfl (by kernel_rfl) (by decide) rfl (r_pick0 rfl h191) ?_
      refine ga_done (by kernel_rfl) ?_
      refine d_then ?_
      refine c_flat [(0, .string p0), (4, .slice A127 l126.length c128), (5, .int .i64 i129), (29, .bool (decide (b193 ≤ b194)))] ⟨rfl, rfl, rfl, rfl, trivial⟩ (fun u => ?_)
      refine c_sta ⟨w0, M, H, (7, ⟨.slice A127 l126.length c128, 3, 1, l126.length, l126.flatMap (fun x : Int => [Value.int .i64 x])⟩) :: R, φ⟩ (fun _ h => h) ?_
      refine c_cond rfl (fun h195 => ?_) (fun h195 => ?_)
      ·
       replace hm := ite_t hm (of_decide_eq_true h195)
       refine c_seq ?_
       refine c_region ?_
       refine g_v rfl r_assign ?_
       refine g_v rfl r_assign ?_
       refine g_nil ?_
       refine d_then ?_
       refine c_ret ?_
       refine d_ret_then ?_
       refine d_ret_then ?_
       refine d_ret_block ?_
       refine d_ret_then ?_
       refine d_ret_then ?_
       refine d_ret_block ?_
       refine d_ret_then ?_
       refine d_ret_then ?_
       replace hm := nx_out (C := (fun e => Sum.elim (fun e => m_ref11_List_j1 p0 e) (fun x => some x) e = some r)) hm hnx2 hr2
       replace hm : some (([] : List Int), false) = some r := hm
       replace hm := Option.some.inj hm
       subst hm
       refine d_sta _ (fun W h => nilR h 17 3 1) ?_
       refine d_sta _ (fun W h => ok_frontR (t := 17) (t' := 2000) h rfl) ?_
       refine d_retC (none, 0) Try.results33 ?_ (Nat.le_refl 0) (fun W h => ((h.shut (t := 7) rfl).phi (fun _ hh => hh.1)).phi (fun W hφ => hφ)) (.inr rfl)
       refine res_tmp ?_
       refine res_tmp ?_
       refine res_nil ?_
       exact rfl
      ·
       replace hm := ite_f hm (of_decide_eq_false h195)
       refine c_skip ?_
       exact d_round () hm Nat.zero_lt_one ⟨rfl, rfl, rfl, trivial⟩ (fun W h => h.phi (fun W hφ => hφ))
     ·
      replace hm := ite_f hm (of_decide_eq_false h192)
      refine ga_no (i := 8) #[true, true, true, true, true, true, true, true, true, false, false, false, false, false, false, false, false, false] rfl (by kernel_rfl) (fun _ _ _ _ h => h) rfl rfl rfl rfl rfl h192 ?_
      refine ga_no (i := 9) #[true, true, true, true, true, true, true, true, true, true, false, false, false, false, false, false, false, false] rfl (by kernel_rfl) (fun _ _ _ _ h => h) rfl rfl rfl rfl rfl h192 ?_
      refine ga_no (i := 10) #[true, true, true, true, true, true, true, true, true, true, true, false, false, false, false, false, false, false] rfl (by kernel_rfl) (fun _ _ _ _ h => h) rfl rfl rfl rfl rfl h192 ?_
      refine ga_no (i := 11) #[true, true, true, true, true, true, true, true, true, true, true, true, false, false, false, false, false, false] rfl (by kernel_rfl) (fun _ _ _ _ h => h) rfl rfl rfl rfl rfl h192 ?_
      refine ga_no (i := 12) #[true, true, true, true, true, true, true, true, true, true, true, true, true, false, false, false, false, false] rfl (by kernel_rfl) (fun _ _ _ _ h => h) rfl rfl rfl rfl rfl h192 ?_
      refine ga_no (i := 13) #[true, true, true, true, true, true, true, true, true, true, true, true, true, true, false, false, false, false] rfl (by kernel_rfl) (fun _ _ _ _ h => h) rfl rfl rfl rfl rfl h192 ?_
      refine ga_no (i := 14) #[true, true, true, true, true, true, true, true, true, true, true, true, true, true, true, false, false, false] rfl (by kernel_rfl) (fun _ _ _ _ h => h) rfl rfl rfl rfl rfl h192 ?_
      refine ga_no (i := 15) #[true, true, true, true, true, true, true, true, true, true, true, true, true, true, true, true, false, false] rfl (by kernel_rfl) (fun _ _ _ _ h => h) rfl rfl rfl rfl rfl h192 ?_
      refine ga_rG (i := 16) #[true, true, true, true, true, true, true, true, true, true, true, true, true, true, true, true, true, false] rfl (by kernel_rfl) (by decide) rfl rfl rfl rfl rfl h191 (r_pick0 rfl h192) ?_
      refine ga_r (i := 17) #[true, true, true, true, true, true, true, true, true, true, true, true, true, true, true, true, true, true] rfl (by kernel_rfl) (by decide) rfl (r_pick0 rfl h191) ?_
      refine ga_done (by kernel_rfl) ?_
      refine d_then ?_
      refine c_flat [(0, .string p0), (4, .slice A127 l126.length c128), (5, .int .i64 i129), (29, .bool false)] ⟨rfl, rfl, rfl, rfl, trivial⟩ (fun u => ?_)
      refine c_sta ⟨w0, M, H, (7, ⟨.slice A127 l126.length c128, 3, 1, l126.length, l126.flatMap (fun x : Int => [Value.int .i64 x])⟩) :: R, φ⟩ (fun _ h => h) ?_
      refine c_cond0 rfl rfl ?_
      refine c_skip ?_
      exact d_round () hm Nat.zero_lt_one ⟨rfl, rfl, rfl, trivial⟩ (fun W h => h.phi (fun W hφ => hφ))
   ·
    unfold m_ref11_List_j3 at hm
    refine d_flat [(0, .string p0), (4, .slice A127 l126.length c128), (5, .int .i64 i129)] ⟨rfl, rfl, rfl, trivial⟩ (fun u => ?_)
    refine d_sta ⟨w0, M, H, (7, ⟨.slice A127 l126.length c128, 3, 1, l126.length, l126.flatMap (fun x : Int => [Value.int .i64 x])⟩) :: R, φ⟩ (fun _ h => h) ?_
    refine d_then ?_
    refine c_region ?_
    refine g_v rfl r_move ?_
    refine g_v rfl r_move ?_
    refine g_v rfl r_move ?_
    replace hm := bnd hm
    obtain ⟨b174, hb174, hm⟩ := hm
    refine g_v rfl (r_sat Try.underlying9 rfl rfl hb174) ?_
    refine g_v rfl (r_conv Try.underlying5 Try.underlying3 rfl rfl) ?_
    refine g_e rfl (e_lit (tag := 100350) (l := [w64 b174]) (enc := (fun x : Int => [Value.int .i64 x])) (sz := 1) rfl Try.underlying25 (lit3_10 _) rfl rfl (fun _ => rfl)) (fun g175 _ => ?_)
    replace hm := bnd hm
    obtain ⟨l176, hl176, hm⟩ := hm
    refine g_e rfl (e_appR (enc := (fun x : Int => [Value.int .i64 x])) (l := l126) (l1 := [w64 b174]) (l2 := l176) (tag := 7) Try.underlying25 inf3_11 rfl (by decide) (by decide) (fun _ => rfl) (fun _ => rfl) rfl hc128 rfl rfl (fun W hS => rowCl (tag := 100350) rfl W hS) hl176) (fun ⟨A177, c178⟩ hc178 => ?_)
    refine g_v rfl r_assign ?_
    refine g_nil ?_
    refine d_normal_block ?_
    refine d_then ?_
    refine c_region ?_
    refine g_v rfl r_move ?_
    refine g_v rfl (r_add rfl rfl rfl) ?_
    refine g_v rfl r_assign ?_
    refine g_nil ?_
    obtain ⟨n179, hn179, hlp⟩ := nx_inl hm hnx2
    exact d_round (n179, l176, w64 (i129 + 1), A177, c178) ⟨hlp, hc178⟩ hn179 ⟨rfl, rfl, rfl, trivial⟩ (fun W h => ((h.shut (t := 100350) rfl).phi (fun _ hh => hh.1)).phi (fun W hφ => hφ))
  ·
   replace hm := ite_f hm (of_decide_eq_false h157)
   refine c_exit ?_
   refine d_exit_then ?_
   refine d_exit_then ?_
   refine d_exit_block ?_
   replace hm := nx_out (C := (fun e => Sum.elim (fun e => m_ref11_List_j1 p0 e) (fun x => some x) e = some r)) hm hnx2 hr2
   exact d_round (l126, A127, c128) ⟨hm, hc128⟩ Nat.zero_lt_one ⟨rfl, rfl, trivial⟩ (fun W h => h.phi (fun W hφ => hφ))
 ·
  unfold m_ref11_List_j1 at hm
  refine d_flat [(0, .string p0), (4, .slice A108 l107.length c109)] ⟨rfl, rfl, trivial⟩ (fun u => ?_)
  refine d_sta ⟨w0, M, H, (7, ⟨.slice A108 l107.length c109, 3, 1, l107.length, l107.flatMap (fun x : Int => [Value.int .i64 x])⟩) :: R, φ⟩ (fun _ h => h) ?_
  refine d_then ?_
  refine c_seq ?_
  refine c_region ?_
  refine g_v rfl r_move ?_
  refine g_v rfl r_move ?_
  refine g_v rfl (r_len Try.underlying9 rfl) ?_
  refine g_v rfl (r_gtr rfl rfl) ?_
  refine g_v rfl r_assign ?_
  refine g_v rfl r_assign ?_
  refine g_nil ?_
  refine d_then ?_
  refine c_ret ?_
  replace hm := Option.some.inj hm
  subst hm
  refine d_sta _ (fun W h => ok_frontR (t := 7) (t' := 2000) h rfl) ?_
  refine d_retC (A108, c109) Try.results33 ?_ hc109 (fun W h => h.phi (fun W hφ => hφ)) (.inr rfl)
  refine res_tmp ?_
  refine res_tmp ?_
  refine res_nil ?_
  exact rfl

noncomputable def m_ref11_Check_j1  : Option Int :=
  some 0
noncomputable def m_ref11_Check_s2 (p0 : GLog) (i76 : Int) (i77 : Int) : Option ((Int × Int) ⊕ (Unit ⊕ Int)) :=
  if i77 < (p0.fEntries.length : Int) then
    (at_ p0.fEntries i77).bind fun x102 =>
    if x102.fTerm < i76 then
      some (.inr (.inr 1))
    else
      if 1099511627776 < x102.fTerm then
        some (.inr (.inr 1))
      else
        if x102.fKind < 0 then
          some (.inr (.inr 1))
        else
          if 2 < x102.fKind then
            some (.inr (.inr 1))
          else
            if 8000 < (x102.fData.size : Int) then
              some (.inr (.inr 1))
            else
              (m_ref11_List x102.fData).bind fun (z118 : (List Int) × Bool) =>
              if x102.fKind = 1 then
                if z118.2 = true then
                  some (.inl (x102.fTerm, w64 (i77 + 1)))
                else
                  some (.inr (.inr 1))
              else
                some (.inl (x102.fTerm, w64 (i77 + 1)))
  else
    some (.inr (.inl ()))
noncomputable def m_ref11_Check (p0 : GLog) : Option Int :=
  if p0.fBase < 0 then
    some 1
  else
    if 1099511627776 < p0.fBase then
      some 1
    else
      if p0.fBaseTerm < 0 then
        some 1
      else
        if 1099511627776 < p0.fBaseTerm then
          some 1
        else
          if 100000 < (p0.fEntries.length : Int) then
            some 1
          else
            (loop (fun s => m_ref11_Check_s2 p0 s.1 s.2) (p0.fBaseTerm, 0)).bind fun e => Sum.elim (fun e => m_ref11_Check_j1) (fun x => some x) e
theorem c_ref11_Check {w0 : World} {M : Nat → Prop} {H : List (Nat × Nat × Obj)} {R : List (Nat × Row)} {φ : World → Prop} (p0 : GLog) (Ap0_0 : Option Addr) (cp0_0 : Nat) (hcp0_0 : p0.fEntries.length ≤ cp0_0) (fp0_0 : ∀ W, (Sta.mk w0 M H R φ).ok W → Cl W Ap0_0 (p0.fEntries.flatMap GEntry.enc)) (r : Int) (hm : m_ref11_Check p0 = some r) :
    Cn Try.prog 18 #[.agg #[.int .i64 p0.fBase, .int .i64 p0.fBaseTerm, .slice Ap0_0 p0.fEntries.length cp0_0]] ⟨w0, M, H, R, φ⟩ (fun x : Unit => .int .i64 r) (fun x => True) (fun x => ⟨w0, M, H, R, φ⟩) := by
 unfold m_ref11_Check at hm
 refine cn_intro (fn := Try.f18) (N := 86) Try.func18 rfl Try.ntmps18 rfl ?_
 refine c_seq ?_
 refine c_region ?_
 refine g_e rfl (e_box 100010 rfl) (fun g1 _ => ?_)
 refine g_v rfl r_assign ?_
 refine g_nil ?_
 refine d_then ?_
 refine c_seq ?_
 refine c_seq ?_
 refine c_region ?_
 refine g_v rfl (r_field (n := 0) Try.underlying28 rfl Try.sizeOf3 rfl rfl) ?_
 refine g_v rfl (r_load (tag := 100010) rfl rfl rfl Try.isAgg3) ?_
 refine g_v rfl (r_lss rfl rfl) ?_
 refine g_v rfl r_move ?_
 refine g_if rfl rfl rfl rfl rfl (fun h2 => ?_) (fun h2 => ?_)
 ·
  replace hm := ite_f hm (of_decide_eq_false h2)
  refine g_v rfl (r_field (n := 0) Try.underlying28 rfl Try.sizeOf3 rfl rfl) ?_
  refine g_do rfl rfl rfl rfl rfl h2 ?_
  refine g_v rfl (r_load (tag := 100010) rfl rfl rfl Try.isAgg3) ?_
  refine g_do rfl rfl rfl rfl rfl h2 ?_
  refine g_v rfl (r_gtr rfl rfl) ?_
  refine g_v rfl (r_pick0 rfl h2) ?_
  refine g_v rfl r_move ?_
  refine g_if rfl rfl rfl rfl rfl (fun h3 => ?_) (fun h3 => ?_)
  ·
   replace hm := ite_f hm (of_decide_eq_false h3)
   refine g_v rfl (r_field (n := 1) Try.underlying28 rfl Try.sizeOf3 rfl rfl) ?_
   refine g_do rfl rfl rfl rfl rfl h3 ?_
   refine g_v rfl (r_load (tag := 100010) rfl rfl rfl Try.isAgg3) ?_
   refine g_do rfl rfl rfl rfl rfl h3 ?_
   refine g_v rfl (r_lss rfl rfl) ?_
   refine g_v rfl (r_pick0 rfl h3) ?_
   refine g_v rfl r_move ?_
   refine g_if rfl rfl rfl rfl rfl (fun h4 => ?_) (fun h4 => ?_)
   ·
    replace hm := ite_f hm (of_decide_eq_false h4)
    refine g_v rfl (r_field (n := 1) Try.underlying28 rfl Try.sizeOf3 rfl rfl) ?_
    refine g_do rfl rfl rfl rfl rfl h4 ?_
    refine g_v rfl (r_load (tag := 100010) rfl rfl rfl Try.isAgg3) ?_
    refine g_do rfl rfl rfl rfl rfl h4 ?_
    refine g_v rfl (r_gtr rfl rfl) ?_
    refine g_v rfl (r_pick0 rfl h4) ?_
    refine g_v rfl r_move ?_
    refine g_if rfl rfl rfl rfl rfl (fun h5 => ?_) (fun h5 => ?_)
    ·
     replace hm := ite_f hm (of_decide_eq_false h5)
     refine g_v rfl (r_field (n := 2) Try.underlying28 rfl Try.sizeOf26 rfl rfl) ?_
     refine g_do rfl rfl rfl rfl rfl h5 ?_
     refine g_v rfl (r_load (tag := 100010) rfl rfl rfl Try.isAgg26) ?_
     refine g_do rfl rfl rfl rfl rfl h5 ?_
     refine g_v rfl (r_lenL Try.underlying26 rfl) ?_
     refine g_do rfl rfl rfl rfl rfl h5 ?_
     refine g_v rfl (r_gtr rfl rfl) ?_
     refine g_v rfl (r_pick0 rfl h5) ?_
     refine g_nil ?_
     refine d_then ?_
     refine c_flat [(1, .pointer (some ⟨g1, 0, none⟩)), (31, .bool (decide (100000 < (p0.fEntries.length : Int))))] ⟨rfl, rfl, trivial⟩ (fun u => ?_)
     refine c_sta ⟨w0, M, (100010, g1, .cells #[.int .i64 p0.fBase, .int .i64 p0.fBaseTerm, .slice Ap0_0 p0.fEntries.length cp0_0] 28 (0, 0)) :: H, R, φ⟩ (fun _ h => h) ?_
     refine c_cond rfl (fun h6 => ?_) (fun h6 => ?_)
     ·
      replace hm := ite_t hm (of_decide_eq_true h6)
      refine c_seq ?_
      refine c_region ?_
      refine g_v rfl r_assign ?_
      refine g_nil ?_
      refine d_then ?_
      refine c_ret ?_
      refine d_ret_then ?_
      replace hm := Option.some.inj hm
      subst hm
      refine d_retC () Try.results18 ?_ trivial (fun W h => ok_pre (H1 := [_]) (R1 := []) h (fun W hφ => hφ)) (.inr rfl)
      refine res_tmp ?_
      refine res_nil ?_
      exact rfl
     ·
      replace hm := ite_f hm (of_decide_eq_false h6)
      refine c_skip ?_
      refine d_then ?_
      refine c_seq ?_
      refine c_region ?_
      refine g_v rfl (r_field (n := 1) Try.underlying28 rfl Try.sizeOf3 rfl rfl) ?_
      refine g_v rfl (r_load (tag := 100010) rfl rfl rfl Try.isAgg3) ?_
      refine g_v rfl r_assign ?_
      refine g_nil ?_
      refine d_then ?_
      refine c_seq ?_
      refine c_seq ?_
      refine c_region ?_
      refine g_v rfl r_assign ?_
      refine g_nil ?_
      refine d_then ?_
      refine c_cut (ι := Unit) [] (fun _ => []) (fun _ => ⟨w0, M, H, R, φ⟩) (fun _ => m_ref11_Check_j1 = some r) ?_ (fun _ u hm => ?_)
      ·
       refine c_block ?_
       replace hm := bnd hm
       obtain ⟨out2, hl2, hr2⟩ := hm
       obtain ⟨n100', hl2⟩ := loop_lp hl2
       refine c_loopU (ι := Nat × Int × Int) [1, 3, 4] (fun ⟨n100, i76, i77⟩ => [(3, .int .i64 i76), (4, .int .i64 i77)]) (fun ⟨n100, i76, i77⟩ => ⟨w0, M, (100010, g1, .cells #[.int .i64 p0.fBase, .int .i64 p0.fBaseTerm, .slice Ap0_0 p0.fEntries.length cp0_0] 28 (0, 0)) :: H, R, φ⟩) (fun ⟨n100, i76, i77⟩ => Lp (fun s => m_ref11_Check_s2 p0 s.1 s.2) n100 (i76, i77) out2) (fun ⟨n100, i76, i77⟩ => n100) (n100', p0.fBaseTerm, 0) hl2 ⟨rfl, rfl, rfl, trivial⟩ (fun W h => h.phi (fun W hφ => hφ)) (fun ⟨n100, i76, i77⟩ u hlp => ?_)
       obtain ⟨o2, hm, hnx2⟩ := lp_step hlp
       clear hlp
       replace hm : m_ref11_Check_s2 p0 i76 i77 = some o2 := hm
       unfold m_ref11_Check_s2 at hm
       refine c_flat [(1, .pointer (some ⟨g1, 0, none⟩)), (3, .int .i64 i76), (4, .int .i64 i77)] ⟨rfl, rfl, rfl, trivial⟩ (fun u => ?_)
       refine c_sta ⟨w0, M, (100010, g1, .cells #[.int .i64 p0.fBase, .int .i64 p0.fBaseTerm, .slice Ap0_0 p0.fEntries.length cp0_0] 28 (0, 0)) :: H, R, φ⟩ (fun _ h => h) ?_
       refine c_seq ?_
       refine c_seq ?_
       refine c_region ?_
       refine g_v rfl r_move ?_
       refine g_v rfl (r_field (n := 2) Try.underlying28 rfl Try.sizeOf26 rfl rfl) ?_
       refine g_v rfl (r_load (tag := 100010) rfl rfl rfl Try.isAgg26) ?_
       refine g_v rfl (r_lenL Try.underlying26 rfl) ?_
       refine g_v rfl (r_lss rfl rfl) ?_
       refine g_nil ?_
       refine d_then ?_
       refine c_cond rfl (fun h101 => ?_) (fun h101 => ?_)
       ·
        replace hm := ite_t hm (of_decide_eq_true h101)
        refine c_skip ?_
        refine d_then ?_
        refine c_seq ?_
        refine c_block ?_
        refine c_seq ?_
        refine c_region ?_
        refine g_v rfl (r_field (n := 2) Try.underlying28 rfl Try.sizeOf26 rfl rfl) ?_
        refine g_v rfl (r_load (tag := 100010) rfl rfl rfl Try.isAgg26) ?_
        refine g_v rfl r_move ?_
        replace hm := bnd hm
        obtain ⟨x102, hx102, hm⟩ := hm
        refine g_know _ (fun W hS => cl_at (p := (Sta.mk w0 M H R φ).ok) (sz := 3) (fun _ => rfl) (by decide) (ok_pre (H1 := [_]) (R1 := []) hS (fun W h => h)) fp0_0 hx102) ?_
        rintro ⟨ad103, hA105, f104⟩
        refine g_v rfl (r_ix Try.underlying26 Try.sizeOf46 rfl hA105 rfl hx102) ?_
        refine g_v rfl (r_ldA rfl Try.isAgg46 Try.sizeOf46 (fun W hS => (f104 W (ok_pre (H1 := [_]) (R1 := []) hS (fun W h => h))).take 3) rfl) ?_
        refine g_e rfl (e_alloc 100050 Try.zeroValue46) (fun g106 _ => ?_)
        refine g_storeL (tag := 100050) rfl rfl rfl rfl Try.sizeOf46 rfl rfl ?_
        refine g_nil ?_
        refine d_then ?_
        refine c_flat [(1, .pointer (some ⟨g1, 0, none⟩)), (3, .int .i64 i76), (4, .int .i64 i77), (5, .pointer (some ⟨g106, 0, none⟩))] ⟨rfl, rfl, rfl, rfl, trivial⟩ (fun u => ?_)
        refine c_sta ⟨w0, M, (100050, g106, .cells #[.int .i64 x102.fTerm, .int .i64 x102.fKind, .string x102.fData] 46 (0, 0)) :: (100010, g1, .cells #[.int .i64 p0.fBase, .int .i64 p0.fBaseTerm, .slice Ap0_0 p0.fEntries.length cp0_0] 28 (0, 0)) :: H, R, φ⟩ (fun _ h => h) ?_
        refine c_seq ?_
        refine c_seq ?_
        refine c_region ?_
        refine g_v rfl (r_field (n := 0) Try.underlying46 rfl Try.sizeOf3 rfl rfl) ?_
        refine g_v rfl (r_load (tag := 100050) rfl rfl rfl Try.isAgg3) ?_
        refine g_v rfl r_move ?_
        refine g_v rfl (r_lss rfl rfl) ?_
        refine g_v rfl r_move ?_
        refine g_if rfl rfl rfl rfl rfl (fun h107 => ?_) (fun h107 => ?_)
        ·
         replace hm := ite_f hm (of_decide_eq_false h107)
         refine g_v rfl (r_field (n := 0) Try.underlying46 rfl Try.sizeOf3 rfl rfl) ?_
         refine g_do rfl rfl rfl rfl rfl h107 ?_
         refine g_v rfl (r_load (tag := 100050) rfl rfl rfl Try.isAgg3) ?_
         refine g_do rfl rfl rfl rfl rfl h107 ?_
         refine g_v rfl (r_gtr rfl rfl) ?_
         refine g_v rfl (r_pick0 rfl h107) ?_
         refine g_v rfl r_move ?_
         refine g_if rfl rfl rfl rfl rfl (fun h108 => ?_) (fun h108 => ?_)
         ·
          replace hm := ite_f hm (of_decide_eq_false h108)
          refine g_v rfl (r_field (n := 1) Try.underlying46 rfl Try.sizeOf3 rfl rfl) ?_
          refine g_do rfl rfl rfl rfl rfl h108 ?_
          refine g_v rfl (r_load (tag := 100050) rfl rfl rfl Try.isAgg3) ?_
          refine g_do rfl rfl rfl rfl rfl h108 ?_
          refine g_v rfl (r_lss rfl rfl) ?_
          refine g_v rfl (r_pick0 rfl h108) ?_
          refine g_v rfl r_move ?_
          refine g_if rfl rfl rfl rfl rfl (fun h109 => ?_) (fun h109 => ?_)
          ·
           replace hm := ite_f hm (of_decide_eq_false h109)
           refine g_v rfl (r_field (n := 1) Try.underlying46 rfl Try.sizeOf3 rfl rfl) ?_
           refine g_do rfl rfl rfl rfl rfl h109 ?_
           refine g_v rfl (r_load (tag := 100050) rfl rfl rfl Try.isAgg3) ?_
           refine g_do rfl rfl rfl rfl rfl h109 ?_
           refine g_v rfl (r_gtr rfl rfl) ?_
           refine g_v rfl (r_pick0 rfl h109) ?_
           refine g_v rfl r_move ?_
           refine g_if rfl rfl rfl rfl rfl (fun h110 => ?_) (fun h110 => ?_)
           ·
            replace hm := ite_f hm (of_decide_eq_false h110)
            refine g_v rfl (r_field (n := 2) Try.underlying46 rfl Try.sizeOf9 rfl rfl) ?_
            refine g_do rfl rfl rfl rfl rfl h110 ?_
            refine g_v rfl (r_load (tag := 100050) rfl rfl rfl Try.isAgg9) ?_
            refine g_do rfl rfl rfl rfl rfl h110 ?_
            refine g_v rfl (r_len Try.underlying9 rfl) ?_
            refine g_do rfl rfl rfl rfl rfl h110 ?_
            refine g_v rfl (r_gtr rfl rfl) ?_
            refine g_v rfl (r_pick0 rfl h110) ?_
            refine g_nil ?_
            refine d_then ?_
            refine c_flat [(1, .pointer (some ⟨g1, 0, none⟩)), (4, .int .i64 i77), (5, .pointer (some ⟨g106, 0, none⟩)), (70, .bool (decide (8000 < (x102.fData.size : Int))))] ⟨rfl, rfl, rfl, rfl, trivial⟩ (fun u => ?_)
            refine c_sta ⟨w0, M, (100050, g106, .cells #[.int .i64 x102.fTerm, .int .i64 x102.fKind, .string x102.fData] 46 (0, 0)) :: (100010, g1, .cells #[.int .i64 p0.fBase, .int .i64 p0.fBaseTerm, .slice Ap0_0 p0.fEntries.length cp0_0] 28 (0, 0)) :: H, R, φ⟩ (fun _ h => h) ?_
            refine c_cond rfl (fun h111 => ?_) (fun h111 => ?_)
            ·
             replace hm := ite_t hm (of_decide_eq_true h111)
             refine c_seq ?_
             refine c_region ?_
             refine g_v rfl r_assign ?_
             refine g_nil ?_
             refine d_then ?_
             refine c_ret ?_
             refine d_ret_then ?_
             refine d_ret_block ?_
             refine d_ret_then ?_
             refine d_ret_then ?_
             refine d_ret_block ?_
             refine d_ret_then ?_
             refine d_ret_then ?_
             replace hm := nx_out (C := (fun e => Sum.elim (fun e => m_ref11_Check_j1) (fun x => some x) e = some r)) hm hnx2 hr2
             replace hm : some 1 = some r := hm
             replace hm := Option.some.inj hm
             subst hm
             refine d_retC () Try.results18 ?_ trivial (fun W h => ok_pre (H1 := [_, _]) (R1 := []) h (fun W hφ => hφ)) (.inr rfl)
             refine res_tmp ?_
             refine res_nil ?_
             exact rfl
            ·
             replace hm := ite_f hm (of_decide_eq_false h111)
             refine c_skip ?_
             refine d_then ?_
             refine c_seq ?_
             refine c_region ?_
             refine g_v rfl (r_field (n := 2) Try.underlying46 rfl Try.sizeOf9 rfl rfl) ?_
             refine g_v rfl (r_load (tag := 100050) rfl rfl rfl Try.isAgg9) ?_
             replace hm := bnd hm
             obtain ⟨⟨x112, x113⟩, hx114, hm⟩ := hm
             refine g_cn ⟨w0, M, _, _, φ⟩ (fun _ h => h) Try.call33 rfl rfl (c_ref11_List x102.fData _ hx114) (fun ⟨A115, c116⟩ hc116 => ?_)
             refine g_sta _ (fun W h => (ok_frontR (t := 2000) (t' := 100740) h rfl)) ?_
             refine g_v rfl r_move ?_
             refine g_v rfl (r_extract rfl rfl) ?_
             refine g_v rfl (r_extract rfl rfl) ?_
             refine g_v rfl r_assign ?_
             refine g_v rfl r_assign ?_
             refine g_nil ?_
             refine d_then ?_
             refine c_seq ?_
             refine c_seq ?_
             refine c_region ?_
             refine g_v rfl (r_field (n := 1) Try.underlying46 rfl Try.sizeOf3 rfl rfl) ?_
             refine g_v rfl (r_load (tag := 100050) rfl rfl rfl Try.isAgg3) ?_
             refine g_v rfl (r_eql rfl rfl) ?_
             refine g_v rfl r_move ?_
             refine g_if rfl rfl rfl rfl rfl (fun h119 => ?_) (fun h119 => ?_)
             ·
              replace hm := ite_t hm (of_decide_eq_true h119)
              refine g_v rfl r_move ?_
              refine g_do rfl rfl rfl rfl rfl h119 ?_
              refine g_v rfl (r_not rfl) ?_
              refine g_v rfl (r_pick1 rfl h119) ?_
              refine g_nil ?_
              refine d_then ?_
              refine c_flat [(1, .pointer (some ⟨g1, 0, none⟩)), (4, .int .i64 i77), (5, .pointer (some ⟨g106, 0, none⟩)), (83, .bool (!x113))] ⟨rfl, rfl, rfl, rfl, trivial⟩ (fun u => ?_)
              refine c_sta ⟨w0, M, (100050, g106, .cells #[.int .i64 x102.fTerm, .int .i64 x102.fKind, .string x102.fData] 46 (0, 0)) :: (100010, g1, .cells #[.int .i64 p0.fBase, .int .i64 p0.fBaseTerm, .slice Ap0_0 p0.fEntries.length cp0_0] 28 (0, 0)) :: H, (100740, ⟨.slice A115 x112.length c116, 3, 1, x112.length, x112.flatMap (fun x : Int => [Value.int .i64 x])⟩) :: R, φ⟩ (fun _ h => h) ?_
              refine c_cond rfl (fun h120 => ?_) (fun h120 => ?_)
              ·
               have h120' : x113 = false := by revert h120; cases x113 <;> simp
               replace hm := ite_f hm (bool_nt h120')
               refine c_seq ?_
               refine c_region ?_
               refine g_v rfl r_assign ?_
               refine g_nil ?_
               refine d_then ?_
               refine c_ret ?_
               refine d_ret_then ?_
               refine d_ret_block ?_
               refine d_ret_then ?_
               refine d_ret_then ?_
               refine d_ret_block ?_
               refine d_ret_then ?_
               refine d_ret_then ?_
               replace hm := nx_out (C := (fun e => Sum.elim (fun e => m_ref11_Check_j1) (fun x => some x) e = some r)) hm hnx2 hr2
               replace hm : some 1 = some r := hm
               replace hm := Option.some.inj hm
               subst hm
               refine d_retC () Try.results18 ?_ trivial (fun W h => ok_pre (H1 := [_, _]) (R1 := [_]) h (fun W hφ => hφ)) (.inr rfl)
               refine res_tmp ?_
               refine res_nil ?_
               exact rfl
              ·
               have h120' : x113 = true := by revert h120; cases x113 <;> simp
               replace hm := ite_t hm h120'
               refine c_skip ?_
               refine d_then ?_
               refine c_region ?_
               refine g_v rfl (r_field (n := 0) Try.underlying46 rfl Try.sizeOf3 rfl rfl) ?_
               refine g_v rfl (r_load (tag := 100050) rfl rfl rfl Try.isAgg3) ?_
               refine g_v rfl r_assign ?_
               refine g_nil ?_
               refine d_normal_block ?_
               refine d_then ?_
               refine c_region ?_
               refine g_v rfl r_move ?_
               refine g_v rfl (r_add rfl rfl rfl) ?_
               refine g_v rfl r_assign ?_
               refine g_nil ?_
               obtain ⟨n121, hn121, hlp⟩ := nx_inl hm hnx2
               exact d_round (n121, x102.fTerm, w64 (i77 + 1)) hlp hn121 ⟨rfl, rfl, rfl, trivial⟩ (fun W h => (((h.shut (t := 100740) rfl).phi (fun _ hh => hh.1)).dropH (t := 100050) rfl).phi (fun W hφ => hφ))
             ·
              replace hm := ite_f hm (of_decide_eq_false h119)
              refine g_no rfl rfl rfl rfl rfl h119 ?_
              refine g_v rfl (r_pick0 rfl h119) ?_
              refine g_nil ?_
              refine d_then ?_
              refine c_flat [(1, .pointer (some ⟨g1, 0, none⟩)), (4, .int .i64 i77), (5, .pointer (some ⟨g106, 0, none⟩)), (83, .bool false)] ⟨rfl, rfl, rfl, rfl, trivial⟩ (fun u => ?_)
              refine c_sta ⟨w0, M, (100050, g106, .cells #[.int .i64 x102.fTerm, .int .i64 x102.fKind, .string x102.fData] 46 (0, 0)) :: (100010, g1, .cells #[.int .i64 p0.fBase, .int .i64 p0.fBaseTerm, .slice Ap0_0 p0.fEntries.length cp0_0] 28 (0, 0)) :: H, (100740, ⟨.slice A115 x112.length c116, 3, 1, x112.length, x112.flatMap (fun x : Int => [Value.int .i64 x])⟩) :: R, φ⟩ (fun _ h => h) ?_
              refine c_cond0 rfl rfl ?_
              refine c_skip ?_
              refine d_then ?_
              refine c_region ?_
              refine g_v rfl (r_field (n := 0) Try.underlying46 rfl Try.sizeOf3 rfl rfl) ?_
              refine g_v rfl (r_load (tag := 100050) rfl rfl rfl Try.isAgg3) ?_
              refine g_v rfl r_assign ?_
              refine g_nil ?_
              refine d_normal_block ?_
              refine d_then ?_
              refine c_region ?_
              refine g_v rfl r_move ?_
              refine g_v rfl (r_add rfl rfl rfl) ?_
              refine g_v rfl r_assign ?_
              refine g_nil ?_
              obtain ⟨n122, hn122, hlp⟩ := nx_inl hm hnx2
              exact d_round (n122, x102.fTerm, w64 (i77 + 1)) hlp hn122 ⟨rfl, rfl, rfl, trivial⟩ (fun W h => (((h.shut (t := 100740) rfl).phi (fun _ hh => hh.1)).dropH (t := 100050) rfl).phi (fun W hφ => hφ))
           ·
            replace hm := ite_t hm (of_decide_eq_true h110)
            refine g_no rfl rfl rfl rfl rfl h110 ?_
            refine g_no rfl rfl rfl rfl rfl h110 ?_
            refine g_no rfl rfl rfl rfl rfl h110 ?_
            refine g_v rfl (r_pick1 rfl h110) ?_
            refine g_nil ?_
            refine d_then ?_
            refine c_flat [(1, .pointer (some ⟨g1, 0, none⟩)), (4, .int .i64 i77), (5, .pointer (some ⟨g106, 0, none⟩)), (70, .bool true)] ⟨rfl, rfl, rfl, rfl, trivial⟩ (fun u => ?_)
            refine c_sta ⟨w0, M, (100050, g106, .cells #[.int .i64 x102.fTerm, .int .i64 x102.fKind, .string x102.fData] 46 (0, 0)) :: (100010, g1, .cells #[.int .i64 p0.fBase, .int .i64 p0.fBaseTerm, .slice Ap0_0 p0.fEntries.length cp0_0] 28 (0, 0)) :: H, R, φ⟩ (fun _ h => h) ?_
            refine c_cond1 rfl rfl ?_
            refine c_seq ?_
            refine c_region ?_
            refine g_v rfl r_assign ?_
            refine g_nil ?_
            refine d_then ?_
            refine c_ret ?_
            refine d_ret_then ?_
            refine d_ret_block ?_
            refine d_ret_then ?_
            refine d_ret_then ?_
            refine d_ret_block ?_
            refine d_ret_then ?_
            refine d_ret_then ?_
            replace hm := nx_out (C := (fun e => Sum.elim (fun e => m_ref11_Check_j1) (fun x => some x) e = some r)) hm hnx2 hr2
            replace hm : some 1 = some r := hm
            replace hm := Option.some.inj hm
            subst hm
            refine d_retC () Try.results18 ?_ trivial (fun W h => ok_pre (H1 := [_, _]) (R1 := []) h (fun W hφ => hφ)) (.inr rfl)
            refine res_tmp ?_
            refine res_nil ?_
            exact rfl
          ·
           replace hm := ite_t hm (of_decide_eq_true h109)
           refine g_no rfl rfl rfl rfl rfl h109 ?_
           refine g_no rfl rfl rfl rfl rfl h109 ?_
           refine g_v rfl (r_pick1 rfl h109) ?_
           refine g_v rfl r_move ?_
           refine g_no rfl rfl rfl rfl rfl rfl ?_
           refine g_no rfl rfl rfl rfl rfl rfl ?_
           refine g_no rfl rfl rfl rfl rfl rfl ?_
           refine g_no rfl rfl rfl rfl rfl rfl ?_
           refine g_v rfl (r_pick1 rfl rfl) ?_
           refine g_nil ?_
           refine d_then ?_
           refine c_flat [(1, .pointer (some ⟨g1, 0, none⟩)), (4, .int .i64 i77), (5, .pointer (some ⟨g106, 0, none⟩)), (70, .bool true)] ⟨rfl, rfl, rfl, rfl, trivial⟩ (fun u => ?_)
           refine c_sta ⟨w0, M, (100050, g106, .cells #[.int .i64 x102.fTerm, .int .i64 x102.fKind, .string x102.fData] 46 (0, 0)) :: (100010, g1, .cells #[.int .i64 p0.fBase, .int .i64 p0.fBaseTerm, .slice Ap0_0 p0.fEntries.length cp0_0] 28 (0, 0)) :: H, R, φ⟩ (fun _ h => h) ?_
           refine c_cond1 rfl rfl ?_
           refine c_seq ?_
           refine c_region ?_
           refine g_v rfl r_assign ?_
           refine g_nil ?_
           refine d_then ?_
           refine c_ret ?_
           refine d_ret_then ?_
           refine d_ret_block ?_
           refine d_ret_then ?_
           refine d_ret_then ?_
           refine d_ret_block ?_
           refine d_ret_then ?_
           refine d_ret_then ?_
           replace hm := nx_out (C := (fun e => Sum.elim (fun e => m_ref11_Check_j1) (fun x => some x) e = some r)) hm hnx2 hr2
           replace hm : some 1 = some r := hm
           replace hm := Option.some.inj hm
           subst hm
           refine d_retC () Try.results18 ?_ trivial (fun W h => ok_pre (H1 := [_, _]) (R1 := []) h (fun W hφ => hφ)) (.inr rfl)
           refine res_tmp ?_
           refine res_nil ?_
           exact rfl
         ·
          replace hm := ite_t hm (of_decide_eq_true h108)
          refine g_no rfl rfl rfl rfl rfl h108 ?_
          refine g_no rfl rfl rfl rfl rfl h108 ?_
          refine g_v rfl (r_pick1 rfl h108) ?_
          refine g_v rfl r_move ?_
          refine g_no rfl rfl rfl rfl rfl rfl ?_
          refine g_no rfl rfl rfl rfl rfl rfl ?_
          refine g_no rfl rfl rfl rfl rfl rfl ?_
          refine g_v rfl (r_pick1 rfl rfl) ?_
          refine g_v rfl r_move ?_
          refine g_no rfl rfl rfl rfl rfl rfl ?_
          refine g_no rfl rfl rfl rfl rfl rfl ?_
          refine g_no rfl rfl rfl rfl rfl rfl ?_
          refine g_no rfl rfl rfl rfl rfl rfl ?_
          refine g_v rfl (r_pick1 rfl rfl) ?_
          refine g_nil ?_
          refine d_then ?_
          refine c_flat [(1, .pointer (some ⟨g1, 0, none⟩)), (4, .int .i64 i77), (5, .pointer (some ⟨g106, 0, none⟩)), (70, .bool true)] ⟨rfl, rfl, rfl, rfl, trivial⟩ (fun u => ?_)
          refine c_sta ⟨w0, M, (100050, g106, .cells #[.int .i64 x102.fTerm, .int .i64 x102.fKind, .string x102.fData] 46 (0, 0)) :: (100010, g1, .cells #[.int .i64 p0.fBase, .int .i64 p0.fBaseTerm, .slice Ap0_0 p0.fEntries.length cp0_0] 28 (0, 0)) :: H, R, φ⟩ (fun _ h => h) ?_
          refine c_cond1 rfl rfl ?_
          refine c_seq ?_
          refine c_region ?_
          refine g_v rfl r_assign ?_
          refine g_nil ?_
          refine d_then ?_
          refine c_ret ?_
          refine d_ret_then ?_
          refine d_ret_block ?_
          refine d_ret_then ?_
          refine d_ret_then ?_
          refine d_ret_block ?_
          refine d_ret_then ?_
          refine d_ret_then ?_
          replace hm := nx_out (C := (fun e => Sum.elim (fun e => m_ref11_Check_j1) (fun x => some x) e = some r)) hm hnx2 hr2
          replace hm : some 1 = some r := hm
          replace hm := Option.some.inj hm
          subst hm
          refine d_retC () Try.results18 ?_ trivial (fun W h => ok_pre (H1 := [_, _]) (R1 := []) h (fun W hφ => hφ)) (.inr rfl)
          refine res_tmp ?_
          refine res_nil ?_
          exact rfl
        ·
         replace hm := ite_t hm (of_decide_eq_true h107)
         refine g_no rfl rfl rfl rfl rfl h107 ?_
         refine g_no rfl rfl rfl rfl rfl h107 ?_
         refine g_v rfl (r_pick1 rfl h107) ?_
         refine g_v rfl r_move ?_
         refine g_no rfl rfl rfl rfl rfl rfl ?_
         refine g_no rfl rfl rfl rfl rfl rfl ?_
         refine g_no rfl rfl rfl rfl rfl rfl ?_
         refine g_v rfl (r_pick1 rfl rfl) ?_
         refine g_v rfl r_move ?_
         refine g_no rfl rfl rfl rfl rfl rfl ?_
         refine g_no rfl rfl rfl rfl rfl rfl ?_
         refine g_no rfl rfl rfl rfl rfl rfl ?_
         refine g_v rfl (r_pick1 rfl rfl) ?_
         refine g_v rfl r_move ?_
         refine g_no rfl rfl rfl rfl rfl rfl ?_
         refine g_no rfl rfl rfl rfl rfl rfl ?_
         refine g_no rfl rfl rfl rfl rfl rfl ?_
         refine g_no rfl rfl rfl rfl rfl rfl ?_
         refine g_v rfl (r_pick1 rfl rfl) ?_
         refine g_nil ?_
         refine d_then ?_
         refine c_flat [(1, .pointer (some ⟨g1, 0, none⟩)), (4, .int .i64 i77), (5, .pointer (some ⟨g106, 0, none⟩)), (70, .bool true)] ⟨rfl, rfl, rfl, rfl, trivial⟩ (fun u => ?_)
         refine c_sta ⟨w0, M, (100050, g106, .cells #[.int .i64 x102.fTerm, .int .i64 x102.fKind, .string x102.fData] 46 (0, 0)) :: (100010, g1, .cells #[.int .i64 p0.fBase, .int .i64 p0.fBaseTerm, .slice Ap0_0 p0.fEntries.length cp0_0] 28 (0, 0)) :: H, R, φ⟩ (fun _ h => h) ?_
         refine c_cond1 rfl rfl ?_
         refine c_seq ?_
         refine c_region ?_
         refine g_v rfl r_assign ?_
         refine g_nil ?_
         refine d_then ?_
         refine c_ret ?_
         refine d_ret_then ?_
         refine d_ret_block ?_
         refine d_ret_then ?_
         refine d_ret_then ?_
         refine d_ret_block ?_
         refine d_ret_then ?_
         refine d_ret_then ?_
         replace hm := nx_out (C := (fun e => Sum.elim (fun e => m_ref11_Check_j1) (fun x => some x) e = some r)) hm hnx2 hr2
         replace hm : some 1 = some r := hm
         replace hm := Option.some.inj hm
         subst hm
         refine d_retC () Try.results18 ?_ trivial (fun W h => ok_pre (H1 := [_, _]) (R1 := []) h (fun W hφ => hφ)) (.inr rfl)
         refine res_tmp ?_
         refine res_nil ?_
         exact rfl
       ·
        replace hm := ite_f hm (of_decide_eq_false h101)
        refine c_exit ?_
        refine d_exit_then ?_
        refine d_exit_then ?_
        refine d_exit_block ?_
        replace hm := nx_out (C := (fun e => Sum.elim (fun e => m_ref11_Check_j1) (fun x => some x) e = some r)) hm hnx2 hr2
        exact d_round () hm Nat.zero_lt_one trivial (fun W h => (h.dropH (t := 100010) rfl).phi (fun W hφ => hφ))
      ·
       unfold m_ref11_Check_j1 at hm
       refine d_flat [] trivial (fun u => ?_)
       refine d_sta ⟨w0, M, H, R, φ⟩ (fun _ h => h) ?_
       refine d_then ?_
       refine c_seq ?_
       refine c_region ?_
       refine g_v rfl r_assign ?_
       refine g_nil ?_
       refine d_then ?_
       refine c_ret ?_
       replace hm := Option.some.inj hm
       subst hm
       refine d_retC () Try.results18 ?_ trivial (fun W h => ok_pre (H1 := []) (R1 := []) h (fun W hφ => hφ)) (.inr rfl)
       refine res_tmp ?_
       refine res_nil ?_
       exact rfl
    ·
     replace hm := ite_t hm (of_decide_eq_true h5)
     refine g_no rfl rfl rfl rfl rfl h5 ?_
     refine g_no rfl rfl rfl rfl rfl h5 ?_
     refine g_no rfl rfl rfl rfl rfl h5 ?_
     refine g_v rfl (r_pick1 rfl h5) ?_
     refine g_nil ?_
     refine d_then ?_
     refine c_flat [(1, .pointer (some ⟨g1, 0, none⟩)), (31, .bool true)] ⟨rfl, rfl, trivial⟩ (fun u => ?_)
     refine c_sta ⟨w0, M, (100010, g1, .cells #[.int .i64 p0.fBase, .int .i64 p0.fBaseTerm, .slice Ap0_0 p0.fEntries.length cp0_0] 28 (0, 0)) :: H, R, φ⟩ (fun _ h => h) ?_
     refine c_cond1 rfl rfl ?_
     refine c_seq ?_
     refine c_region ?_
     refine g_v rfl r_assign ?_
     refine g_nil ?_
     refine d_then ?_
     refine c_ret ?_
     refine d_ret_then ?_
     replace hm := Option.some.inj hm
     subst hm
     refine d_retC () Try.results18 ?_ trivial (fun W h => ok_pre (H1 := [_]) (R1 := []) h (fun W hφ => hφ)) (.inr rfl)
     refine res_tmp ?_
     refine res_nil ?_
     exact rfl
   ·
    replace hm := ite_t hm (of_decide_eq_true h4)
    refine g_no rfl rfl rfl rfl rfl h4 ?_
    refine g_no rfl rfl rfl rfl rfl h4 ?_
    refine g_v rfl (r_pick1 rfl h4) ?_
    refine g_v rfl r_move ?_
    refine g_no rfl rfl rfl rfl rfl rfl ?_
    refine g_no rfl rfl rfl rfl rfl rfl ?_
    refine g_no rfl rfl rfl rfl rfl rfl ?_
    refine g_no rfl rfl rfl rfl rfl rfl ?_
    refine g_v rfl (r_pick1 rfl rfl) ?_
    refine g_nil ?_
    refine d_then ?_
    refine c_flat [(1, .pointer (some ⟨g1, 0, none⟩)), (31, .bool true)] ⟨rfl, rfl, trivial⟩ (fun u => ?_)
    refine c_sta ⟨w0, M, (100010, g1, .cells #[.int .i64 p0.fBase, .int .i64 p0.fBaseTerm, .slice Ap0_0 p0.fEntries.length cp0_0] 28 (0, 0)) :: H, R, φ⟩ (fun _ h => h) ?_
    refine c_cond1 rfl rfl ?_
    refine c_seq ?_
    refine c_region ?_
    refine g_v rfl r_assign ?_
    refine g_nil ?_
    refine d_then ?_
    refine c_ret ?_
    refine d_ret_then ?_
    replace hm := Option.some.inj hm
    subst hm
    refine d_retC () Try.results18 ?_ trivial (fun W h => ok_pre (H1 := [_]) (R1 := []) h (fun W hφ => hφ)) (.inr rfl)
    refine res_tmp ?_
    refine res_nil ?_
    exact rfl
  ·
   replace hm := ite_t hm (of_decide_eq_true h3)
   refine g_no rfl rfl rfl rfl rfl h3 ?_
   refine g_no rfl rfl rfl rfl rfl h3 ?_
   refine g_v rfl (r_pick1 rfl h3) ?_
   refine g_v rfl r_move ?_
   refine g_no rfl rfl rfl rfl rfl rfl ?_
   refine g_no rfl rfl rfl rfl rfl rfl ?_
   refine g_no rfl rfl rfl rfl rfl rfl ?_
   refine g_v rfl (r_pick1 rfl rfl) ?_
   refine g_v rfl r_move ?_
   refine g_no rfl rfl rfl rfl rfl rfl ?_
   refine g_no rfl rfl rfl rfl rfl rfl ?_
   refine g_no rfl rfl rfl rfl rfl rfl ?_
   refine g_no rfl rfl rfl rfl rfl rfl ?_
   refine g_v rfl (r_pick1 rfl rfl) ?_
   refine g_nil ?_
   refine d_then ?_
   refine c_flat [(1, .pointer (some ⟨g1, 0, none⟩)), (31, .bool true)] ⟨rfl, rfl, trivial⟩ (fun u => ?_)
   refine c_sta ⟨w0, M, (100010, g1, .cells #[.int .i64 p0.fBase, .int .i64 p0.fBaseTerm, .slice Ap0_0 p0.fEntries.length cp0_0] 28 (0, 0)) :: H, R, φ⟩ (fun _ h => h) ?_
   refine c_cond1 rfl rfl ?_
   refine c_seq ?_
   refine c_region ?_
   refine g_v rfl r_assign ?_
   refine g_nil ?_
   refine d_then ?_
   refine c_ret ?_
   refine d_ret_then ?_
   replace hm := Option.some.inj hm
   subst hm
   refine d_retC () Try.results18 ?_ trivial (fun W h => ok_pre (H1 := [_]) (R1 := []) h (fun W hφ => hφ)) (.inr rfl)
   refine res_tmp ?_
   refine res_nil ?_
   exact rfl
 ·
  replace hm := ite_t hm (of_decide_eq_true h2)
  refine g_no rfl rfl rfl rfl rfl h2 ?_
  refine g_no rfl rfl rfl rfl rfl h2 ?_
  refine g_v rfl (r_pick1 rfl h2) ?_
  refine g_v rfl r_move ?_
  refine g_no rfl rfl rfl rfl rfl rfl ?_
  refine g_no rfl rfl rfl rfl rfl rfl ?_
  refine g_no rfl rfl rfl rfl rfl rfl ?_
  refine g_v rfl (r_pick1 rfl rfl) ?_
  refine g_v rfl r_move ?_
  refine g_no rfl rfl rfl rfl rfl rfl ?_
  refine g_no rfl rfl rfl rfl rfl rfl ?_
  refine g_no rfl rfl rfl rfl rfl rfl ?_
  refine g_v rfl (r_pick1 rfl rfl) ?_
  refine g_v rfl r_move ?_
  refine g_no rfl rfl rfl rfl rfl rfl ?_
  refine g_no rfl rfl rfl rfl rfl rfl ?_
  refine g_no rfl rfl rfl rfl rfl rfl ?_
  refine g_no rfl rfl rfl rfl rfl rfl ?_
  refine g_v rfl (r_pick1 rfl rfl) ?_
  refine g_nil ?_
  refine d_then ?_
  refine c_flat [(1, .pointer (some ⟨g1, 0, none⟩)), (31, .bool true)] ⟨rfl, rfl, trivial⟩ (fun u => ?_)
  refine c_sta ⟨w0, M, (100010, g1, .cells #[.int .i64 p0.fBase, .int .i64 p0.fBaseTerm, .slice Ap0_0 p0.fEntries.length cp0_0] 28 (0, 0)) :: H, R, φ⟩ (fun _ h => h) ?_
  refine c_cond1 rfl rfl ?_
  refine c_seq ?_
  refine c_region ?_
  refine g_v rfl r_assign ?_
  refine g_nil ?_
  refine d_then ?_
  refine c_ret ?_
  refine d_ret_then ?_
  replace hm := Option.some.inj hm
  subst hm
  refine d_retC () Try.results18 ?_ trivial (fun W h => ok_pre (H1 := [_]) (R1 := []) h (fun W hφ => hφ)) (.inr rfl)
  refine res_tmp ?_
  refine res_nil ?_
  exact rfl

noncomputable def m_law11_may (p0 : GHard) : Option Bool :=
  (m_ref11_Right p0.fVoters).bind fun x2 =>
  (m_ref11_Check p0.fLog).bind fun x4 =>
  if x4 = 0 then
    if x2 = true then
      if 0 ≤ p0.fTerm then
        if p0.fTerm ≤ 1099511627776 then
          if 0 ≤ p0.fVote then
            some (decide (p0.fVote ≤ 1099511627776))
          else
            some false
        else
          some false
      else
        some false
    else
      if (p0.fVoters.length : Int) = 0 then
        if 0 ≤ p0.fTerm then
          if p0.fTerm ≤ 1099511627776 then
            if 0 ≤ p0.fVote then
              some (decide (p0.fVote ≤ 1099511627776))
            else
              some false
          else
            some false
        else
          some false
      else
        some false
  else
    some false
theorem c_law11_may {w0 : World} {M : Nat → Prop} {H : List (Nat × Nat × Obj)} {R : List (Nat × Row)} {φ : World → Prop} (p0 : GHard) (Ap0_0 : Option Addr) (cp0_0 : Nat) (hcp0_0 : p0.fVoters.length ≤ cp0_0) (fp0_0 : ∀ W, (Sta.mk w0 M H R φ).ok W → Cl W Ap0_0 (p0.fVoters.flatMap (fun x : Int => [Value.int .i64 x]))) (Ap0_1 : Option Addr) (cp0_1 : Nat) (hcp0_1 : p0.fLog.fEntries.length ≤ cp0_1) (fp0_1 : ∀ W, (Sta.mk w0 M H R φ).ok W → Cl W Ap0_1 (p0.fLog.fEntries.flatMap GEntry.enc)) (r : Bool) (hm : m_law11_may p0 = some r) :
    Cn Try.prog 6 #[.agg #[.int .i64 p0.fTerm, .int .i64 p0.fVote, .slice Ap0_0 p0.fVoters.length cp0_0, .string p0.fSnap, .int .i64 p0.fLog.fBase, .int .i64 p0.fLog.fBaseTerm, .slice Ap0_1 p0.fLog.fEntries.length cp0_1]] ⟨w0, M, H, R, φ⟩ (fun x : Unit => .bool r) (fun x => True) (fun x => ⟨w0, M, H, R, φ⟩) := by
 unfold m_law11_may at hm
 refine cn_intro (fn := Try.f6) (N := 40) Try.func6 rfl Try.ntmps6 rfl ?_
 refine c_seq ?_
 refine c_region ?_
 refine g_e rfl (e_box 100010 rfl) (fun g1 _ => ?_)
 refine g_v rfl r_assign ?_
 refine g_nil ?_
 refine d_then ?_
 refine c_seq ?_
 refine c_region ?_
 refine g_v rfl (r_field (n := 2) Try.underlying30 rfl Try.sizeOf25 rfl rfl) ?_
 refine g_v rfl (r_load (tag := 100010) rfl rfl rfl Try.isAgg25) ?_
 replace hm := bnd hm
 obtain ⟨x2, hx3, hm⟩ := hm
 refine g_cn ⟨w0, M, _, _, φ⟩ (fun _ h => h) Try.call17 rfl rfl (c_ref11_Right p0.fVoters Ap0_0 cp0_0 hcp0_0 (fun W hS => fp0_0 W (ok_pre (H1 := [_]) (R1 := []) hS (fun W h => h))) _ hx3) (fun _ _ => ?_)
 refine g_v rfl r_assign ?_
 refine g_nil ?_
 refine d_then ?_
 refine c_seq ?_
 refine c_region ?_
 refine g_v rfl (r_field (n := 4) Try.underlying30 rfl Try.sizeOf28 rfl rfl) ?_
 refine g_v rfl (r_loadA (tag := 100010) rfl rfl Try.isAgg28 Try.sizeOf28 rfl rfl) ?_
 replace hm := bnd hm
 obtain ⟨x4, hx5, hm⟩ := hm
 refine g_cn ⟨w0, M, _, _, φ⟩ (fun _ h => h) Try.call18 rfl rfl (c_ref11_Check p0.fLog Ap0_1 cp0_1 hcp0_1 (fun W hS => fp0_1 W (ok_pre (H1 := [_]) (R1 := []) hS (fun W h => h))) _ hx5) (fun _ _ => ?_)
 refine g_v rfl (r_eql rfl rfl) ?_
 refine g_v rfl r_move ?_
 refine g_if rfl rfl rfl rfl rfl (fun h6 => ?_) (fun h6 => ?_)
 ·
  replace hm := ite_t hm (of_decide_eq_true h6)
  refine g_v rfl r_move ?_
  refine g_do rfl rfl rfl rfl rfl h6 ?_
  refine g_v rfl r_move ?_
  refine g_if rfl rfl rfl rfl rfl (fun h7 => ?_) (fun h7 => ?_)
  ·
   replace hm := ite_f hm (bool_nt h7)
   refine g_v rfl (r_field (n := 2) Try.underlying30 rfl Try.sizeOf25 rfl rfl) ?_
   refine g_do rfl rfl rfl rfl rfl h7 ?_
   refine g_v rfl (r_load (tag := 100010) rfl rfl rfl Try.isAgg25) ?_
   refine g_do rfl rfl rfl rfl rfl h7 ?_
   refine g_v rfl (r_lenL Try.underlying25 rfl) ?_
   refine g_do rfl rfl rfl rfl rfl h7 ?_
   refine g_v rfl (r_eql rfl rfl) ?_
   refine g_do rfl rfl rfl rfl rfl h6 ?_
   refine g_v rfl (r_pick0 rfl h7) ?_
   refine g_v rfl (r_pick1 rfl h6) ?_
   refine g_v rfl r_move ?_
   refine g_if rfl rfl rfl rfl rfl (fun h8 => ?_) (fun h8 => ?_)
   ·
    replace hm := ite_t hm (of_decide_eq_true h8)
    refine g_v rfl (r_field (n := 0) Try.underlying30 rfl Try.sizeOf3 rfl rfl) ?_
    refine g_do rfl rfl rfl rfl rfl h8 ?_
    refine g_v rfl (r_load (tag := 100010) rfl rfl rfl Try.isAgg3) ?_
    refine g_do rfl rfl rfl rfl rfl h8 ?_
    refine g_v rfl (r_geq rfl rfl) ?_
    refine g_v rfl (r_pick1 rfl h8) ?_
    refine g_v rfl r_move ?_
    refine g_if rfl rfl rfl rfl rfl (fun h9 => ?_) (fun h9 => ?_)
    ·
     replace hm := ite_t hm (of_decide_eq_true h9)
     refine g_v rfl (r_field (n := 0) Try.underlying30 rfl Try.sizeOf3 rfl rfl) ?_
     refine g_do rfl rfl rfl rfl rfl h9 ?_
     refine g_v rfl (r_load (tag := 100010) rfl rfl rfl Try.isAgg3) ?_
     refine g_do rfl rfl rfl rfl rfl h9 ?_
     refine g_v rfl (r_leq rfl rfl) ?_
     refine g_v rfl (r_pick1 rfl h9) ?_
     refine g_v rfl r_move ?_
     refine g_if rfl rfl rfl rfl rfl (fun h10 => ?_) (fun h10 => ?_)
     ·
      replace hm := ite_t hm (of_decide_eq_true h10)
      refine g_v rfl (r_field (n := 1) Try.underlying30 rfl Try.sizeOf3 rfl rfl) ?_
      refine g_do rfl rfl rfl rfl rfl h10 ?_
      refine g_v rfl (r_load (tag := 100010) rfl rfl rfl Try.isAgg3) ?_
      refine g_do rfl rfl rfl rfl rfl h10 ?_
      refine g_v rfl (r_geq rfl rfl) ?_
      refine g_v rfl (r_pick1 rfl h10) ?_
      refine g_v rfl r_move ?_
      refine g_if rfl rfl rfl rfl rfl (fun h11 => ?_) (fun h11 => ?_)
      ·
       replace hm := ite_t hm (of_decide_eq_true h11)
       refine g_v rfl (r_field (n := 1) Try.underlying30 rfl Try.sizeOf3 rfl rfl) ?_
       refine g_do rfl rfl rfl rfl rfl h11 ?_
       refine g_v rfl (r_load (tag := 100010) rfl rfl rfl Try.isAgg3) ?_
       refine g_do rfl rfl rfl rfl rfl h11 ?_
       refine g_v rfl (r_leq rfl rfl) ?_
       refine g_v rfl (r_pick1 rfl h11) ?_
       refine g_v rfl r_assign ?_
       refine g_nil ?_
       refine d_then ?_
       refine c_flat [(2, .bool (decide (p0.fVote ≤ 1099511627776)))] ⟨rfl, trivial⟩ (fun u => ?_)
       refine c_sta ⟨w0, M, (100010, g1, .cells #[.int .i64 p0.fTerm, .int .i64 p0.fVote, .slice Ap0_0 p0.fVoters.length cp0_0, .string p0.fSnap, .int .i64 p0.fLog.fBase, .int .i64 p0.fLog.fBaseTerm, .slice Ap0_1 p0.fLog.fEntries.length cp0_1] 30 (0, 0)) :: H, R, φ⟩ (fun _ h => h) ?_
       refine c_ret ?_
       replace hm := Option.some.inj hm
       subst hm
       refine d_retC () Try.results6 ?_ trivial (fun W h => ok_pre (H1 := [_]) (R1 := []) h (fun W hφ => hφ)) (.inr rfl)
       refine res_tmp ?_
       refine res_nil ?_
       exact rfl
      ·
       replace hm := ite_f hm (of_decide_eq_false h11)
       refine g_no rfl rfl rfl rfl rfl h11 ?_
       refine g_no rfl rfl rfl rfl rfl h11 ?_
       refine g_v rfl (r_pick0 rfl h11) ?_
       refine g_v rfl r_assign ?_
       refine g_nil ?_
       refine d_then ?_
       refine c_flat [(2, .bool false)] ⟨rfl, trivial⟩ (fun u => ?_)
       refine c_sta ⟨w0, M, (100010, g1, .cells #[.int .i64 p0.fTerm, .int .i64 p0.fVote, .slice Ap0_0 p0.fVoters.length cp0_0, .string p0.fSnap, .int .i64 p0.fLog.fBase, .int .i64 p0.fLog.fBaseTerm, .slice Ap0_1 p0.fLog.fEntries.length cp0_1] 30 (0, 0)) :: H, R, φ⟩ (fun _ h => h) ?_
       refine c_ret ?_
       replace hm := Option.some.inj hm
       subst hm
       refine d_retC () Try.results6 ?_ trivial (fun W h => ok_pre (H1 := [_]) (R1 := []) h (fun W hφ => hφ)) (.inr rfl)
       refine res_tmp ?_
       refine res_nil ?_
       exact rfl
     ·
      replace hm := ite_f hm (of_decide_eq_false h10)
      refine g_no rfl rfl rfl rfl rfl h10 ?_
      refine g_no rfl rfl rfl rfl rfl h10 ?_
      refine g_v rfl (r_pick0 rfl h10) ?_
      refine g_v rfl r_move ?_
      refine g_no rfl rfl rfl rfl rfl rfl ?_
      refine g_no rfl rfl rfl rfl rfl rfl ?_
      refine g_no rfl rfl rfl rfl rfl rfl ?_
      refine g_v rfl (r_pick0 rfl rfl) ?_
      refine g_v rfl r_assign ?_
      refine g_nil ?_
      refine d_then ?_
      refine c_flat [(2, .bool false)] ⟨rfl, trivial⟩ (fun u => ?_)
      refine c_sta ⟨w0, M, (100010, g1, .cells #[.int .i64 p0.fTerm, .int .i64 p0.fVote, .slice Ap0_0 p0.fVoters.length cp0_0, .string p0.fSnap, .int .i64 p0.fLog.fBase, .int .i64 p0.fLog.fBaseTerm, .slice Ap0_1 p0.fLog.fEntries.length cp0_1] 30 (0, 0)) :: H, R, φ⟩ (fun _ h => h) ?_
      refine c_ret ?_
      replace hm := Option.some.inj hm
      subst hm
      refine d_retC () Try.results6 ?_ trivial (fun W h => ok_pre (H1 := [_]) (R1 := []) h (fun W hφ => hφ)) (.inr rfl)
      refine res_tmp ?_
      refine res_nil ?_
      exact rfl
    ·
     replace hm := ite_f hm (of_decide_eq_false h9)
     refine g_no rfl rfl rfl rfl rfl h9 ?_
     refine g_no rfl rfl rfl rfl rfl h9 ?_
     refine g_v rfl (r_pick0 rfl h9) ?_
     refine g_v rfl r_move ?_
     refine g_no rfl rfl rfl rfl rfl rfl ?_
     refine g_no rfl rfl rfl rfl rfl rfl ?_
     refine g_no rfl rfl rfl rfl rfl rfl ?_
     refine g_v rfl (r_pick0 rfl rfl) ?_
     refine g_v rfl r_move ?_
     refine g_no rfl rfl rfl rfl rfl rfl ?_
     refine g_no rfl rfl rfl rfl rfl rfl ?_
     refine g_no rfl rfl rfl rfl rfl rfl ?_
     refine g_v rfl (r_pick0 rfl rfl) ?_
     refine g_v rfl r_assign ?_
     refine g_nil ?_
     refine d_then ?_
     refine c_flat [(2, .bool false)] ⟨rfl, trivial⟩ (fun u => ?_)
     refine c_sta ⟨w0, M, (100010, g1, .cells #[.int .i64 p0.fTerm, .int .i64 p0.fVote, .slice Ap0_0 p0.fVoters.length cp0_0, .string p0.fSnap, .int .i64 p0.fLog.fBase, .int .i64 p0.fLog.fBaseTerm, .slice Ap0_1 p0.fLog.fEntries.length cp0_1] 30 (0, 0)) :: H, R, φ⟩ (fun _ h => h) ?_
     refine c_ret ?_
     replace hm := Option.some.inj hm
     subst hm
     refine d_retC () Try.results6 ?_ trivial (fun W h => ok_pre (H1 := [_]) (R1 := []) h (fun W hφ => hφ)) (.inr rfl)
     refine res_tmp ?_
     refine res_nil ?_
     exact rfl
   ·
    replace hm := ite_f hm (of_decide_eq_false h8)
    refine g_no rfl rfl rfl rfl rfl h8 ?_
    refine g_no rfl rfl rfl rfl rfl h8 ?_
    refine g_v rfl (r_pick0 rfl h8) ?_
    refine g_v rfl r_move ?_
    refine g_no rfl rfl rfl rfl rfl rfl ?_
    refine g_no rfl rfl rfl rfl rfl rfl ?_
    refine g_no rfl rfl rfl rfl rfl rfl ?_
    refine g_v rfl (r_pick0 rfl rfl) ?_
    refine g_v rfl r_move ?_
    refine g_no rfl rfl rfl rfl rfl rfl ?_
    refine g_no rfl rfl rfl rfl rfl rfl ?_
    refine g_no rfl rfl rfl rfl rfl rfl ?_
    refine g_v rfl (r_pick0 rfl rfl) ?_
    refine g_v rfl r_move ?_
    refine g_no rfl rfl rfl rfl rfl rfl ?_
    refine g_no rfl rfl rfl rfl rfl rfl ?_
    refine g_no rfl rfl rfl rfl rfl rfl ?_
    refine g_v rfl (r_pick0 rfl rfl) ?_
    refine g_v rfl r_assign ?_
    refine g_nil ?_
    refine d_then ?_
    refine c_flat [(2, .bool false)] ⟨rfl, trivial⟩ (fun u => ?_)
    refine c_sta ⟨w0, M, (100010, g1, .cells #[.int .i64 p0.fTerm, .int .i64 p0.fVote, .slice Ap0_0 p0.fVoters.length cp0_0, .string p0.fSnap, .int .i64 p0.fLog.fBase, .int .i64 p0.fLog.fBaseTerm, .slice Ap0_1 p0.fLog.fEntries.length cp0_1] 30 (0, 0)) :: H, R, φ⟩ (fun _ h => h) ?_
    refine c_ret ?_
    replace hm := Option.some.inj hm
    subst hm
    refine d_retC () Try.results6 ?_ trivial (fun W h => ok_pre (H1 := [_]) (R1 := []) h (fun W hφ => hφ)) (.inr rfl)
    refine res_tmp ?_
    refine res_nil ?_
    exact rfl
  ·
   replace hm := ite_t hm h7
   refine g_no rfl rfl rfl rfl rfl h7 ?_
   refine g_no rfl rfl rfl rfl rfl h7 ?_
   refine g_no rfl rfl rfl rfl rfl h7 ?_
   refine g_do rfl rfl rfl rfl rfl h6 ?_
   refine g_v rfl (r_pick1 rfl h7) ?_
   refine g_v rfl (r_pick1 rfl h6) ?_
   refine g_v rfl r_move ?_
   refine g_do rfl rfl rfl rfl rfl rfl ?_
   refine g_v rfl (r_field (n := 0) Try.underlying30 rfl Try.sizeOf3 rfl rfl) ?_
   refine g_do rfl rfl rfl rfl rfl rfl ?_
   refine g_v rfl (r_load (tag := 100010) rfl rfl rfl Try.isAgg3) ?_
   refine g_do rfl rfl rfl rfl rfl rfl ?_
   refine g_v rfl (r_geq rfl rfl) ?_
   refine g_v rfl (r_pick1 rfl rfl) ?_
   refine g_v rfl r_move ?_
   refine g_if rfl rfl rfl rfl rfl (fun h12 => ?_) (fun h12 => ?_)
   ·
    replace hm := ite_t hm (of_decide_eq_true h12)
    refine g_v rfl (r_field (n := 0) Try.underlying30 rfl Try.sizeOf3 rfl rfl) ?_
    refine g_do rfl rfl rfl rfl rfl h12 ?_
    refine g_v rfl (r_load (tag := 100010) rfl rfl rfl Try.isAgg3) ?_
    refine g_do rfl rfl rfl rfl rfl h12 ?_
    refine g_v rfl (r_leq rfl rfl) ?_
    refine g_v rfl (r_pick1 rfl h12) ?_
    refine g_v rfl r_move ?_
    refine g_if rfl rfl rfl rfl rfl (fun h13 => ?_) (fun h13 => ?_)
    ·
     replace hm := ite_t hm (of_decide_eq_true h13)
     refine g_v rfl (r_field (n := 1) Try.underlying30 rfl Try.sizeOf3 rfl rfl) ?_
     refine g_do rfl rfl rfl rfl rfl h13 ?_
     refine g_v rfl (r_load (tag := 100010) rfl rfl rfl Try.isAgg3) ?_
     refine g_do rfl rfl rfl rfl rfl h13 ?_
     refine g_v rfl (r_geq rfl rfl) ?_
     refine g_v rfl (r_pick1 rfl h13) ?_
     refine g_v rfl r_move ?_
     refine g_if rfl rfl rfl rfl rfl (fun h14 => ?_) (fun h14 => ?_)
     ·
      replace hm := ite_t hm (of_decide_eq_true h14)
      refine g_v rfl (r_field (n := 1) Try.underlying30 rfl Try.sizeOf3 rfl rfl) ?_
      refine g_do rfl rfl rfl rfl rfl h14 ?_
      refine g_v rfl (r_load (tag := 100010) rfl rfl rfl Try.isAgg3) ?_
      refine g_do rfl rfl rfl rfl rfl h14 ?_
      refine g_v rfl (r_leq rfl rfl) ?_
      refine g_v rfl (r_pick1 rfl h14) ?_
      refine g_v rfl r_assign ?_
      refine g_nil ?_
      refine d_then ?_
      refine c_flat [(2, .bool (decide (p0.fVote ≤ 1099511627776)))] ⟨rfl, trivial⟩ (fun u => ?_)
      refine c_sta ⟨w0, M, (100010, g1, .cells #[.int .i64 p0.fTerm, .int .i64 p0.fVote, .slice Ap0_0 p0.fVoters.length cp0_0, .string p0.fSnap, .int .i64 p0.fLog.fBase, .int .i64 p0.fLog.fBaseTerm, .slice Ap0_1 p0.fLog.fEntries.length cp0_1] 30 (0, 0)) :: H, R, φ⟩ (fun _ h => h) ?_
      refine c_ret ?_
      replace hm := Option.some.inj hm
      subst hm
      refine d_retC () Try.results6 ?_ trivial (fun W h => ok_pre (H1 := [_]) (R1 := []) h (fun W hφ => hφ)) (.inr rfl)
      refine res_tmp ?_
      refine res_nil ?_
      exact rfl
     ·
      replace hm := ite_f hm (of_decide_eq_false h14)
      refine g_no rfl rfl rfl rfl rfl h14 ?_
      refine g_no rfl rfl rfl rfl rfl h14 ?_
      refine g_v rfl (r_pick0 rfl h14) ?_
      refine g_v rfl r_assign ?_
      refine g_nil ?_
      refine d_then ?_
      refine c_flat [(2, .bool false)] ⟨rfl, trivial⟩ (fun u => ?_)
      refine c_sta ⟨w0, M, (100010, g1, .cells #[.int .i64 p0.fTerm, .int .i64 p0.fVote, .slice Ap0_0 p0.fVoters.length cp0_0, .string p0.fSnap, .int .i64 p0.fLog.fBase, .int .i64 p0.fLog.fBaseTerm, .slice Ap0_1 p0.fLog.fEntries.length cp0_1] 30 (0, 0)) :: H, R, φ⟩ (fun _ h => h) ?_
      refine c_ret ?_
      replace hm := Option.some.inj hm
      subst hm
      refine d_retC () Try.results6 ?_ trivial (fun W h => ok_pre (H1 := [_]) (R1 := []) h (fun W hφ => hφ)) (.inr rfl)
      refine res_tmp ?_
      refine res_nil ?_
      exact rfl
    ·
     replace hm := ite_f hm (of_decide_eq_false h13)
     refine g_no rfl rfl rfl rfl rfl h13 ?_
     refine g_no rfl rfl rfl rfl rfl h13 ?_
     refine g_v rfl (r_pick0 rfl h13) ?_
     refine g_v rfl r_move ?_
     refine g_no rfl rfl rfl rfl rfl rfl ?_
     refine g_no rfl rfl rfl rfl rfl rfl ?_
     refine g_no rfl rfl rfl rfl rfl rfl ?_
     refine g_v rfl (r_pick0 rfl rfl) ?_
     refine g_v rfl r_assign ?_
     refine g_nil ?_
     refine d_then ?_
     refine c_flat [(2, .bool false)] ⟨rfl, trivial⟩ (fun u => ?_)
     refine c_sta ⟨w0, M, (100010, g1, .cells #[.int .i64 p0.fTerm, .int .i64 p0.fVote, .slice Ap0_0 p0.fVoters.length cp0_0, .string p0.fSnap, .int .i64 p0.fLog.fBase, .int .i64 p0.fLog.fBaseTerm, .slice Ap0_1 p0.fLog.fEntries.length cp0_1] 30 (0, 0)) :: H, R, φ⟩ (fun _ h => h) ?_
     refine c_ret ?_
     replace hm := Option.some.inj hm
     subst hm
     refine d_retC () Try.results6 ?_ trivial (fun W h => ok_pre (H1 := [_]) (R1 := []) h (fun W hφ => hφ)) (.inr rfl)
     refine res_tmp ?_
     refine res_nil ?_
     exact rfl
   ·
    replace hm := ite_f hm (of_decide_eq_false h12)
    refine g_no rfl rfl rfl rfl rfl h12 ?_
    refine g_no rfl rfl rfl rfl rfl h12 ?_
    refine g_v rfl (r_pick0 rfl h12) ?_
    refine g_v rfl r_move ?_
    refine g_no rfl rfl rfl rfl rfl rfl ?_
    refine g_no rfl rfl rfl rfl rfl rfl ?_
    refine g_no rfl rfl rfl rfl rfl rfl ?_
    refine g_v rfl (r_pick0 rfl rfl) ?_
    refine g_v rfl r_move ?_
    refine g_no rfl rfl rfl rfl rfl rfl ?_
    refine g_no rfl rfl rfl rfl rfl rfl ?_
    refine g_no rfl rfl rfl rfl rfl rfl ?_
    refine g_v rfl (r_pick0 rfl rfl) ?_
    refine g_v rfl r_assign ?_
    refine g_nil ?_
    refine d_then ?_
    refine c_flat [(2, .bool false)] ⟨rfl, trivial⟩ (fun u => ?_)
    refine c_sta ⟨w0, M, (100010, g1, .cells #[.int .i64 p0.fTerm, .int .i64 p0.fVote, .slice Ap0_0 p0.fVoters.length cp0_0, .string p0.fSnap, .int .i64 p0.fLog.fBase, .int .i64 p0.fLog.fBaseTerm, .slice Ap0_1 p0.fLog.fEntries.length cp0_1] 30 (0, 0)) :: H, R, φ⟩ (fun _ h => h) ?_
    refine c_ret ?_
    replace hm := Option.some.inj hm
    subst hm
    refine d_retC () Try.results6 ?_ trivial (fun W h => ok_pre (H1 := [_]) (R1 := []) h (fun W hφ => hφ)) (.inr rfl)
    refine res_tmp ?_
    refine res_nil ?_
    exact rfl
 ·
  replace hm := ite_f hm (of_decide_eq_false h6)
  refine g_no rfl rfl rfl rfl rfl h6 ?_
  refine g_nu rfl rfl rfl rfl rfl ?_
  refine g_nu rfl rfl rfl rfl rfl ?_
  refine g_nu rfl rfl rfl rfl rfl ?_
  refine g_nu rfl rfl rfl rfl rfl ?_
  refine g_no rfl rfl rfl rfl rfl h6 ?_
  refine g_v rfl (r_pick0 rfl h6) ?_
  refine g_v rfl r_move ?_
  refine g_no rfl rfl rfl rfl rfl rfl ?_
  refine g_no rfl rfl rfl rfl rfl rfl ?_
  refine g_no rfl rfl rfl rfl rfl rfl ?_
  refine g_v rfl (r_pick0 rfl rfl) ?_
  refine g_v rfl r_move ?_
  refine g_no rfl rfl rfl rfl rfl rfl ?_
  refine g_no rfl rfl rfl rfl rfl rfl ?_
  refine g_no rfl rfl rfl rfl rfl rfl ?_
  refine g_v rfl (r_pick0 rfl rfl) ?_
  refine g_v rfl r_move ?_
  refine g_no rfl rfl rfl rfl rfl rfl ?_
  refine g_no rfl rfl rfl rfl rfl rfl ?_
  refine g_no rfl rfl rfl rfl rfl rfl ?_
  refine g_v rfl (r_pick0 rfl rfl) ?_
  refine g_v rfl r_move ?_
  refine g_no rfl rfl rfl rfl rfl rfl ?_
  refine g_no rfl rfl rfl rfl rfl rfl ?_
  refine g_no rfl rfl rfl rfl rfl rfl ?_
  refine g_v rfl (r_pick0 rfl rfl) ?_
  refine g_v rfl r_assign ?_
  refine g_nil ?_
  refine d_then ?_
  refine c_flat [(2, .bool false)] ⟨rfl, trivial⟩ (fun u => ?_)
  refine c_sta ⟨w0, M, (100010, g1, .cells #[.int .i64 p0.fTerm, .int .i64 p0.fVote, .slice Ap0_0 p0.fVoters.length cp0_0, .string p0.fSnap, .int .i64 p0.fLog.fBase, .int .i64 p0.fLog.fBaseTerm, .slice Ap0_1 p0.fLog.fEntries.length cp0_1] 30 (0, 0)) :: H, R, φ⟩ (fun _ h => h) ?_
  refine c_ret ?_
  replace hm := Option.some.inj hm
  subst hm
  refine d_retC () Try.results6 ?_ trivial (fun W h => ok_pre (H1 := [_]) (R1 := []) h (fun W hφ => hφ)) (.inr rfl)
  refine res_tmp ?_
  refine res_nil ?_
  exact rfl

noncomputable def m_ref11_SameLog_j1  : Option Bool :=
  some true
noncomputable def m_ref11_SameLog_s2 (p0 : GLog) (p1 : GLog) (i89 : Int) : Option (Int ⊕ (Unit ⊕ Bool)) :=
  if i89 < (p0.fEntries.length : Int) then
    (at_ p0.fEntries i89).bind fun x135 =>
    (at_ p1.fEntries i89).bind fun x139 =>
    if x135 = x139 then
      some (.inl (w64 (i89 + 1)))
    else
      some (.inr (.inr false))
  else
    some (.inr (.inl ()))
noncomputable def m_ref11_SameLog (p0 : GLog) (p1 : GLog) : Option Bool :=
  if p0.fBase ≠ p1.fBase then
    some false
  else
    if p0.fBaseTerm ≠ p1.fBaseTerm then
      some false
    else
      if (p0.fEntries.length : Int) ≠ (p1.fEntries.length : Int) then
        some false
      else
        (loop (fun s => m_ref11_SameLog_s2 p0 p1 s) 0).bind fun e => Sum.elim (fun e => m_ref11_SameLog_j1) (fun x => some x) e
theorem c_ref11_SameLog {w0 : World} {M : Nat → Prop} {H : List (Nat × Nat × Obj)} {R : List (Nat × Row)} {φ : World → Prop} (p0 : GLog) (Ap0_0 : Option Addr) (cp0_0 : Nat) (hcp0_0 : p0.fEntries.length ≤ cp0_0) (fp0_0 : ∀ W, (Sta.mk w0 M H R φ).ok W → Cl W Ap0_0 (p0.fEntries.flatMap GEntry.enc)) (p1 : GLog) (Ap1_0 : Option Addr) (cp1_0 : Nat) (hcp1_0 : p1.fEntries.length ≤ cp1_0) (fp1_0 : ∀ W, (Sta.mk w0 M H R φ).ok W → Cl W Ap1_0 (p1.fEntries.flatMap GEntry.enc)) (r : Bool) (hm : m_ref11_SameLog p0 p1 = some r) :
    Cn Try.prog 27 #[.agg #[.int .i64 p0.fBase, .int .i64 p0.fBaseTerm, .slice Ap0_0 p0.fEntries.length cp0_0], .agg #[.int .i64 p1.fBase, .int .i64 p1.fBaseTerm, .slice Ap1_0 p1.fEntries.length cp1_0]] ⟨w0, M, H, R, φ⟩ (fun x : Unit => .bool r) (fun x => True) (fun x => ⟨w0, M, H, R, φ⟩) := by
 unfold m_ref11_SameLog at hm
 refine cn_intro (fn := Try.f27) (N := 45) Try.func27 rfl Try.ntmps27 rfl ?_
 refine c_seq ?_
 refine c_region ?_
 refine g_e rfl (e_box 100020 rfl) (fun g1 _ => ?_)
 refine g_e rfl (e_box 100030 rfl) (fun g2 _ => ?_)
 refine g_v rfl r_assign ?_
 refine g_nil ?_
 refine d_then ?_
 refine c_seq ?_
 refine c_seq ?_
 refine c_region ?_
 refine g_v rfl (r_field (n := 0) Try.underlying28 rfl Try.sizeOf3 rfl rfl) ?_
 refine g_v rfl (r_load (tag := 100020) rfl rfl rfl Try.isAgg3) ?_
 refine g_v rfl (r_field (n := 0) Try.underlying28 rfl Try.sizeOf3 rfl rfl) ?_
 refine g_v rfl (r_load (tag := 100030) rfl rfl rfl Try.isAgg3) ?_
 refine g_v rfl (r_neq rfl rfl) ?_
 refine g_v rfl r_move ?_
 refine g_if rfl rfl rfl rfl rfl (fun h3 => ?_) (fun h3 => ?_)
 ·
  replace hm := ite_f hm (of_decide_eq_false h3)
  refine g_v rfl (r_field (n := 1) Try.underlying28 rfl Try.sizeOf3 rfl rfl) ?_
  refine g_do rfl rfl rfl rfl rfl h3 ?_
  refine g_v rfl (r_load (tag := 100020) rfl rfl rfl Try.isAgg3) ?_
  refine g_do rfl rfl rfl rfl rfl h3 ?_
  refine g_v rfl (r_field (n := 1) Try.underlying28 rfl Try.sizeOf3 rfl rfl) ?_
  refine g_do rfl rfl rfl rfl rfl h3 ?_
  refine g_v rfl (r_load (tag := 100030) rfl rfl rfl Try.isAgg3) ?_
  refine g_do rfl rfl rfl rfl rfl h3 ?_
  refine g_v rfl (r_neq rfl rfl) ?_
  refine g_v rfl (r_pick0 rfl h3) ?_
  refine g_v rfl r_move ?_
  refine g_if rfl rfl rfl rfl rfl (fun h4 => ?_) (fun h4 => ?_)
  ·
   replace hm := ite_f hm (of_decide_eq_false h4)
   refine g_v rfl (r_field (n := 2) Try.underlying28 rfl Try.sizeOf26 rfl rfl) ?_
   refine g_do rfl rfl rfl rfl rfl h4 ?_
   refine g_v rfl (r_load (tag := 100020) rfl rfl rfl Try.isAgg26) ?_
   refine g_do rfl rfl rfl rfl rfl h4 ?_
   refine g_v rfl (r_lenL Try.underlying26 rfl) ?_
   refine g_do rfl rfl rfl rfl rfl h4 ?_
   refine g_v rfl (r_field (n := 2) Try.underlying28 rfl Try.sizeOf26 rfl rfl) ?_
   refine g_do rfl rfl rfl rfl rfl h4 ?_
   refine g_v rfl (r_load (tag := 100030) rfl rfl rfl Try.isAgg26) ?_
   refine g_do rfl rfl rfl rfl rfl h4 ?_
   refine g_v rfl (r_lenL Try.underlying26 rfl) ?_
   refine g_do rfl rfl rfl rfl rfl h4 ?_
   refine g_v rfl (r_neq rfl rfl) ?_
   refine g_v rfl (r_pick0 rfl h4) ?_
   refine g_nil ?_
   refine d_then ?_
   refine c_flat [(2, .pointer (some ⟨g1, 0, none⟩)), (3, .pointer (some ⟨g2, 0, none⟩)), (26, .bool (decide ((p0.fEntries.length : Int) ≠ (p1.fEntries.length : Int))))] ⟨rfl, rfl, rfl, trivial⟩ (fun u => ?_)
   refine c_sta ⟨w0, M, (100030, g2, .cells #[.int .i64 p1.fBase, .int .i64 p1.fBaseTerm, .slice Ap1_0 p1.fEntries.length cp1_0] 28 (0, 0)) :: (100020, g1, .cells #[.int .i64 p0.fBase, .int .i64 p0.fBaseTerm, .slice Ap0_0 p0.fEntries.length cp0_0] 28 (0, 0)) :: H, R, φ⟩ (fun _ h => h) ?_
   refine c_cond rfl (fun h5 => ?_) (fun h5 => ?_)
   ·
    replace hm := ite_t hm (of_decide_eq_true h5)
    refine c_seq ?_
    refine c_region ?_
    refine g_v rfl r_assign ?_
    refine g_nil ?_
    refine d_then ?_
    refine c_ret ?_
    refine d_ret_then ?_
    replace hm := Option.some.inj hm
    subst hm
    refine d_retC () Try.results27 ?_ trivial (fun W h => ok_pre (H1 := [_, _]) (R1 := []) h (fun W hφ => hφ)) (.inr rfl)
    refine res_tmp ?_
    refine res_nil ?_
    exact rfl
   ·
    replace hm := ite_f hm (of_decide_eq_false h5)
    refine c_skip ?_
    refine d_then ?_
    refine c_seq ?_
    refine c_seq ?_
    refine c_region ?_
    refine g_v rfl r_assign ?_
    refine g_nil ?_
    refine d_then ?_
    refine c_cut (ι := Unit) [] (fun _ => []) (fun _ => ⟨w0, M, H, R, φ⟩) (fun _ => m_ref11_SameLog_j1 = some r) ?_ (fun _ u hm => ?_)
    ·
     refine c_block ?_
     replace hm := bnd hm
     obtain ⟨out2, hl2, hr2⟩ := hm
     obtain ⟨n117', hl2⟩ := loop_lp hl2
     refine c_loopU (ι := Nat × Int) [2, 3, 5] (fun ⟨n117, i89⟩ => [(5, .int .i64 i89)]) (fun ⟨n117, i89⟩ => ⟨w0, M, (100030, g2, .cells #[.int .i64 p1.fBase, .int .i64 p1.fBaseTerm, .slice Ap1_0 p1.fEntries.length cp1_0] 28 (0, 0)) :: (100020, g1, .cells #[.int .i64 p0.fBase, .int .i64 p0.fBaseTerm, .slice Ap0_0 p0.fEntries.length cp0_0] 28 (0, 0)) :: H, R, φ⟩) (fun ⟨n117, i89⟩ => Lp (fun s => m_ref11_SameLog_s2 p0 p1 s) n117 i89 out2) (fun ⟨n117, i89⟩ => n117) (n117', 0) hl2 ⟨rfl, rfl, rfl, trivial⟩ (fun W h => h.phi (fun W hφ => hφ)) (fun ⟨n117, i89⟩ u hlp => ?_)
     obtain ⟨o2, hm, hnx2⟩ := lp_step hlp
     clear hlp
     replace hm : m_ref11_SameLog_s2 p0 p1 i89 = some o2 := hm
     unfold m_ref11_SameLog_s2 at hm
     refine c_flat [(2, .pointer (some ⟨g1, 0, none⟩)), (3, .pointer (some ⟨g2, 0, none⟩)), (5, .int .i64 i89)] ⟨rfl, rfl, rfl, trivial⟩ (fun u => ?_)
     refine c_sta ⟨w0, M, (100030, g2, .cells #[.int .i64 p1.fBase, .int .i64 p1.fBaseTerm, .slice Ap1_0 p1.fEntries.length cp1_0] 28 (0, 0)) :: (100020, g1, .cells #[.int .i64 p0.fBase, .int .i64 p0.fBaseTerm, .slice Ap0_0 p0.fEntries.length cp0_0] 28 (0, 0)) :: H, R, φ⟩ (fun _ h => h) ?_
     refine c_seq ?_
     refine c_seq ?_
     refine c_region ?_
     refine g_v rfl r_move ?_
     refine g_v rfl (r_field (n := 2) Try.underlying28 rfl Try.sizeOf26 rfl rfl) ?_
     refine g_v rfl (r_load (tag := 100020) rfl rfl rfl Try.isAgg26) ?_
     refine g_v rfl (r_lenL Try.underlying26 rfl) ?_
     refine g_v rfl (r_lss rfl rfl) ?_
     refine g_nil ?_
     refine d_then ?_
     refine c_cond rfl (fun h118 => ?_) (fun h118 => ?_)
     ·
      replace hm := ite_t hm (of_decide_eq_true h118)
      refine c_skip ?_
      refine d_then ?_
      refine c_seq ?_
      refine c_block ?_
      refine c_seq ?_
      refine ga_start (n := 11) ⟨w0, M, (100030, g2, .cells #[.int .i64 p1.fBase, .int .i64 p1.fBaseTerm, .slice Ap1_0 p1.fEntries.length cp1_0] 28 (0, 0)) :: (100020, g1, .cells #[.int .i64 p0.fBase, .int .i64 p0.fBaseTerm, .slice Ap0_0 p0.fEntries.length cp0_0] 28 (0, 0)) :: H, R, φ⟩ [] #[false, false, false, false, false, false, false, false, false, false, false] (fun W h => h.phi (fun W hφ => hφ)) mixed rfl rfl ?_
      refine ga_v (i := 0) #[true, false, false, false, false, false, false, false, false, false, false] rfl (by kernel_rfl) (fun _ _ _ _ h => h) rfl (r_field (n := 2) Try.underlying28 rfl Try.sizeOf26 rfl rfl) ?_
      refine ga_v (i := 1) #[true, true, false, false, false, false, false, false, false, false, false] rfl (by kernel_rfl) (fun _ _ _ _ h => h) rfl (r_load (tag := 100020) rfl rfl rfl Try.isAgg26) ?_
      refine ga_v (i := 2) #[true, true, true, false, false, false, false, false, false, false, false] rfl (by kernel_rfl) (fun _ _ _ _ h => h) rfl (r_move) ?_
      replace hm := bnd hm
      obtain ⟨x135, hx135, hm⟩ := hm
      refine ga_know _ (fun W hS => cl_at (p := (Sta.mk w0 M H R φ).ok) (sz := 3) (fun _ => rfl) (by decide) (ok_pre (H1 := [_, _]) (R1 := []) hS (fun W h => h)) fp0_0 hx135) ?_
      rintro ⟨ad136, hA138, f137⟩
      refine ga_v (i := 3) #[true, true, true, true, false, false, false, false, false, false, false] rfl (by kernel_rfl) (fun _ _ _ _ h => h) rfl (r_ix Try.underlying26 Try.sizeOf46 rfl hA138 rfl hx135) ?_
      refine ga_v (i := 4) #[true, true, true, true, true, false, false, false, false, false, false] rfl (by kernel_rfl) (fun _ _ _ _ h => h) rfl (r_ldA rfl Try.isAgg46 Try.sizeOf46 (fun W hS => (f137 W (ok_pre (H1 := [_, _]) (R1 := []) hS (fun W h => h))).take 3) rfl) ?_
      refine ga_v (i := 5) #[true, true, true, true, true, true, false, false, false, false, false] rfl (by kernel_rfl) (fun _ _ _ _ h => h) rfl (r_field (n := 2) Try.underlying28 rfl Try.sizeOf26 rfl rfl) ?_
      refine ga_v (i := 6) #[true, true, true, true, true, true, true, false, false, false, false] rfl (by kernel_rfl) (fun _ _ _ _ h => h) rfl (r_load (tag := 100030) rfl rfl rfl Try.isAgg26) ?_
      refine ga_r (i := 7) #[true, true, true, true, true, true, true, true, false, false, false] rfl (by kernel_rfl) (by decide) rfl (r_move) ?_
      replace hm := bnd hm
      obtain ⟨x139, hx139, hm⟩ := hm
      refine ga_know _ (fun W hS => cl_at (p := (Sta.mk w0 M H R φ).ok) (sz := 3) (fun _ => rfl) (by decide) (ok_pre (H1 := [_, _]) (R1 := []) hS (fun W h => h)) fp1_0 hx139) ?_
      rintro ⟨ad140, hA142, f141⟩
      refine ga_r (i := 8) #[true, true, true, true, true, true, true, true, true, false, false] rfl (by kernel_rfl) (by decide) rfl (r_ix Try.underlying26 Try.sizeOf46 rfl hA142 rfl hx139) ?_
      refine ga_r (i := 9) #[true, true, true, true, true, true, true, true, true, true, false] rfl (by kernel_rfl) (by decide) rfl (r_ldA rfl Try.isAgg46 Try.sizeOf46 (fun W hS => (f141 W (ok_pre (H1 := [_, _]) (R1 := []) hS (fun W h => h))).take 3) rfl) ?_
      refine ga_r (i := 10) #[true, true, true, true, true, true, true, true, true, true, true] rfl (by kernel_rfl) (by decide) rfl (r_neqA rfl rfl eqg46 (eqq46 x135 x139)) ?_
      refine ga_done (by kernel_rfl) ?_
      refine d_then ?_
      refine c_flat [(2, .pointer (some ⟨g1, 0, none⟩)), (3, .pointer (some ⟨g2, 0, none⟩)), (5, .int .i64 i89), (44, .bool (!(decide (x135 = x139))))] ⟨rfl, rfl, rfl, rfl, trivial⟩ (fun u => ?_)
      refine c_sta ⟨w0, M, (100030, g2, .cells #[.int .i64 p1.fBase, .int .i64 p1.fBaseTerm, .slice Ap1_0 p1.fEntries.length cp1_0] 28 (0, 0)) :: (100020, g1, .cells #[.int .i64 p0.fBase, .int .i64 p0.fBaseTerm, .slice Ap0_0 p0.fEntries.length cp0_0] 28 (0, 0)) :: H, R, φ⟩ (fun _ h => h) ?_
      refine c_cond rfl (fun h143 => ?_) (fun h143 => ?_)
      ·
       have h143' : (decide (x135 = x139)) = false := by revert h143; cases (decide (x135 = x139)) <;> simp
       replace hm := ite_f hm (of_decide_eq_false h143')
       refine c_seq ?_
       refine c_region ?_
       refine g_v rfl r_assign ?_
       refine g_nil ?_
       refine d_then ?_
       refine c_ret ?_
       refine d_ret_block ?_
       refine d_ret_then ?_
       refine d_ret_then ?_
       refine d_ret_block ?_
       refine d_ret_then ?_
       refine d_ret_then ?_
       replace hm := nx_out (C := (fun e => Sum.elim (fun e => m_ref11_SameLog_j1) (fun x => some x) e = some r)) hm hnx2 hr2
       replace hm : some false = some r := hm
       replace hm := Option.some.inj hm
       subst hm
       refine d_retC () Try.results27 ?_ trivial (fun W h => ok_pre (H1 := [_, _]) (R1 := []) h (fun W hφ => hφ)) (.inr rfl)
       refine res_tmp ?_
       refine res_nil ?_
       exact rfl
      ·
       have h143' : (decide (x135 = x139)) = true := by revert h143; cases (decide (x135 = x139)) <;> simp
       replace hm := ite_t hm (of_decide_eq_true h143')
       refine c_skip ?_
       refine d_normal_block ?_
       refine d_then ?_
       refine c_region ?_
       refine g_v rfl r_move ?_
       refine g_v rfl (r_add rfl rfl rfl) ?_
       refine g_v rfl r_assign ?_
       refine g_nil ?_
       obtain ⟨n144, hn144, hlp⟩ := nx_inl hm hnx2
       exact d_round (n144, w64 (i89 + 1)) hlp hn144 ⟨rfl, rfl, rfl, trivial⟩ (fun W h => h.phi (fun W hφ => hφ))
     ·
      replace hm := ite_f hm (of_decide_eq_false h118)
      refine c_exit ?_
      refine d_exit_then ?_
      refine d_exit_then ?_
      refine d_exit_block ?_
      replace hm := nx_out (C := (fun e => Sum.elim (fun e => m_ref11_SameLog_j1) (fun x => some x) e = some r)) hm hnx2 hr2
      exact d_round () hm Nat.zero_lt_one trivial (fun W h => ((h.dropH (t := 100030) rfl).dropH (t := 100020) rfl).phi (fun W hφ => hφ))
    ·
     unfold m_ref11_SameLog_j1 at hm
     refine d_flat [] trivial (fun u => ?_)
     refine d_sta ⟨w0, M, H, R, φ⟩ (fun _ h => h) ?_
     refine d_then ?_
     refine c_seq ?_
     refine c_region ?_
     refine g_v rfl r_assign ?_
     refine g_nil ?_
     refine d_then ?_
     refine c_ret ?_
     replace hm := Option.some.inj hm
     subst hm
     refine d_retC () Try.results27 ?_ trivial (fun W h => ok_pre (H1 := []) (R1 := []) h (fun W hφ => hφ)) (.inr rfl)
     refine res_tmp ?_
     refine res_nil ?_
     exact rfl
  ·
   replace hm := ite_t hm (of_decide_eq_true h4)
   refine g_no rfl rfl rfl rfl rfl h4 ?_
   refine g_no rfl rfl rfl rfl rfl h4 ?_
   refine g_no rfl rfl rfl rfl rfl h4 ?_
   refine g_no rfl rfl rfl rfl rfl h4 ?_
   refine g_no rfl rfl rfl rfl rfl h4 ?_
   refine g_no rfl rfl rfl rfl rfl h4 ?_
   refine g_v rfl (r_pick1 rfl h4) ?_
   refine g_nil ?_
   refine d_then ?_
   refine c_flat [(2, .pointer (some ⟨g1, 0, none⟩)), (3, .pointer (some ⟨g2, 0, none⟩)), (26, .bool true)] ⟨rfl, rfl, rfl, trivial⟩ (fun u => ?_)
   refine c_sta ⟨w0, M, (100030, g2, .cells #[.int .i64 p1.fBase, .int .i64 p1.fBaseTerm, .slice Ap1_0 p1.fEntries.length cp1_0] 28 (0, 0)) :: (100020, g1, .cells #[.int .i64 p0.fBase, .int .i64 p0.fBaseTerm, .slice Ap0_0 p0.fEntries.length cp0_0] 28 (0, 0)) :: H, R, φ⟩ (fun _ h => h) ?_
   refine c_cond1 rfl rfl ?_
   refine c_seq ?_
   refine c_region ?_
   refine g_v rfl r_assign ?_
   refine g_nil ?_
   refine d_then ?_
   refine c_ret ?_
   refine d_ret_then ?_
   replace hm := Option.some.inj hm
   subst hm
   refine d_retC () Try.results27 ?_ trivial (fun W h => ok_pre (H1 := [_, _]) (R1 := []) h (fun W hφ => hφ)) (.inr rfl)
   refine res_tmp ?_
   refine res_nil ?_
   exact rfl
 ·
  replace hm := ite_t hm (of_decide_eq_true h3)
  refine g_no rfl rfl rfl rfl rfl h3 ?_
  refine g_no rfl rfl rfl rfl rfl h3 ?_
  refine g_no rfl rfl rfl rfl rfl h3 ?_
  refine g_no rfl rfl rfl rfl rfl h3 ?_
  refine g_v rfl (r_pick1 rfl h3) ?_
  refine g_v rfl r_move ?_
  refine g_no rfl rfl rfl rfl rfl rfl ?_
  refine g_no rfl rfl rfl rfl rfl rfl ?_
  refine g_no rfl rfl rfl rfl rfl rfl ?_
  refine g_no rfl rfl rfl rfl rfl rfl ?_
  refine g_no rfl rfl rfl rfl rfl rfl ?_
  refine g_no rfl rfl rfl rfl rfl rfl ?_
  refine g_no rfl rfl rfl rfl rfl rfl ?_
  refine g_v rfl (r_pick1 rfl rfl) ?_
  refine g_nil ?_
  refine d_then ?_
  refine c_flat [(2, .pointer (some ⟨g1, 0, none⟩)), (3, .pointer (some ⟨g2, 0, none⟩)), (26, .bool true)] ⟨rfl, rfl, rfl, trivial⟩ (fun u => ?_)
  refine c_sta ⟨w0, M, (100030, g2, .cells #[.int .i64 p1.fBase, .int .i64 p1.fBaseTerm, .slice Ap1_0 p1.fEntries.length cp1_0] 28 (0, 0)) :: (100020, g1, .cells #[.int .i64 p0.fBase, .int .i64 p0.fBaseTerm, .slice Ap0_0 p0.fEntries.length cp0_0] 28 (0, 0)) :: H, R, φ⟩ (fun _ h => h) ?_
  refine c_cond1 rfl rfl ?_
  refine c_seq ?_
  refine c_region ?_
  refine g_v rfl r_assign ?_
  refine g_nil ?_
  refine d_then ?_
  refine c_ret ?_
  refine d_ret_then ?_
  replace hm := Option.some.inj hm
  subst hm
  refine d_retC () Try.results27 ?_ trivial (fun W h => ok_pre (H1 := [_, _]) (R1 := []) h (fun W hφ => hφ)) (.inr rfl)
  refine res_tmp ?_
  refine res_nil ?_
  exact rfl

noncomputable def m_ref11_SameInts_j1  : Option Bool :=
  some true
noncomputable def m_ref11_SameInts_s2 (p0 : List Int) (p1 : List Int) (i85 : Int) : Option (Int ⊕ (Unit ⊕ Bool)) :=
  if i85 < (p0.length : Int) then
    (at_ p0 i85).bind fun x131 =>
    (at_ p1 i85).bind fun x135 =>
    if x131 ≠ x135 then
      some (.inr (.inr false))
    else
      some (.inl (w64 (i85 + 1)))
  else
    some (.inr (.inl ()))
noncomputable def m_ref11_SameInts (p0 : List Int) (p1 : List Int) : Option Bool :=
  if (p0.length : Int) ≠ (p1.length : Int) then
    some false
  else
    (loop (fun s => m_ref11_SameInts_s2 p0 p1 s) 0).bind fun e => Sum.elim (fun e => m_ref11_SameInts_j1) (fun x => some x) e
theorem c_ref11_SameInts {w0 : World} {M : Nat → Prop} {H : List (Nat × Nat × Obj)} {R : List (Nat × Row)} {φ : World → Prop} (p0 : List Int) (Ap0_0 : Option Addr) (cp0_0 : Nat) (hcp0_0 : p0.length ≤ cp0_0) (fp0_0 : ∀ W, (Sta.mk w0 M H R φ).ok W → Cl W Ap0_0 (p0.flatMap (fun x : Int => [Value.int .i64 x]))) (p1 : List Int) (Ap1_0 : Option Addr) (cp1_0 : Nat) (hcp1_0 : p1.length ≤ cp1_0) (fp1_0 : ∀ W, (Sta.mk w0 M H R φ).ok W → Cl W Ap1_0 (p1.flatMap (fun x : Int => [Value.int .i64 x]))) (r : Bool) (hm : m_ref11_SameInts p0 p1 = some r) :
    Cn Try.prog 28 #[.slice Ap0_0 p0.length cp0_0, .slice Ap1_0 p1.length cp1_0] ⟨w0, M, H, R, φ⟩ (fun x : Unit => .bool r) (fun x => True) (fun x => ⟨w0, M, H, R, φ⟩) := by
 unfold m_ref11_SameInts at hm
 refine cn_intro (fn := Try.f28) (N := 26) Try.func28 rfl Try.ntmps28 rfl ?_
 refine c_seq ?_
 refine c_region ?_
 refine g_v rfl r_assign ?_
 refine g_nil ?_
 refine d_then ?_
 refine c_seq ?_
 refine c_seq ?_
 refine c_region ?_
 refine g_v rfl r_move ?_
 refine g_v rfl (r_lenL Try.underlying25 rfl) ?_
 refine g_v rfl r_move ?_
 refine g_v rfl (r_lenL Try.underlying25 rfl) ?_
 refine g_v rfl (r_neq rfl rfl) ?_
 refine g_nil ?_
 refine d_then ?_
 refine c_cond rfl (fun h1 => ?_) (fun h1 => ?_)
 ·
  replace hm := ite_t hm (of_decide_eq_true h1)
  refine c_seq ?_
  refine c_region ?_
  refine g_v rfl r_assign ?_
  refine g_nil ?_
  refine d_then ?_
  refine c_ret ?_
  refine d_ret_then ?_
  replace hm := Option.some.inj hm
  subst hm
  refine d_retC () Try.results28 ?_ trivial (fun W h => ok_pre (H1 := []) (R1 := []) h (fun W hφ => hφ)) (.inr rfl)
  refine res_tmp ?_
  refine res_nil ?_
  exact rfl
 ·
  replace hm := ite_f hm (of_decide_eq_false h1)
  refine c_skip ?_
  refine d_then ?_
  refine c_seq ?_
  refine c_seq ?_
  refine c_region ?_
  refine g_v rfl r_assign ?_
  refine g_nil ?_
  refine d_then ?_
  refine c_cut (ι := Unit) [] (fun _ => []) (fun _ => ⟨w0, M, H, R, φ⟩) (fun _ => m_ref11_SameInts_j1 = some r) ?_ (fun _ u hm => ?_)
  ·
   refine c_block ?_
   replace hm := bnd hm
   obtain ⟨out2, hl2, hr2⟩ := hm
   obtain ⟨n113', hl2⟩ := loop_lp hl2
   refine c_loopU (ι := Nat × Int) [0, 1, 5] (fun ⟨n113, i85⟩ => [(5, .int .i64 i85)]) (fun ⟨n113, i85⟩ => ⟨w0, M, H, R, φ⟩) (fun ⟨n113, i85⟩ => Lp (fun s => m_ref11_SameInts_s2 p0 p1 s) n113 i85 out2) (fun ⟨n113, i85⟩ => n113) (n113', 0) hl2 ⟨rfl, rfl, rfl, trivial⟩ (fun W h => h.phi (fun W hφ => hφ)) (fun ⟨n113, i85⟩ u hlp => ?_)
   obtain ⟨o2, hm, hnx2⟩ := lp_step hlp
   clear hlp
   replace hm : m_ref11_SameInts_s2 p0 p1 i85 = some o2 := hm
   unfold m_ref11_SameInts_s2 at hm
   refine c_flat [(0, .slice Ap0_0 p0.length cp0_0), (1, .slice Ap1_0 p1.length cp1_0), (5, .int .i64 i85)] ⟨rfl, rfl, rfl, trivial⟩ (fun u => ?_)
   refine c_sta ⟨w0, M, H, R, φ⟩ (fun _ h => h) ?_
   refine c_seq ?_
   refine c_seq ?_
   refine c_region ?_
   refine g_v rfl r_move ?_
   refine g_v rfl r_move ?_
   refine g_v rfl (r_lenL Try.underlying25 rfl) ?_
   refine g_v rfl (r_lss rfl rfl) ?_
   refine g_nil ?_
   refine d_then ?_
   refine c_cond rfl (fun h114 => ?_) (fun h114 => ?_)
   ·
    replace hm := ite_t hm (of_decide_eq_true h114)
    refine c_skip ?_
    refine d_then ?_
    refine c_seq ?_
    refine c_block ?_
    refine c_seq ?_
    refine ga_start (n := 9) ⟨w0, M, H, R, φ⟩ [] #[false, false, false, false, false, false, false, false, false] (fun W h => h.phi (fun W hφ => hφ)) mixed rfl rfl ?_
    refine ga_v (i := 0) #[true, false, false, false, false, false, false, false, false] rfl (by kernel_rfl) (fun _ _ _ _ h => h) rfl (r_move) ?_
    refine ga_v (i := 1) #[true, true, false, false, false, false, false, false, false] rfl (by kernel_rfl) (fun _ _ _ _ h => h) rfl (r_move) ?_
    replace hm := bnd hm
    obtain ⟨x131, hx131, hm⟩ := hm
    refine ga_know _ (fun W hS => cl_at (p := (Sta.mk w0 M H R φ).ok) (sz := 1) (fun _ => rfl) (by decide) (ok_pre (H1 := []) (R1 := []) hS (fun W h => h)) fp0_0 hx131) ?_
    rintro ⟨ad132, hA134, f133⟩
    refine ga_v (i := 2) #[true, true, true, false, false, false, false, false, false] rfl (by kernel_rfl) (fun _ _ _ _ h => h) rfl (r_ix Try.underlying25 Try.sizeOf3 rfl hA134 rfl hx131) ?_
    refine ga_v (i := 3) #[true, true, true, true, false, false, false, false, false] rfl (by kernel_rfl) (fun _ _ _ _ h => h) rfl (r_ld rfl Try.isAgg3 (fun W hS => Cl.head (f133 W (ok_pre (H1 := []) (R1 := []) hS (fun W h => h))))) ?_
    refine ga_v (i := 4) #[true, true, true, true, true, false, false, false, false] rfl (by kernel_rfl) (fun _ _ _ _ h => h) rfl (r_move) ?_
    refine ga_r (i := 5) #[true, true, true, true, true, true, false, false, false] rfl (by kernel_rfl) (by decide) rfl (r_move) ?_
    replace hm := bnd hm
    obtain ⟨x135, hx135, hm⟩ := hm
    refine ga_know _ (fun W hS => cl_at (p := (Sta.mk w0 M H R φ).ok) (sz := 1) (fun _ => rfl) (by decide) (ok_pre (H1 := []) (R1 := []) hS (fun W h => h)) fp1_0 hx135) ?_
    rintro ⟨ad136, hA138, f137⟩
    refine ga_r (i := 6) #[true, true, true, true, true, true, true, false, false] rfl (by kernel_rfl) (by decide) rfl (r_ix Try.underlying25 Try.sizeOf3 rfl hA138 rfl hx135) ?_
    refine ga_r (i := 7) #[true, true, true, true, true, true, true, true, false] rfl (by kernel_rfl) (by decide) rfl (r_ld rfl Try.isAgg3 (fun W hS => Cl.head (f137 W (ok_pre (H1 := []) (R1 := []) hS (fun W h => h))))) ?_
    refine ga_r (i := 8) #[true, true, true, true, true, true, true, true, true] rfl (by kernel_rfl) (by decide) rfl (r_neq rfl rfl) ?_
    refine ga_done (by kernel_rfl) ?_
    refine d_then ?_
    refine c_flat [(0, .slice Ap0_0 p0.length cp0_0), (1, .slice Ap1_0 p1.length cp1_0), (5, .int .i64 i85), (25, .bool (decide (x131 ≠ x135)))] ⟨rfl, rfl, rfl, rfl, trivial⟩ (fun u => ?_)
    refine c_sta ⟨w0, M, H, R, φ⟩ (fun _ h => h) ?_
    refine c_cond rfl (fun h139 => ?_) (fun h139 => ?_)
    ·
     replace hm := ite_t hm (of_decide_eq_true h139)
     refine c_seq ?_
     refine c_region ?_
     refine g_v rfl r_assign ?_
     refine g_nil ?_
     refine d_then ?_
     refine c_ret ?_
     refine d_ret_block ?_
     refine d_ret_then ?_
     refine d_ret_then ?_
     refine d_ret_block ?_
     refine d_ret_then ?_
     refine d_ret_then ?_
     replace hm := nx_out (C := (fun e => Sum.elim (fun e => m_ref11_SameInts_j1) (fun x => some x) e = some r)) hm hnx2 hr2
     replace hm : some false = some r := hm
     replace hm := Option.some.inj hm
     subst hm
     refine d_retC () Try.results28 ?_ trivial (fun W h => ok_pre (H1 := []) (R1 := []) h (fun W hφ => hφ)) (.inr rfl)
     refine res_tmp ?_
     refine res_nil ?_
     exact rfl
    ·
     replace hm := ite_f hm (of_decide_eq_false h139)
     refine c_skip ?_
     refine d_normal_block ?_
     refine d_then ?_
     refine c_region ?_
     refine g_v rfl r_move ?_
     refine g_v rfl (r_add rfl rfl rfl) ?_
     refine g_v rfl r_assign ?_
     refine g_nil ?_
     obtain ⟨n140, hn140, hlp⟩ := nx_inl hm hnx2
     exact d_round (n140, w64 (i85 + 1)) hlp hn140 ⟨rfl, rfl, rfl, trivial⟩ (fun W h => h.phi (fun W hφ => hφ))
   ·
    replace hm := ite_f hm (of_decide_eq_false h114)
    refine c_exit ?_
    refine d_exit_then ?_
    refine d_exit_then ?_
    refine d_exit_block ?_
    replace hm := nx_out (C := (fun e => Sum.elim (fun e => m_ref11_SameInts_j1) (fun x => some x) e = some r)) hm hnx2 hr2
    exact d_round () hm Nat.zero_lt_one trivial (fun W h => h.phi (fun W hφ => hφ))
  ·
   unfold m_ref11_SameInts_j1 at hm
   refine d_flat [] trivial (fun u => ?_)
   refine d_sta ⟨w0, M, H, R, φ⟩ (fun _ h => h) ?_
   refine d_then ?_
   refine c_seq ?_
   refine c_region ?_
   refine g_v rfl r_assign ?_
   refine g_nil ?_
   refine d_then ?_
   refine c_ret ?_
   replace hm := Option.some.inj hm
   subst hm
   refine d_retC () Try.results28 ?_ trivial (fun W h => ok_pre (H1 := []) (R1 := []) h (fun W hφ => hφ)) (.inr rfl)
   refine res_tmp ?_
   refine res_nil ?_
   exact rfl

noncomputable def m_ref11_Same (p0 : GHard) (p1 : GHard) : Option Bool :=
  (m_ref11_SameLog p0.fLog p1.fLog).bind fun x3 =>
  (m_ref11_SameInts p0.fVoters p1.fVoters).bind fun x5 =>
  if x3 = true then
    if x5 = true then
      if p0.fTerm = p1.fTerm then
        if p0.fVote = p1.fVote then
          some (decide (p0.fSnap = p1.fSnap))
        else
          some false
      else
        some false
    else
      some false
  else
    some false
theorem c_ref11_Same {w0 : World} {M : Nat → Prop} {H : List (Nat × Nat × Obj)} {R : List (Nat × Row)} {φ : World → Prop} (p0 : GHard) (Ap0_0 : Option Addr) (cp0_0 : Nat) (hcp0_0 : p0.fVoters.length ≤ cp0_0) (fp0_0 : ∀ W, (Sta.mk w0 M H R φ).ok W → Cl W Ap0_0 (p0.fVoters.flatMap (fun x : Int => [Value.int .i64 x]))) (Ap0_1 : Option Addr) (cp0_1 : Nat) (hcp0_1 : p0.fLog.fEntries.length ≤ cp0_1) (fp0_1 : ∀ W, (Sta.mk w0 M H R φ).ok W → Cl W Ap0_1 (p0.fLog.fEntries.flatMap GEntry.enc)) (p1 : GHard) (Ap1_0 : Option Addr) (cp1_0 : Nat) (hcp1_0 : p1.fVoters.length ≤ cp1_0) (fp1_0 : ∀ W, (Sta.mk w0 M H R φ).ok W → Cl W Ap1_0 (p1.fVoters.flatMap (fun x : Int => [Value.int .i64 x]))) (Ap1_1 : Option Addr) (cp1_1 : Nat) (hcp1_1 : p1.fLog.fEntries.length ≤ cp1_1) (fp1_1 : ∀ W, (Sta.mk w0 M H R φ).ok W → Cl W Ap1_1 (p1.fLog.fEntries.flatMap GEntry.enc)) (r : Bool) (hm : m_ref11_Same p0 p1 = some r) :
    Cn Try.prog 9 #[.agg #[.int .i64 p0.fTerm, .int .i64 p0.fVote, .slice Ap0_0 p0.fVoters.length cp0_0, .string p0.fSnap, .int .i64 p0.fLog.fBase, .int .i64 p0.fLog.fBaseTerm, .slice Ap0_1 p0.fLog.fEntries.length cp0_1], .agg #[.int .i64 p1.fTerm, .int .i64 p1.fVote, .slice Ap1_0 p1.fVoters.length cp1_0, .string p1.fSnap, .int .i64 p1.fLog.fBase, .int .i64 p1.fLog.fBaseTerm, .slice Ap1_1 p1.fLog.fEntries.length cp1_1]] ⟨w0, M, H, R, φ⟩ (fun x : Unit => .bool r) (fun x => True) (fun x => ⟨w0, M, H, R, φ⟩) := by
 unfold m_ref11_Same at hm
 refine cn_intro (fn := Try.f9) (N := 42) Try.func9 rfl Try.ntmps9 rfl ?_
 refine c_seq ?_
 refine c_region ?_
 refine g_e rfl (e_box 100020 rfl) (fun g1 _ => ?_)
 refine g_e rfl (e_box 100030 rfl) (fun g2 _ => ?_)
 refine g_v rfl r_assign ?_
 refine g_nil ?_
 refine d_then ?_
 refine c_seq ?_
 refine c_region ?_
 refine g_v rfl (r_field (n := 4) Try.underlying30 rfl Try.sizeOf28 rfl rfl) ?_
 refine g_v rfl (r_loadA (tag := 100020) rfl rfl Try.isAgg28 Try.sizeOf28 rfl rfl) ?_
 refine g_v rfl (r_field (n := 4) Try.underlying30 rfl Try.sizeOf28 rfl rfl) ?_
 refine g_v rfl (r_loadA (tag := 100030) rfl rfl Try.isAgg28 Try.sizeOf28 rfl rfl) ?_
 replace hm := bnd hm
 obtain ⟨x3, hx4, hm⟩ := hm
 refine g_cn ⟨w0, M, _, _, φ⟩ (fun _ h => h) Try.call27 rfl rfl (c_ref11_SameLog p0.fLog Ap0_1 cp0_1 hcp0_1 (fun W hS => fp0_1 W (ok_pre (H1 := [_, _]) (R1 := []) hS (fun W h => h))) p1.fLog Ap1_1 cp1_1 hcp1_1 (fun W hS => fp1_1 W (ok_pre (H1 := [_, _]) (R1 := []) hS (fun W h => h))) _ hx4) (fun _ _ => ?_)
 refine g_v rfl r_assign ?_
 refine g_nil ?_
 refine d_then ?_
 refine c_flat [(2, .pointer (some ⟨g1, 0, none⟩)), (3, .pointer (some ⟨g2, 0, none⟩)), (5, .bool x3)] ⟨rfl, rfl, rfl, trivial⟩ (fun u => ?_)
 refine c_sta ⟨w0, M, (100030, g2, .cells #[.int .i64 p1.fTerm, .int .i64 p1.fVote, .slice Ap1_0 p1.fVoters.length cp1_0, .string p1.fSnap, .int .i64 p1.fLog.fBase, .int .i64 p1.fLog.fBaseTerm, .slice Ap1_1 p1.fLog.fEntries.length cp1_1] 30 (0, 0)) :: (100020, g1, .cells #[.int .i64 p0.fTerm, .int .i64 p0.fVote, .slice Ap0_0 p0.fVoters.length cp0_0, .string p0.fSnap, .int .i64 p0.fLog.fBase, .int .i64 p0.fLog.fBaseTerm, .slice Ap0_1 p0.fLog.fEntries.length cp0_1] 30 (0, 0)) :: H, R, φ⟩ (fun _ h => h) ?_
 refine c_seq ?_
 refine c_region ?_
 refine g_v rfl (r_field (n := 2) Try.underlying30 rfl Try.sizeOf25 rfl rfl) ?_
 refine g_v rfl (r_load (tag := 100020) rfl rfl rfl Try.isAgg25) ?_
 refine g_v rfl (r_field (n := 2) Try.underlying30 rfl Try.sizeOf25 rfl rfl) ?_
 refine g_v rfl (r_load (tag := 100030) rfl rfl rfl Try.isAgg25) ?_
 replace hm := bnd hm
 obtain ⟨x5, hx6, hm⟩ := hm
 refine g_cn ⟨w0, M, _, _, φ⟩ (fun _ h => h) Try.call28 rfl rfl (c_ref11_SameInts p0.fVoters Ap0_0 cp0_0 hcp0_0 (fun W hS => fp0_0 W (ok_pre (H1 := [_, _]) (R1 := []) hS (fun W h => h))) p1.fVoters Ap1_0 cp1_0 hcp1_0 (fun W hS => fp1_0 W (ok_pre (H1 := [_, _]) (R1 := []) hS (fun W h => h))) _ hx6) (fun _ _ => ?_)
 refine g_v rfl r_assign ?_
 refine g_nil ?_
 refine d_then ?_
 refine c_seq ?_
 refine c_region ?_
 refine g_v rfl r_move ?_
 refine g_v rfl r_move ?_
 refine g_if rfl rfl rfl rfl rfl (fun h7 => ?_) (fun h7 => ?_)
 ·
  replace hm := ite_t hm h7
  refine g_v rfl r_move ?_
  refine g_v rfl (r_pick1 rfl h7) ?_
  refine g_v rfl r_move ?_
  refine g_if rfl rfl rfl rfl rfl (fun h8 => ?_) (fun h8 => ?_)
  ·
   replace hm := ite_t hm h8
   refine g_v rfl (r_field (n := 0) Try.underlying30 rfl Try.sizeOf3 rfl rfl) ?_
   refine g_do rfl rfl rfl rfl rfl h8 ?_
   refine g_v rfl (r_load (tag := 100020) rfl rfl rfl Try.isAgg3) ?_
   refine g_do rfl rfl rfl rfl rfl h8 ?_
   refine g_v rfl (r_field (n := 0) Try.underlying30 rfl Try.sizeOf3 rfl rfl) ?_
   refine g_do rfl rfl rfl rfl rfl h8 ?_
   refine g_v rfl (r_load (tag := 100030) rfl rfl rfl Try.isAgg3) ?_
   refine g_do rfl rfl rfl rfl rfl h8 ?_
   refine g_v rfl (r_eql rfl rfl) ?_
   refine g_v rfl (r_pick1 rfl h8) ?_
   refine g_v rfl r_move ?_
   refine g_if rfl rfl rfl rfl rfl (fun h9 => ?_) (fun h9 => ?_)
   ·
    replace hm := ite_t hm (of_decide_eq_true h9)
    refine g_v rfl (r_field (n := 1) Try.underlying30 rfl Try.sizeOf3 rfl rfl) ?_
    refine g_do rfl rfl rfl rfl rfl h9 ?_
    refine g_v rfl (r_load (tag := 100020) rfl rfl rfl Try.isAgg3) ?_
    refine g_do rfl rfl rfl rfl rfl h9 ?_
    refine g_v rfl (r_field (n := 1) Try.underlying30 rfl Try.sizeOf3 rfl rfl) ?_
    refine g_do rfl rfl rfl rfl rfl h9 ?_
    refine g_v rfl (r_load (tag := 100030) rfl rfl rfl Try.isAgg3) ?_
    refine g_do rfl rfl rfl rfl rfl h9 ?_
    refine g_v rfl (r_eql rfl rfl) ?_
    refine g_v rfl (r_pick1 rfl h9) ?_
    refine g_v rfl r_move ?_
    refine g_if rfl rfl rfl rfl rfl (fun h10 => ?_) (fun h10 => ?_)
    ·
     replace hm := ite_t hm (of_decide_eq_true h10)
     refine g_v rfl (r_field (n := 3) Try.underlying30 rfl Try.sizeOf9 rfl rfl) ?_
     refine g_do rfl rfl rfl rfl rfl h10 ?_
     refine g_v rfl (r_load (tag := 100020) rfl rfl rfl Try.isAgg9) ?_
     refine g_do rfl rfl rfl rfl rfl h10 ?_
     refine g_v rfl (r_field (n := 3) Try.underlying30 rfl Try.sizeOf9 rfl rfl) ?_
     refine g_do rfl rfl rfl rfl rfl h10 ?_
     refine g_v rfl (r_load (tag := 100030) rfl rfl rfl Try.isAgg9) ?_
     refine g_do rfl rfl rfl rfl rfl h10 ?_
     refine g_v rfl (r_eqlT rfl rfl) ?_
     refine g_v rfl (r_pick1 rfl h10) ?_
     refine g_v rfl r_assign ?_
     refine g_nil ?_
     refine d_then ?_
     refine c_flat [(4, .bool (decide (p0.fSnap = p1.fSnap)))] ⟨rfl, trivial⟩ (fun u => ?_)
     refine c_sta ⟨w0, M, (100030, g2, .cells #[.int .i64 p1.fTerm, .int .i64 p1.fVote, .slice Ap1_0 p1.fVoters.length cp1_0, .string p1.fSnap, .int .i64 p1.fLog.fBase, .int .i64 p1.fLog.fBaseTerm, .slice Ap1_1 p1.fLog.fEntries.length cp1_1] 30 (0, 0)) :: (100020, g1, .cells #[.int .i64 p0.fTerm, .int .i64 p0.fVote, .slice Ap0_0 p0.fVoters.length cp0_0, .string p0.fSnap, .int .i64 p0.fLog.fBase, .int .i64 p0.fLog.fBaseTerm, .slice Ap0_1 p0.fLog.fEntries.length cp0_1] 30 (0, 0)) :: H, R, φ⟩ (fun _ h => h) ?_
     refine c_ret ?_
     replace hm := Option.some.inj hm
     subst hm
     refine d_retC () Try.results9 ?_ trivial (fun W h => ok_pre (H1 := [_, _]) (R1 := []) h (fun W hφ => hφ)) (.inr rfl)
     refine res_tmp ?_
     refine res_nil ?_
     exact rfl
    ·
     replace hm := ite_f hm (of_decide_eq_false h10)
     refine g_no rfl rfl rfl rfl rfl h10 ?_
     refine g_no rfl rfl rfl rfl rfl h10 ?_
     refine g_no rfl rfl rfl rfl rfl h10 ?_
     refine g_no rfl rfl rfl rfl rfl h10 ?_
     refine g_v rfl (r_pick0 rfl h10) ?_
     refine g_v rfl r_assign ?_
     refine g_nil ?_
     refine d_then ?_
     refine c_flat [(4, .bool false)] ⟨rfl, trivial⟩ (fun u => ?_)
     refine c_sta ⟨w0, M, (100030, g2, .cells #[.int .i64 p1.fTerm, .int .i64 p1.fVote, .slice Ap1_0 p1.fVoters.length cp1_0, .string p1.fSnap, .int .i64 p1.fLog.fBase, .int .i64 p1.fLog.fBaseTerm, .slice Ap1_1 p1.fLog.fEntries.length cp1_1] 30 (0, 0)) :: (100020, g1, .cells #[.int .i64 p0.fTerm, .int .i64 p0.fVote, .slice Ap0_0 p0.fVoters.length cp0_0, .string p0.fSnap, .int .i64 p0.fLog.fBase, .int .i64 p0.fLog.fBaseTerm, .slice Ap0_1 p0.fLog.fEntries.length cp0_1] 30 (0, 0)) :: H, R, φ⟩ (fun _ h => h) ?_
     refine c_ret ?_
     replace hm := Option.some.inj hm
     subst hm
     refine d_retC () Try.results9 ?_ trivial (fun W h => ok_pre (H1 := [_, _]) (R1 := []) h (fun W hφ => hφ)) (.inr rfl)
     refine res_tmp ?_
     refine res_nil ?_
     exact rfl
   ·
    replace hm := ite_f hm (of_decide_eq_false h9)
    refine g_no rfl rfl rfl rfl rfl h9 ?_
    refine g_no rfl rfl rfl rfl rfl h9 ?_
    refine g_no rfl rfl rfl rfl rfl h9 ?_
    refine g_no rfl rfl rfl rfl rfl h9 ?_
    refine g_v rfl (r_pick0 rfl h9) ?_
    refine g_v rfl r_move ?_
    refine g_no rfl rfl rfl rfl rfl rfl ?_
    refine g_no rfl rfl rfl rfl rfl rfl ?_
    refine g_no rfl rfl rfl rfl rfl rfl ?_
    refine g_no rfl rfl rfl rfl rfl rfl ?_
    refine g_no rfl rfl rfl rfl rfl rfl ?_
    refine g_v rfl (r_pick0 rfl rfl) ?_
    refine g_v rfl r_assign ?_
    refine g_nil ?_
    refine d_then ?_
    refine c_flat [(4, .bool false)] ⟨rfl, trivial⟩ (fun u => ?_)
    refine c_sta ⟨w0, M, (100030, g2, .cells #[.int .i64 p1.fTerm, .int .i64 p1.fVote, .slice Ap1_0 p1.fVoters.length cp1_0, .string p1.fSnap, .int .i64 p1.fLog.fBase, .int .i64 p1.fLog.fBaseTerm, .slice Ap1_1 p1.fLog.fEntries.length cp1_1] 30 (0, 0)) :: (100020, g1, .cells #[.int .i64 p0.fTerm, .int .i64 p0.fVote, .slice Ap0_0 p0.fVoters.length cp0_0, .string p0.fSnap, .int .i64 p0.fLog.fBase, .int .i64 p0.fLog.fBaseTerm, .slice Ap0_1 p0.fLog.fEntries.length cp0_1] 30 (0, 0)) :: H, R, φ⟩ (fun _ h => h) ?_
    refine c_ret ?_
    replace hm := Option.some.inj hm
    subst hm
    refine d_retC () Try.results9 ?_ trivial (fun W h => ok_pre (H1 := [_, _]) (R1 := []) h (fun W hφ => hφ)) (.inr rfl)
    refine res_tmp ?_
    refine res_nil ?_
    exact rfl
  ·
   replace hm := ite_f hm (bool_nt h8)
   refine g_no rfl rfl rfl rfl rfl h8 ?_
   refine g_no rfl rfl rfl rfl rfl h8 ?_
   refine g_no rfl rfl rfl rfl rfl h8 ?_
   refine g_no rfl rfl rfl rfl rfl h8 ?_
   refine g_v rfl (r_pick0 rfl h8) ?_
   refine g_v rfl r_move ?_
   refine g_no rfl rfl rfl rfl rfl rfl ?_
   refine g_no rfl rfl rfl rfl rfl rfl ?_
   refine g_no rfl rfl rfl rfl rfl rfl ?_
   refine g_no rfl rfl rfl rfl rfl rfl ?_
   refine g_no rfl rfl rfl rfl rfl rfl ?_
   refine g_v rfl (r_pick0 rfl rfl) ?_
   refine g_v rfl r_move ?_
   refine g_no rfl rfl rfl rfl rfl rfl ?_
   refine g_no rfl rfl rfl rfl rfl rfl ?_
   refine g_no rfl rfl rfl rfl rfl rfl ?_
   refine g_no rfl rfl rfl rfl rfl rfl ?_
   refine g_no rfl rfl rfl rfl rfl rfl ?_
   refine g_v rfl (r_pick0 rfl rfl) ?_
   refine g_v rfl r_assign ?_
   refine g_nil ?_
   refine d_then ?_
   refine c_flat [(4, .bool false)] ⟨rfl, trivial⟩ (fun u => ?_)
   refine c_sta ⟨w0, M, (100030, g2, .cells #[.int .i64 p1.fTerm, .int .i64 p1.fVote, .slice Ap1_0 p1.fVoters.length cp1_0, .string p1.fSnap, .int .i64 p1.fLog.fBase, .int .i64 p1.fLog.fBaseTerm, .slice Ap1_1 p1.fLog.fEntries.length cp1_1] 30 (0, 0)) :: (100020, g1, .cells #[.int .i64 p0.fTerm, .int .i64 p0.fVote, .slice Ap0_0 p0.fVoters.length cp0_0, .string p0.fSnap, .int .i64 p0.fLog.fBase, .int .i64 p0.fLog.fBaseTerm, .slice Ap0_1 p0.fLog.fEntries.length cp0_1] 30 (0, 0)) :: H, R, φ⟩ (fun _ h => h) ?_
   refine c_ret ?_
   replace hm := Option.some.inj hm
   subst hm
   refine d_retC () Try.results9 ?_ trivial (fun W h => ok_pre (H1 := [_, _]) (R1 := []) h (fun W hφ => hφ)) (.inr rfl)
   refine res_tmp ?_
   refine res_nil ?_
   exact rfl
 ·
  replace hm := ite_f hm (bool_nt h7)
  refine g_v rfl (r_pick0 rfl h7) ?_
  refine g_v rfl r_move ?_
  refine g_no rfl rfl rfl rfl rfl rfl ?_
  refine g_no rfl rfl rfl rfl rfl rfl ?_
  refine g_no rfl rfl rfl rfl rfl rfl ?_
  refine g_no rfl rfl rfl rfl rfl rfl ?_
  refine g_no rfl rfl rfl rfl rfl rfl ?_
  refine g_v rfl (r_pick0 rfl rfl) ?_
  refine g_v rfl r_move ?_
  refine g_no rfl rfl rfl rfl rfl rfl ?_
  refine g_no rfl rfl rfl rfl rfl rfl ?_
  refine g_no rfl rfl rfl rfl rfl rfl ?_
  refine g_no rfl rfl rfl rfl rfl rfl ?_
  refine g_no rfl rfl rfl rfl rfl rfl ?_
  refine g_v rfl (r_pick0 rfl rfl) ?_
  refine g_v rfl r_move ?_
  refine g_no rfl rfl rfl rfl rfl rfl ?_
  refine g_no rfl rfl rfl rfl rfl rfl ?_
  refine g_no rfl rfl rfl rfl rfl rfl ?_
  refine g_no rfl rfl rfl rfl rfl rfl ?_
  refine g_no rfl rfl rfl rfl rfl rfl ?_
  refine g_v rfl (r_pick0 rfl rfl) ?_
  refine g_v rfl r_assign ?_
  refine g_nil ?_
  refine d_then ?_
  refine c_flat [(4, .bool false)] ⟨rfl, trivial⟩ (fun u => ?_)
  refine c_sta ⟨w0, M, (100030, g2, .cells #[.int .i64 p1.fTerm, .int .i64 p1.fVote, .slice Ap1_0 p1.fVoters.length cp1_0, .string p1.fSnap, .int .i64 p1.fLog.fBase, .int .i64 p1.fLog.fBaseTerm, .slice Ap1_1 p1.fLog.fEntries.length cp1_1] 30 (0, 0)) :: (100020, g1, .cells #[.int .i64 p0.fTerm, .int .i64 p0.fVote, .slice Ap0_0 p0.fVoters.length cp0_0, .string p0.fSnap, .int .i64 p0.fLog.fBase, .int .i64 p0.fLog.fBaseTerm, .slice Ap0_1 p0.fLog.fEntries.length cp0_1] 30 (0, 0)) :: H, R, φ⟩ (fun _ h => h) ?_
  refine c_ret ?_
  replace hm := Option.some.inj hm
  subst hm
  refine d_retC () Try.results9 ?_ trivial (fun W h => ok_pre (H1 := [_, _]) (R1 := []) h (fun W hφ => hφ)) (.inr rfl)
  refine res_tmp ?_
  refine res_nil ?_
  exact rfl

noncomputable def m_law11_PlogBack_j1 (x1 : Bool) : Option Bool :=
  some x1
noncomputable def m_law11_PlogBack_j5 (l519 : List ByteArray) (x494 : GHard) (i386 : Int) : Option (((List ByteArray) × Int × Int × Int × (List Int) × ByteArray × Int × Int × (List GEntry)) ⊕ (Unit ⊕ Bool)) :=
  (m_plog_Load l519).bind fun (z547 : GHard × Int) =>
  (m_ref11_Same z547.1 x494).bind fun x549 =>
  if z547.2 ≠ 0 then
    some (.inr (.inr false))
  else
    if x549 = true then
      some (.inl (l519, w64 (i386 + 1), x494.fTerm, x494.fVote, x494.fVoters, x494.fSnap, x494.fLog.fBase, x494.fLog.fBaseTerm, x494.fLog.fEntries))
    else
      some (.inr (.inr false))
noncomputable def m_law11_PlogBack_j4 (l519 : List ByteArray) (x494 : GHard) (i386 : Int) (x1 : Bool) : Option (((List ByteArray) × Int × Int × Int × (List Int) × ByteArray × Int × Int × (List GEntry)) ⊕ (Unit ⊕ Bool)) :=
  if 0 < (l519.length : Int) then
    (at_ l519 0).bind fun x555 =>
    if x555 = (⟨#[]⟩ : ByteArray) then
      m_law11_PlogBack_j5 l519 x494 i386
    else
      (at_ l519 0).bind fun x560 =>
      (sat_ x560 0).bind fun b564 =>
      if b564 ≠ 87 then
        some (.inr (.inr x1))
      else
        m_law11_PlogBack_j5 l519 x494 i386
  else
    m_law11_PlogBack_j5 l519 x494 i386
noncomputable def m_law11_PlogBack_j3 (x508 : List ByteArray) (i386 : Int) (i387 : Int) (i388 : Int) (l389 : List Int) (s393 : ByteArray) (i394 : Int) (i395 : Int) (l396 : List GEntry) (x494 : GHard) (x1 : Bool) (l516 : List ByteArray) : Option (((List ByteArray) × Int × Int × Int × (List Int) × ByteArray × Int × Int × (List GEntry)) ⊕ (Unit ⊕ Bool)) :=
  (app 16 l516 x508).bind fun l519 =>
  if (l519.length : Int) = 0 then
    if i386 = 0 then
      some (.inl (l519, w64 (i386 + 1), i387, i388, l389, s393, i394, i395, l396))
    else
      m_law11_PlogBack_j4 l519 x494 i386 x1
  else
    m_law11_PlogBack_j4 l519 x494 i386 x1
noncomputable def m_law11_PlogBack_s2 (p0 : List GHardD) (x1 : Bool) (l383 : List ByteArray) (i386 : Int) (i387 : Int) (i388 : Int) (l389 : List Int) (s393 : ByteArray) (i394 : Int) (i395 : Int) (l396 : List GEntry) : Option (((List ByteArray) × Int × Int × Int × (List Int) × ByteArray × Int × Int × (List GEntry)) ⊕ (Unit ⊕ Bool)) :=
  if i386 < (p0.length : Int) then
    if i386 < 12 then
      (at_ p0 i386).bind fun x487 =>
      (m_law11_tame x487.val).bind fun x494 =>
      (m_law11_may x494).bind fun x504 =>
      if x504 = true then
        (m_plog_Save (⟨i387, i388, l389, s393, (⟨i394, i395, l396⟩ : GLog)⟩ : GHard) x494).bind fun (z514 : (List ByteArray) × Bool) =>
        if z514.2 = true then
          m_law11_PlogBack_j3 z514.1 i386 i387 i388 l389 s393 i394 i395 l396 x494 x1 ([] : List ByteArray)
        else
          m_law11_PlogBack_j3 z514.1 i386 i387 i388 l389 s393 i394 i395 l396 x494 x1 l383
      else
        some (.inl (l383, w64 (i386 + 1), i387, i388, l389, s393, i394, i395, l396))
    else
      some (.inr (.inl ()))
  else
    some (.inr (.inl ()))
noncomputable def m_law11_PlogBack (p0 : List GHardD) : Option Bool :=
  (m_law11_awake).bind fun x1 =>
  (loop (fun s => m_law11_PlogBack_s2 p0 x1 s.1 s.2.1 s.2.2.1 s.2.2.2.1 s.2.2.2.2.1 s.2.2.2.2.2.1 s.2.2.2.2.2.2.1 s.2.2.2.2.2.2.2.1 s.2.2.2.2.2.2.2.2) (([] : List ByteArray), 0, 0, 0, ([] : List Int), (⟨#[]⟩ : ByteArray), 0, 0, ([] : List GEntry))).bind fun e => Sum.elim (fun e => m_law11_PlogBack_j1 x1) (fun x => some x) e
theorem c_law11_PlogBack {w0 : World} {M : Nat → Prop} {H : List (Nat × Nat × Obj)} {R : List (Nat × Row)} {φ : World → Prop} (p0 : List GHardD) (Ap0_0 : Option Addr) (cp0_0 : Nat) (hcp0_0 : p0.length ≤ cp0_0) (fp0_0 : ∀ W, φ W → Cl W Ap0_0 (p0.flatMap GHardD.enc)) (hdfp0_0 : ∀ z ∈ p0, z.caps) (fdfp0_0 : ∀ W, φ W → ∀ z ∈ p0, z.own W) (r : Bool) (hm : m_law11_PlogBack p0 = some r) :
    Cn Try.prog 3 #[.slice Ap0_0 p0.length cp0_0] ⟨w0, M, H, R, φ⟩ (fun x : Unit => .bool r) (fun x => True) (fun x => ⟨w0, M, H, R, φ⟩) := by
 unfold m_law11_PlogBack at hm
 refine cn_intro (fn := Try.f3) (N := 84) Try.func3 rfl Try.ntmps3 rfl ?_
 refine c_seq ?_
 refine c_region ?_
 refine g_v rfl r_assign ?_
 refine g_nil ?_
 refine d_then ?_
 refine c_seq ?_
 refine c_region ?_
 replace hm := bnd hm
 obtain ⟨x1, hx2, hm⟩ := hm
 refine g_cn ⟨w0, M, _, _, φ⟩ (fun _ h => h) Try.call4 rfl rfl (c_law11_awake  _ hx2) (fun _ _ => ?_)
 refine g_v rfl r_assign ?_
 refine g_nil ?_
 refine d_then ?_
 refine c_seq ?_
 refine c_region ?_
 refine g_v rfl r_assign ?_
 refine g_nil ?_
 refine d_then ?_
 refine c_seq ?_
 refine c_region ?_
 refine g_e rfl (e_alloc 100050 Try.zeroValue30) (fun g3 _ => ?_)
 refine g_nil ?_
 refine d_then ?_
 refine c_seq ?_
 refine c_cut (ι := Unit) [3] (fun _ => []) (fun _ => ⟨w0, M, H, R, φ⟩) (fun _ => m_law11_PlogBack_j1 x1 = some r) ?_ (fun _ u hm => ?_)
 ·
  refine c_seq ?_
  refine c_region ?_
  refine g_v rfl r_assign ?_
  refine g_nil ?_
  refine d_then ?_
  refine c_block ?_
  refine c_sta _ (fun W h => nilR h 4 9 1) ?_
  replace hm := bnd hm
  obtain ⟨out2, hl2, hr2⟩ := hm
  obtain ⟨n483', hl2⟩ := loop_lp hl2
  refine c_loopU (ι := Nat × (List ByteArray) × Int × Int × Int × (List Int) × ByteArray × Int × Int × (List GEntry) × Option Addr × Nat × Option Addr × Nat × Option Addr × Nat) [0, 3, 4, 5, 6] (fun ⟨n483, l383, i386, i387, i388, l389, s393, i394, i395, l396, A384, c385, A390, c391, A397, c398⟩ => [(4, .slice A384 l383.length c385), (6, .int .i64 i386)]) (fun ⟨n483, l383, i386, i387, i388, l389, s393, i394, i395, l396, A384, c385, A390, c391, A397, c398⟩ => ⟨w0, M, (100050, g3, .cells #[.int .i64 i387, .int .i64 i388, .slice A390 l389.length c391, .string s393, .int .i64 i394, .int .i64 i395, .slice A397 l396.length c398] 30 (0, 0)) :: H, (4, ⟨.slice A384 l383.length c385, 9, 1, l383.length, l383.flatMap (fun x : ByteArray => [Value.string x])⟩) :: R, fun W => φ W ∧ Cl W A390 (l389.flatMap (fun x : Int => [Value.int .i64 x])) ∧ Cl W A397 (l396.flatMap GEntry.enc)⟩) (fun ⟨n483, l383, i386, i387, i388, l389, s393, i394, i395, l396, A384, c385, A390, c391, A397, c398⟩ => Lp (fun s => m_law11_PlogBack_s2 p0 x1 s.1 s.2.1 s.2.2.1 s.2.2.2.1 s.2.2.2.2.1 s.2.2.2.2.2.1 s.2.2.2.2.2.2.1 s.2.2.2.2.2.2.2.1 s.2.2.2.2.2.2.2.2) n483 (l383, i386, i387, i388, l389, s393, i394, i395, l396) out2 ∧ l383.length ≤ c385 ∧ l389.length ≤ c391 ∧ l396.length ≤ c398) (fun ⟨n483, l383, i386, i387, i388, l389, s393, i394, i395, l396, A384, c385, A390, c391, A397, c398⟩ => n483) (n483', ([] : List ByteArray), 0, 0, 0, ([] : List Int), (⟨#[]⟩ : ByteArray), 0, 0, ([] : List GEntry), none, 0, none, 0, none, 0) ⟨hl2, (Nat.le_refl 0), (Nat.le_refl 0), (Nat.le_refl 0)⟩ ⟨rfl, rfl, rfl, rfl, rfl, trivial⟩ (fun W h => h.phi (fun W hφ => ⟨hφ, (fun W _ => Cl.nil _ _) W hφ, (fun W _ => Cl.nil _ _) W hφ⟩)) (fun ⟨n483, l383, i386, i387, i388, l389, s393, i394, i395, l396, A384, c385, A390, c391, A397, c398⟩ u ⟨hlp, hc385, hc391, hc398⟩ => ?_)
  obtain ⟨o2, hm, hnx2⟩ := lp_step hlp
  clear hlp
  replace hm : m_law11_PlogBack_s2 p0 x1 l383 i386 i387 i388 l389 s393 i394 i395 l396 = some o2 := hm
  unfold m_law11_PlogBack_s2 at hm
  refine c_abs (fun φ484 q484' => ?_)
  have q484 : ∀ W, φ484 W → φ W := fun W h => (q484' W h).1
  have f392 := fun (W : World) (h : φ484 W) => (q484' W h).2.1
  have f399 := fun (W : World) (h : φ484 W) => (q484' W h).2.2
  refine c_flat [(0, .slice Ap0_0 p0.length cp0_0), (3, .bool x1), (4, .slice A384 l383.length c385), (5, .pointer (some ⟨g3, 0, none⟩)), (6, .int .i64 i386)] ⟨rfl, rfl, rfl, rfl, rfl, trivial⟩ (fun u => ?_)
  refine c_sta ⟨w0, M, (100050, g3, .cells #[.int .i64 i387, .int .i64 i388, .slice A390 l389.length c391, .string s393, .int .i64 i394, .int .i64 i395, .slice A397 l396.length c398] 30 (0, 0)) :: H, (4, ⟨.slice A384 l383.length c385, 9, 1, l383.length, l383.flatMap (fun x : ByteArray => [Value.string x])⟩) :: R, φ484⟩ (fun _ h => h) ?_
  refine c_seq ?_
  refine c_seq ?_
  refine c_region ?_
  refine g_v rfl r_move ?_
  refine g_v rfl r_move ?_
  refine g_v rfl (r_lenL Try.underlying22 rfl) ?_
  refine g_v rfl (r_lss rfl rfl) ?_
  refine g_v rfl r_move ?_
  refine g_if rfl rfl rfl rfl rfl (fun h485 => ?_) (fun h485 => ?_)
  ·
   replace hm := ite_t hm (of_decide_eq_true h485)
   refine g_v rfl r_move ?_
   refine g_do rfl rfl rfl rfl rfl h485 ?_
   refine g_v rfl (r_lss rfl rfl) ?_
   refine g_v rfl (r_pick1 rfl h485) ?_
   refine g_nil ?_
   refine d_then ?_
   refine c_cond rfl (fun h486 => ?_) (fun h486 => ?_)
   ·
    replace hm := ite_t hm (of_decide_eq_true h486)
    refine c_skip ?_
    refine d_then ?_
    refine c_seq ?_
    refine c_block ?_
    refine c_seq ?_
    refine c_region ?_
    refine g_v rfl r_move ?_
    refine g_v rfl r_move ?_
    replace hm := bnd hm
    obtain ⟨x487, hx487, hm⟩ := hm
    refine g_know _ (fun W hS => cl_at (p := φ) (sz := 7) (fun _ => rfl) (by decide) (q484 _ hS.now) fp0_0 hx487) ?_
    rintro ⟨ad488, hA490, f489⟩
    have hz491 := at_mem hx487
    have f492 := fun (W : World) (h : φ W) => (fdfp0_0 W h x487 hz491).1
    have f493 := fun (W : World) (h : φ W) => (fdfp0_0 W h x487 hz491).2
    refine g_v rfl (r_ix Try.underlying22 Try.sizeOf30 rfl hA490 rfl hx487) ?_
    refine g_v rfl (r_ldA rfl Try.isAgg30 Try.sizeOf30 (fun W hS => (f489 W (q484 _ hS.now)).take 7) rfl) ?_
    replace hm := bnd hm
    obtain ⟨x494, hx495, hm⟩ := hm
    refine g_cn ⟨w0, M, _, _, φ484⟩ (fun _ h => h) Try.call5 rfl rfl (c_law11_tame x487.val x487.A0 x487.c0 ((hdfp0_0 x487 hz491).1) (fun W h => f492 W (q484 _ h)) x487.A1 x487.c1 ((hdfp0_0 x487 hz491).2) (fun W hS => f493 W (q484 _ hS.now)) _ hx495) (fun ⟨A496, c497, A499, c500⟩ ⟨hc497, hc500⟩ => ?_)
    refine g_abs (fun φ502 q502' => ?_)
    have q502 : ∀ W, φ502 W → φ484 W := fun W h => (q502' W h).1
    have f498 := fun (W : World) (h : φ502 W) => (q502' W h).2.1
    have f501 := fun (W : World) (h : φ502 W) => (q502' W h).2.2
    refine g_e rfl (e_alloc 100070 Try.zeroValue30) (fun g503 _ => ?_)
    refine g_storeL (tag := 100070) rfl rfl rfl rfl Try.sizeOf30 rfl rfl ?_
    refine g_nil ?_
    refine d_then ?_
    refine c_flat [(0, .slice Ap0_0 p0.length cp0_0), (3, .bool x1), (4, .slice A384 l383.length c385), (5, .pointer (some ⟨g3, 0, none⟩)), (6, .int .i64 i386), (7, .pointer (some ⟨g503, 0, none⟩))] ⟨rfl, rfl, rfl, rfl, rfl, rfl, trivial⟩ (fun u => ?_)
    refine c_sta ⟨w0, M, (100070, g503, .cells #[.int .i64 x494.fTerm, .int .i64 x494.fVote, .slice A496 x494.fVoters.length c497, .string x494.fSnap, .int .i64 x494.fLog.fBase, .int .i64 x494.fLog.fBaseTerm, .slice A499 x494.fLog.fEntries.length c500] 30 (0, 0)) :: (100050, g3, .cells #[.int .i64 i387, .int .i64 i388, .slice A390 l389.length c391, .string s393, .int .i64 i394, .int .i64 i395, .slice A397 l396.length c398] 30 (0, 0)) :: H, (4, ⟨.slice A384 l383.length c385, 9, 1, l383.length, l383.flatMap (fun x : ByteArray => [Value.string x])⟩) :: R, φ502⟩ (fun _ h => h) ?_
    refine c_seq ?_
    refine c_region ?_
    refine g_v rfl (r_loadA (tag := 100070) rfl rfl Try.isAgg30 Try.sizeOf30 rfl rfl) ?_
    replace hm := bnd hm
    obtain ⟨x504, hx505, hm⟩ := hm
    refine g_cn ⟨w0, M, _, _, φ502⟩ (fun _ h => h) Try.call6 rfl rfl (c_law11_may x494 A496 c497 hc497 (fun W hS => f498 W hS.now) A499 c500 hc500 (fun W hS => f501 W hS.now) _ hx505) (fun _ _ => ?_)
    refine g_v rfl r_assign ?_
    refine g_nil ?_
    refine d_then ?_
    refine c_seq ?_
    refine c_seq ?_
    refine c_region ?_
    refine g_v rfl r_move ?_
    refine g_v rfl (r_not rfl) ?_
    refine g_nil ?_
    refine d_then ?_
    refine c_cond rfl (fun h506 => ?_) (fun h506 => ?_)
    ·
     have h506' : x504 = false := by revert h506; cases x504 <;> simp
     replace hm := ite_f hm (bool_nt h506')
     refine c_exit ?_
     refine d_exit_then ?_
     refine d_exit_block ?_
     refine d_then ?_
     refine c_region ?_
     refine g_v rfl r_move ?_
     refine g_v rfl (r_add rfl rfl rfl) ?_
     refine g_v rfl r_assign ?_
     refine g_nil ?_
     obtain ⟨n507, hn507, hlp⟩ := nx_inl hm hnx2
     exact d_round (n507, l383, w64 (i386 + 1), i387, i388, l389, s393, i394, i395, l396, A384, c385, A390, c391, A397, c398) ⟨hlp, hc385, hc391, hc398⟩ hn507 ⟨rfl, rfl, rfl, rfl, rfl, trivial⟩ (fun W h => (h.dropH (t := 100070) rfl).phi (fun W hφ => ⟨(q484 _ (q502 _ hφ)), (fun W h => f392 W (q502 _ h)) W hφ, (fun W h => f399 W (q502 _ h)) W hφ⟩))
    ·
     have h506' : x504 = true := by revert h506; cases x504 <;> simp
     replace hm := ite_t hm h506'
     refine c_skip ?_
     refine d_then ?_
     refine c_seq ?_
     refine c_region ?_
     refine g_v rfl (r_loadA (tag := 100050) rfl rfl Try.isAgg30 Try.sizeOf30 rfl rfl) ?_
     refine g_v rfl (r_loadA (tag := 100070) rfl rfl Try.isAgg30 Try.sizeOf30 rfl rfl) ?_
     replace hm := bnd hm
     obtain ⟨⟨x508, x509⟩, hx510, hm⟩ := hm
     refine g_cn ⟨w0, M, _, _, φ502⟩ (fun _ h => h) Try.call7 rfl rfl (c_plog_Save (⟨i387, i388, l389, s393, (⟨i394, i395, l396⟩ : GLog)⟩ : GHard) A390 c391 hc391 (fun W hS => f392 W (q502 _ hS.now)) A397 c398 hc398 (fun W hS => f399 W (q502 _ hS.now)) x494 A496 c497 hc497 (fun W hS => f498 W hS.now) A499 c500 hc500 (fun W hS => f501 W hS.now) _ hx510) (fun ⟨A511, c512⟩ hc512 => ?_)
     refine g_sta _ (fun W h => (ok_frontR (t := 2000) (t' := 100370) h rfl)) ?_
     refine g_v rfl r_move ?_
     refine g_v rfl (r_extract rfl rfl) ?_
     refine g_v rfl (r_extract rfl rfl) ?_
     refine g_v rfl r_assign ?_
     refine g_v rfl r_assign ?_
     refine g_nil ?_
     refine d_then ?_
     refine c_flat [(0, .slice Ap0_0 p0.length cp0_0), (3, .bool x1), (4, .slice A384 l383.length c385), (5, .pointer (some ⟨g3, 0, none⟩)), (6, .int .i64 i386), (7, .pointer (some ⟨g503, 0, none⟩)), (9, .slice A511 x508.length c512), (10, .bool x509)] ⟨rfl, rfl, rfl, rfl, rfl, rfl, rfl, rfl, trivial⟩ (fun u => ?_)
     refine c_sta ⟨w0, M, (100070, g503, .cells #[.int .i64 x494.fTerm, .int .i64 x494.fVote, .slice A496 x494.fVoters.length c497, .string x494.fSnap, .int .i64 x494.fLog.fBase, .int .i64 x494.fLog.fBaseTerm, .slice A499 x494.fLog.fEntries.length c500] 30 (0, 0)) :: (100050, g3, .cells #[.int .i64 i387, .int .i64 i388, .slice A390 l389.length c391, .string s393, .int .i64 i394, .int .i64 i395, .slice A397 l396.length c398] 30 (0, 0)) :: H, (100370, ⟨.slice A511 x508.length c512, 9, 1, x508.length, x508.flatMap (fun x : ByteArray => [Value.string x])⟩) :: (4, ⟨.slice A384 l383.length c385, 9, 1, l383.length, l383.flatMap (fun x : ByteArray => [Value.string x])⟩) :: R, φ502⟩ (fun _ h => h) ?_
     refine c_seq ?_
     refine c_cut (ι := (List ByteArray) × Option Addr × Nat) [0, 3, 4, 5, 6, 7, 9] (fun ⟨l516, A517, c518⟩ => [(4, .slice A517 l516.length c518)]) (fun ⟨l516, A517, c518⟩ => ⟨w0, M, (100070, g503, .cells #[.int .i64 x494.fTerm, .int .i64 x494.fVote, .slice A496 x494.fVoters.length c497, .string x494.fSnap, .int .i64 x494.fLog.fBase, .int .i64 x494.fLog.fBaseTerm, .slice A499 x494.fLog.fEntries.length c500] 30 (0, 0)) :: (100050, g3, .cells #[.int .i64 i387, .int .i64 i388, .slice A390 l389.length c391, .string s393, .int .i64 i394, .int .i64 i395, .slice A397 l396.length c398] 30 (0, 0)) :: H, (100370, ⟨.slice A511 x508.length c512, 9, 1, x508.length, x508.flatMap (fun x : ByteArray => [Value.string x])⟩) :: (4, ⟨.slice A517 l516.length c518, 9, 1, l516.length, l516.flatMap (fun x : ByteArray => [Value.string x])⟩) :: R, φ502⟩) (fun ⟨l516, A517, c518⟩ => m_law11_PlogBack_j3 x508 i386 i387 i388 l389 s393 i394 i395 l396 x494 x1 l516 = some o2 ∧ l516.length ≤ c518) ?_ (fun ⟨l516, A517, c518⟩ u ⟨hm, hc518⟩ => ?_)
     ·
      refine c_seq ?_
      refine c_region ?_
      refine g_v rfl r_move ?_
      refine g_nil ?_
      refine d_then ?_
      refine c_cond rfl (fun h569 => ?_) (fun h569 => ?_)
      ·
       replace hm := ite_t hm h569
       refine c_region ?_
       refine g_v rfl r_assign ?_
       refine g_nil ?_
       refine d_sta _ (fun W h => nilR ((Sta.ok.shut (t := 4) h rfl).phi (fun _ hh => hh.1)) 4 9 1) ?_
       exact d_round (([] : List ByteArray), none, 0) ⟨hm, (Nat.le_refl 0)⟩ Nat.zero_lt_one ⟨rfl, rfl, rfl, rfl, rfl, rfl, rfl, trivial⟩ (fun W h => (ok_frontR (t := 100370) (t' := 100370) (ok_frontR (t := 4) (t' := 4) h rfl) rfl).phi (fun W hφ => hφ))
      ·
       replace hm := ite_f hm (bool_nt h569)
       refine c_skip ?_
       exact d_round (l383, A384, c385) ⟨hm, hc385⟩ Nat.zero_lt_one ⟨rfl, rfl, rfl, rfl, rfl, rfl, rfl, trivial⟩ (fun W h => h.phi (fun W hφ => hφ))
     ·
      unfold m_law11_PlogBack_j3 at hm
      refine d_flat [(0, .slice Ap0_0 p0.length cp0_0), (3, .bool x1), (4, .slice A517 l516.length c518), (5, .pointer (some ⟨g3, 0, none⟩)), (6, .int .i64 i386), (7, .pointer (some ⟨g503, 0, none⟩)), (9, .slice A511 x508.length c512)] ⟨rfl, rfl, rfl, rfl, rfl, rfl, rfl, trivial⟩ (fun u => ?_)
      refine d_sta ⟨w0, M, (100070, g503, .cells #[.int .i64 x494.fTerm, .int .i64 x494.fVote, .slice A496 x494.fVoters.length c497, .string x494.fSnap, .int .i64 x494.fLog.fBase, .int .i64 x494.fLog.fBaseTerm, .slice A499 x494.fLog.fEntries.length c500] 30 (0, 0)) :: (100050, g3, .cells #[.int .i64 i387, .int .i64 i388, .slice A390 l389.length c391, .string s393, .int .i64 i394, .int .i64 i395, .slice A397 l396.length c398] 30 (0, 0)) :: H, (100370, ⟨.slice A511 x508.length c512, 9, 1, x508.length, x508.flatMap (fun x : ByteArray => [Value.string x])⟩) :: (4, ⟨.slice A517 l516.length c518, 9, 1, l516.length, l516.flatMap (fun x : ByteArray => [Value.string x])⟩) :: R, φ502⟩ (fun _ h => h) ?_
      refine d_then ?_
      refine c_seq ?_
      refine c_region ?_
      refine g_v rfl r_move ?_
      refine g_v rfl r_move ?_
      replace hm := bnd hm
      obtain ⟨l519, hl519, hm⟩ := hm
      refine g_e rfl (e_appR (enc := (fun x : ByteArray => [Value.string x])) (l := l516) (l1 := x508) (l2 := l519) (tag := 4) Try.underlying24 inf9_16 rfl (by decide) (by decide) (fun _ => rfl) (fun _ => rfl) rfl hc518 rfl rfl (fun W hS => rowCl (tag := 100370) rfl W hS) hl519) (fun ⟨A520, c521⟩ hc521 => ?_)
      refine g_v rfl r_assign ?_
      refine g_nil ?_
      refine d_then ?_
      refine c_seq ?_
      refine c_cut (ι := Unit) [0, 3, 4, 5, 6, 7] (fun _ => []) (fun _ => ⟨w0, M, (100070, g503, .cells #[.int .i64 x494.fTerm, .int .i64 x494.fVote, .slice A496 x494.fVoters.length c497, .string x494.fSnap, .int .i64 x494.fLog.fBase, .int .i64 x494.fLog.fBaseTerm, .slice A499 x494.fLog.fEntries.length c500] 30 (0, 0)) :: (100050, g3, .cells #[.int .i64 i387, .int .i64 i388, .slice A390 l389.length c391, .string s393, .int .i64 i394, .int .i64 i395, .slice A397 l396.length c398] 30 (0, 0)) :: H, (4, ⟨.slice A520 l519.length c521, 9, 1, l519.length, l519.flatMap (fun x : ByteArray => [Value.string x])⟩) :: R, φ502⟩) (fun _ => m_law11_PlogBack_j4 l519 x494 i386 x1 = some o2) ?_ (fun _ u hm => ?_)
      ·
       refine c_seq ?_
       refine c_region ?_
       refine g_v rfl r_move ?_
       refine g_v rfl (r_lenL Try.underlying24 rfl) ?_
       refine g_v rfl (r_eql rfl rfl) ?_
       refine g_v rfl r_move ?_
       refine g_if rfl rfl rfl rfl rfl (fun h566 => ?_) (fun h566 => ?_)
       ·
        replace hm := ite_t hm (of_decide_eq_true h566)
        refine g_v rfl r_move ?_
        refine g_do rfl rfl rfl rfl rfl h566 ?_
        refine g_v rfl (r_eql rfl rfl) ?_
        refine g_v rfl (r_pick1 rfl h566) ?_
        refine g_nil ?_
        refine d_then ?_
        refine c_flat [(0, .slice Ap0_0 p0.length cp0_0), (3, .bool x1), (4, .slice A520 l519.length c521), (5, .pointer (some ⟨g3, 0, none⟩)), (6, .int .i64 i386), (7, .pointer (some ⟨g503, 0, none⟩)), (50, .bool (decide (i386 = 0)))] ⟨rfl, rfl, rfl, rfl, rfl, rfl, rfl, trivial⟩ (fun u => ?_)
        refine c_sta ⟨w0, M, (100070, g503, .cells #[.int .i64 x494.fTerm, .int .i64 x494.fVote, .slice A496 x494.fVoters.length c497, .string x494.fSnap, .int .i64 x494.fLog.fBase, .int .i64 x494.fLog.fBaseTerm, .slice A499 x494.fLog.fEntries.length c500] 30 (0, 0)) :: (100050, g3, .cells #[.int .i64 i387, .int .i64 i388, .slice A390 l389.length c391, .string s393, .int .i64 i394, .int .i64 i395, .slice A397 l396.length c398] 30 (0, 0)) :: H, (100370, ⟨.slice A511 x508.length c512, 9, 1, x508.length, x508.flatMap (fun x : ByteArray => [Value.string x])⟩) :: (4, ⟨.slice A520 l519.length c521, 9, 1, l519.length, l519.flatMap (fun x : ByteArray => [Value.string x])⟩) :: R, φ502⟩ (fun _ h => h) ?_
        refine c_cond rfl (fun h567 => ?_) (fun h567 => ?_)
        ·
         replace hm := ite_t hm (of_decide_eq_true h567)
         refine c_exit ?_
         refine d_exit_then ?_
         refine d_exit_then ?_
         refine d_exit_block ?_
         refine d_then ?_
         refine c_region ?_
         refine g_v rfl r_move ?_
         refine g_v rfl (r_add rfl rfl rfl) ?_
         refine g_v rfl r_assign ?_
         refine g_nil ?_
         obtain ⟨n568, hn568, hlp⟩ := nx_inl hm hnx2
         exact d_round (n568, l519, w64 (i386 + 1), i387, i388, l389, s393, i394, i395, l396, A520, c521, A390, c391, A397, c398) ⟨hlp, hc521, hc391, hc398⟩ hn568 ⟨rfl, rfl, rfl, rfl, rfl, trivial⟩ (fun W h => (((h.shut (t := 100370) rfl).phi (fun _ hh => hh.1)).dropH (t := 100070) rfl).phi (fun W hφ => ⟨(q484 _ (q502 _ hφ)), (fun W h => f392 W (q502 _ h)) W hφ, (fun W h => f399 W (q502 _ h)) W hφ⟩))
        ·
         replace hm := ite_f hm (of_decide_eq_false h567)
         refine c_skip ?_
         exact d_round () hm Nat.zero_lt_one ⟨rfl, rfl, rfl, rfl, rfl, rfl, trivial⟩ (fun W h => ((h.shut (t := 100370) rfl).phi (fun _ hh => hh.1)).phi (fun W hφ => hφ))
       ·
        replace hm := ite_f hm (of_decide_eq_false h566)
        refine g_no rfl rfl rfl rfl rfl h566 ?_
        refine g_v rfl (r_pick0 rfl h566) ?_
        refine g_nil ?_
        refine d_then ?_
        refine c_flat [(0, .slice Ap0_0 p0.length cp0_0), (3, .bool x1), (4, .slice A520 l519.length c521), (5, .pointer (some ⟨g3, 0, none⟩)), (6, .int .i64 i386), (7, .pointer (some ⟨g503, 0, none⟩)), (50, .bool false)] ⟨rfl, rfl, rfl, rfl, rfl, rfl, rfl, trivial⟩ (fun u => ?_)
        refine c_sta ⟨w0, M, (100070, g503, .cells #[.int .i64 x494.fTerm, .int .i64 x494.fVote, .slice A496 x494.fVoters.length c497, .string x494.fSnap, .int .i64 x494.fLog.fBase, .int .i64 x494.fLog.fBaseTerm, .slice A499 x494.fLog.fEntries.length c500] 30 (0, 0)) :: (100050, g3, .cells #[.int .i64 i387, .int .i64 i388, .slice A390 l389.length c391, .string s393, .int .i64 i394, .int .i64 i395, .slice A397 l396.length c398] 30 (0, 0)) :: H, (100370, ⟨.slice A511 x508.length c512, 9, 1, x508.length, x508.flatMap (fun x : ByteArray => [Value.string x])⟩) :: (4, ⟨.slice A520 l519.length c521, 9, 1, l519.length, l519.flatMap (fun x : ByteArray => [Value.string x])⟩) :: R, φ502⟩ (fun _ h => h) ?_
        refine c_cond0 rfl rfl ?_
        refine c_skip ?_
        exact d_round () hm Nat.zero_lt_one ⟨rfl, rfl, rfl, rfl, rfl, rfl, trivial⟩ (fun W h => ((h.shut (t := 100370) rfl).phi (fun _ hh => hh.1)).phi (fun W hφ => hφ))
      ·
       unfold m_law11_PlogBack_j4 at hm
       refine d_flat [(0, .slice Ap0_0 p0.length cp0_0), (3, .bool x1), (4, .slice A520 l519.length c521), (5, .pointer (some ⟨g3, 0, none⟩)), (6, .int .i64 i386), (7, .pointer (some ⟨g503, 0, none⟩))] ⟨rfl, rfl, rfl, rfl, rfl, rfl, trivial⟩ (fun u => ?_)
       refine d_sta ⟨w0, M, (100070, g503, .cells #[.int .i64 x494.fTerm, .int .i64 x494.fVote, .slice A496 x494.fVoters.length c497, .string x494.fSnap, .int .i64 x494.fLog.fBase, .int .i64 x494.fLog.fBaseTerm, .slice A499 x494.fLog.fEntries.length c500] 30 (0, 0)) :: (100050, g3, .cells #[.int .i64 i387, .int .i64 i388, .slice A390 l389.length c391, .string s393, .int .i64 i394, .int .i64 i395, .slice A397 l396.length c398] 30 (0, 0)) :: H, (4, ⟨.slice A520 l519.length c521, 9, 1, l519.length, l519.flatMap (fun x : ByteArray => [Value.string x])⟩) :: R, φ502⟩ (fun _ h => h) ?_
       refine d_then ?_
       refine c_seq ?_
       refine c_cut (ι := Unit) [0, 3, 4, 5, 6, 7] (fun _ => []) (fun _ => ⟨w0, M, (100070, g503, .cells #[.int .i64 x494.fTerm, .int .i64 x494.fVote, .slice A496 x494.fVoters.length c497, .string x494.fSnap, .int .i64 x494.fLog.fBase, .int .i64 x494.fLog.fBaseTerm, .slice A499 x494.fLog.fEntries.length c500] 30 (0, 0)) :: (100050, g3, .cells #[.int .i64 i387, .int .i64 i388, .slice A390 l389.length c391, .string s393, .int .i64 i394, .int .i64 i395, .slice A397 l396.length c398] 30 (0, 0)) :: H, (4, ⟨.slice A520 l519.length c521, 9, 1, l519.length, l519.flatMap (fun x : ByteArray => [Value.string x])⟩) :: R, φ502⟩) (fun _ => m_law11_PlogBack_j5 l519 x494 i386 = some o2) ?_ (fun _ u hm => ?_)
       ·
        refine c_seq ?_
        refine c_region ?_
        refine g_v rfl r_move ?_
        refine g_v rfl (r_lenL Try.underlying24 rfl) ?_
        refine g_v rfl (r_gtr rfl rfl) ?_
        refine g_v rfl r_move ?_
        refine g_if rfl rfl rfl rfl rfl (fun h554 => ?_) (fun h554 => ?_)
        ·
         replace hm := ite_t hm (of_decide_eq_true h554)
         refine g_v rfl r_move ?_
         refine g_do rfl rfl rfl rfl rfl h554 ?_
         replace hm := bnd hm
         obtain ⟨x555, hx555, hm⟩ := hm
         refine g_know _ (fun W hS => cl_at (p := (Sta.ok ⟨w0, M, (100070, g503, .cells #[.int .i64 x494.fTerm, .int .i64 x494.fVote, .slice A496 x494.fVoters.length c497, .string x494.fSnap, .int .i64 x494.fLog.fBase, .int .i64 x494.fLog.fBaseTerm, .slice A499 x494.fLog.fEntries.length c500] 30 (0, 0)) :: (100050, g3, .cells #[.int .i64 i387, .int .i64 i388, .slice A390 l389.length c391, .string s393, .int .i64 i394, .int .i64 i395, .slice A397 l396.length c398] 30 (0, 0)) :: H, (4, ⟨.slice A520 l519.length c521, 9, 1, l519.length, l519.flatMap (fun x : ByteArray => [Value.string x])⟩) :: R, φ502⟩)) (sz := 1) (fun _ => rfl) (by decide) hS (fun W hS => rowCl (S := ⟨w0, M, (100070, g503, .cells #[.int .i64 x494.fTerm, .int .i64 x494.fVote, .slice A496 x494.fVoters.length c497, .string x494.fSnap, .int .i64 x494.fLog.fBase, .int .i64 x494.fLog.fBaseTerm, .slice A499 x494.fLog.fEntries.length c500] 30 (0, 0)) :: (100050, g3, .cells #[.int .i64 i387, .int .i64 i388, .slice A390 l389.length c391, .string s393, .int .i64 i394, .int .i64 i395, .slice A397 l396.length c398] 30 (0, 0)) :: H, (4, ⟨.slice A520 l519.length c521, 9, 1, l519.length, l519.flatMap (fun x : ByteArray => [Value.string x])⟩) :: R, φ502⟩) (tag := 4) rfl W hS) hx555) ?_
         rintro ⟨ad556, hA558, f557⟩
         refine g_v rfl (r_ix Try.underlying24 Try.sizeOf9 rfl hA558 rfl hx555) ?_
         refine g_do rfl rfl rfl rfl rfl h554 ?_
         refine g_v rfl (r_ld rfl Try.isAgg9 (fun W hS => Cl.head (f557 W hS))) ?_
         refine g_do rfl rfl rfl rfl rfl h554 ?_
         refine g_v rfl (r_neqT rfl rfl) ?_
         refine g_v rfl (r_pick1 rfl h554) ?_
         refine g_v rfl r_move ?_
         refine g_if rfl rfl rfl rfl rfl (fun h559 => ?_) (fun h559 => ?_)
         ·
          have h559' : (decide (x555 = (⟨#[]⟩ : ByteArray))) = false := by revert h559; cases (decide (x555 = (⟨#[]⟩ : ByteArray))) <;> simp
          replace hm := ite_f hm (of_decide_eq_false h559')
          refine g_v rfl r_move ?_
          refine g_do rfl rfl rfl rfl rfl h559 ?_
          replace hm := bnd hm
          obtain ⟨x560, hx560, hm⟩ := hm
          refine g_know _ (fun W hS => cl_at (p := (Sta.ok ⟨w0, M, (100070, g503, .cells #[.int .i64 x494.fTerm, .int .i64 x494.fVote, .slice A496 x494.fVoters.length c497, .string x494.fSnap, .int .i64 x494.fLog.fBase, .int .i64 x494.fLog.fBaseTerm, .slice A499 x494.fLog.fEntries.length c500] 30 (0, 0)) :: (100050, g3, .cells #[.int .i64 i387, .int .i64 i388, .slice A390 l389.length c391, .string s393, .int .i64 i394, .int .i64 i395, .slice A397 l396.length c398] 30 (0, 0)) :: H, (4, ⟨.slice A520 l519.length c521, 9, 1, l519.length, l519.flatMap (fun x : ByteArray => [Value.string x])⟩) :: R, φ502⟩)) (sz := 1) (fun _ => rfl) (by decide) hS (fun W hS => rowCl (S := ⟨w0, M, (100070, g503, .cells #[.int .i64 x494.fTerm, .int .i64 x494.fVote, .slice A496 x494.fVoters.length c497, .string x494.fSnap, .int .i64 x494.fLog.fBase, .int .i64 x494.fLog.fBaseTerm, .slice A499 x494.fLog.fEntries.length c500] 30 (0, 0)) :: (100050, g3, .cells #[.int .i64 i387, .int .i64 i388, .slice A390 l389.length c391, .string s393, .int .i64 i394, .int .i64 i395, .slice A397 l396.length c398] 30 (0, 0)) :: H, (4, ⟨.slice A520 l519.length c521, 9, 1, l519.length, l519.flatMap (fun x : ByteArray => [Value.string x])⟩) :: R, φ502⟩) (tag := 4) rfl W hS) hx560) ?_
          rintro ⟨ad561, hA563, f562⟩
          refine g_v rfl (r_ix Try.underlying24 Try.sizeOf9 rfl hA563 rfl hx560) ?_
          refine g_do rfl rfl rfl rfl rfl h559 ?_
          refine g_v rfl (r_ld rfl Try.isAgg9 (fun W hS => Cl.head (f562 W hS))) ?_
          refine g_do rfl rfl rfl rfl rfl h559 ?_
          replace hm := bnd hm
          obtain ⟨b564, hb564, hm⟩ := hm
          refine g_v rfl (r_sat Try.underlying9 rfl rfl hb564) ?_
          refine g_do rfl rfl rfl rfl rfl h559 ?_
          refine g_v rfl (r_neq rfl rfl) ?_
          refine g_v rfl (r_pick1 rfl h559) ?_
          refine g_nil ?_
          refine d_then ?_
          refine c_flat [(0, .slice Ap0_0 p0.length cp0_0), (3, .bool x1), (4, .slice A520 l519.length c521), (5, .pointer (some ⟨g3, 0, none⟩)), (6, .int .i64 i386), (7, .pointer (some ⟨g503, 0, none⟩)), (66, .bool (decide (b564 ≠ 87)))] ⟨rfl, rfl, rfl, rfl, rfl, rfl, rfl, trivial⟩ (fun u => ?_)
          refine c_sta ⟨w0, M, (100070, g503, .cells #[.int .i64 x494.fTerm, .int .i64 x494.fVote, .slice A496 x494.fVoters.length c497, .string x494.fSnap, .int .i64 x494.fLog.fBase, .int .i64 x494.fLog.fBaseTerm, .slice A499 x494.fLog.fEntries.length c500] 30 (0, 0)) :: (100050, g3, .cells #[.int .i64 i387, .int .i64 i388, .slice A390 l389.length c391, .string s393, .int .i64 i394, .int .i64 i395, .slice A397 l396.length c398] 30 (0, 0)) :: H, (4, ⟨.slice A520 l519.length c521, 9, 1, l519.length, l519.flatMap (fun x : ByteArray => [Value.string x])⟩) :: R, φ502⟩ (fun _ h => h) ?_
          refine c_cond rfl (fun h565 => ?_) (fun h565 => ?_)
          ·
           replace hm := ite_t hm (of_decide_eq_true h565)
           refine c_seq ?_
           refine c_region ?_
           refine g_v rfl r_move ?_
           refine g_v rfl r_assign ?_
           refine g_nil ?_
           refine d_then ?_
           refine c_ret ?_
           refine d_ret_then ?_
           refine d_ret_then ?_
           refine d_ret_block ?_
           refine d_ret_then ?_
           refine d_ret_then ?_
           refine d_ret_block ?_
           refine d_ret_then ?_
           refine d_ret_then ?_
           replace hm := nx_out (C := (fun e => Sum.elim (fun e => m_law11_PlogBack_j1 x1) (fun x => some x) e = some r)) hm hnx2 hr2
           replace hm : some x1 = some r := hm
           replace hm := Option.some.inj hm
           subst hm
           refine d_retC () Try.results3 ?_ trivial (fun W h => ok_pre (H1 := [_, _]) (R1 := [_]) h (fun W hφ => (q484 _ (q502 _ hφ)))) (.inr rfl)
           refine res_tmp ?_
           refine res_nil ?_
           exact rfl
          ·
           replace hm := ite_f hm (of_decide_eq_false h565)
           refine c_skip ?_
           exact d_round () hm Nat.zero_lt_one ⟨rfl, rfl, rfl, rfl, rfl, rfl, trivial⟩ (fun W h => h.phi (fun W hφ => hφ))
         ·
          have h559' : (decide (x555 = (⟨#[]⟩ : ByteArray))) = true := by revert h559; cases (decide (x555 = (⟨#[]⟩ : ByteArray))) <;> simp
          replace hm := ite_t hm (of_decide_eq_true h559')
          refine g_no rfl rfl rfl rfl rfl h559 ?_
          refine g_no rfl rfl rfl rfl rfl h559 ?_
          refine g_no rfl rfl rfl rfl rfl h559 ?_
          refine g_no rfl rfl rfl rfl rfl h559 ?_
          refine g_v rfl (r_pick0 rfl h559) ?_
          refine g_nil ?_
          refine d_then ?_
          refine c_flat [(0, .slice Ap0_0 p0.length cp0_0), (3, .bool x1), (4, .slice A520 l519.length c521), (5, .pointer (some ⟨g3, 0, none⟩)), (6, .int .i64 i386), (7, .pointer (some ⟨g503, 0, none⟩)), (66, .bool false)] ⟨rfl, rfl, rfl, rfl, rfl, rfl, rfl, trivial⟩ (fun u => ?_)
          refine c_sta ⟨w0, M, (100070, g503, .cells #[.int .i64 x494.fTerm, .int .i64 x494.fVote, .slice A496 x494.fVoters.length c497, .string x494.fSnap, .int .i64 x494.fLog.fBase, .int .i64 x494.fLog.fBaseTerm, .slice A499 x494.fLog.fEntries.length c500] 30 (0, 0)) :: (100050, g3, .cells #[.int .i64 i387, .int .i64 i388, .slice A390 l389.length c391, .string s393, .int .i64 i394, .int .i64 i395, .slice A397 l396.length c398] 30 (0, 0)) :: H, (4, ⟨.slice A520 l519.length c521, 9, 1, l519.length, l519.flatMap (fun x : ByteArray => [Value.string x])⟩) :: R, φ502⟩ (fun _ h => h) ?_
          refine c_cond0 rfl rfl ?_
          refine c_skip ?_
          exact d_round () hm Nat.zero_lt_one ⟨rfl, rfl, rfl, rfl, rfl, rfl, trivial⟩ (fun W h => h.phi (fun W hφ => hφ))
        ·
         replace hm := ite_f hm (of_decide_eq_false h554)
         refine g_no rfl rfl rfl rfl rfl h554 ?_
         refine g_no rfl rfl rfl rfl rfl h554 ?_
         refine g_no rfl rfl rfl rfl rfl h554 ?_
         refine g_v rfl (r_pick0 rfl h554) ?_
         refine g_v rfl r_move ?_
         refine g_no rfl rfl rfl rfl rfl rfl ?_
         refine g_no rfl rfl rfl rfl rfl rfl ?_
         refine g_no rfl rfl rfl rfl rfl rfl ?_
         refine g_no rfl rfl rfl rfl rfl rfl ?_
         refine g_no rfl rfl rfl rfl rfl rfl ?_
         refine g_v rfl (r_pick0 rfl rfl) ?_
         refine g_nil ?_
         refine d_then ?_
         refine c_cond0 rfl rfl ?_
         refine c_skip ?_
         exact d_round () hm Nat.zero_lt_one ⟨rfl, rfl, rfl, rfl, rfl, rfl, trivial⟩ (fun W h => h.phi (fun W hφ => hφ))
       ·
        unfold m_law11_PlogBack_j5 at hm
        refine d_flat [(0, .slice Ap0_0 p0.length cp0_0), (3, .bool x1), (4, .slice A520 l519.length c521), (5, .pointer (some ⟨g3, 0, none⟩)), (6, .int .i64 i386), (7, .pointer (some ⟨g503, 0, none⟩))] ⟨rfl, rfl, rfl, rfl, rfl, rfl, trivial⟩ (fun u => ?_)
        refine d_sta ⟨w0, M, (100070, g503, .cells #[.int .i64 x494.fTerm, .int .i64 x494.fVote, .slice A496 x494.fVoters.length c497, .string x494.fSnap, .int .i64 x494.fLog.fBase, .int .i64 x494.fLog.fBaseTerm, .slice A499 x494.fLog.fEntries.length c500] 30 (0, 0)) :: (100050, g3, .cells #[.int .i64 i387, .int .i64 i388, .slice A390 l389.length c391, .string s393, .int .i64 i394, .int .i64 i395, .slice A397 l396.length c398] 30 (0, 0)) :: H, (4, ⟨.slice A520 l519.length c521, 9, 1, l519.length, l519.flatMap (fun x : ByteArray => [Value.string x])⟩) :: R, φ502⟩ (fun _ h => h) ?_
        refine d_then ?_
        refine c_seq ?_
        refine c_region ?_
        refine g_v rfl r_move ?_
        replace hm := bnd hm
        obtain ⟨⟨x537, x538⟩, hx539, hm⟩ := hm
        refine g_cn ⟨w0, M, _, _, φ502⟩ (fun _ h => h) Try.call8 rfl rfl (c_plog_Load l519 A520 c521 hc521 (fun W hS => rowCl (tag := 4) rfl W hS) _ hx539) (fun ⟨A540, c541, A543, c544⟩ ⟨hc541, hc544⟩ => ?_)
        refine g_abs (fun φ546 q546' => ?_)
        have q546 : ∀ W, φ546 W → φ502 W := fun W h => (q546' W h).1
        have f542 := fun (W : World) (h : φ546 W) => (q546' W h).2.1
        have f545 := fun (W : World) (h : φ546 W) => (q546' W h).2.2
        refine g_v rfl r_move ?_
        refine g_v rfl (r_extract rfl rfl) ?_
        refine g_v rfl (r_extract rfl rfl) ?_
        refine g_e rfl (e_alloc 100110 Try.zeroValue30) (fun g548 _ => ?_)
        refine g_storeL (tag := 100110) rfl rfl rfl rfl Try.sizeOf30 rfl rfl ?_
        refine g_v rfl r_assign ?_
        refine g_nil ?_
        refine d_then ?_
        refine c_seq ?_
        refine c_region ?_
        refine g_v rfl (r_loadA (tag := 100110) rfl rfl Try.isAgg30 Try.sizeOf30 rfl rfl) ?_
        refine g_v rfl (r_loadA (tag := 100070) rfl rfl Try.isAgg30 Try.sizeOf30 rfl rfl) ?_
        replace hm := bnd hm
        obtain ⟨x549, hx550, hm⟩ := hm
        refine g_cn ⟨w0, M, _, _, φ546⟩ (fun _ h => h) Try.call9 rfl rfl (c_ref11_Same x537 A540 c541 hc541 (fun W hS => f542 W hS.now) A543 c544 hc544 (fun W hS => f545 W hS.now) x494 A496 c497 hc497 (fun W hS => f498 W (q546 _ hS.now)) A499 c500 hc500 (fun W hS => f501 W (q546 _ hS.now)) _ hx550) (fun _ _ => ?_)
        refine g_v rfl r_assign ?_
        refine g_nil ?_
        refine d_then ?_
        refine c_flat [(0, .slice Ap0_0 p0.length cp0_0), (3, .bool x1), (4, .slice A520 l519.length c521), (5, .pointer (some ⟨g3, 0, none⟩)), (6, .int .i64 i386), (7, .pointer (some ⟨g503, 0, none⟩)), (12, .int .i64 x538), (13, .bool x549)] ⟨rfl, rfl, rfl, rfl, rfl, rfl, rfl, rfl, trivial⟩ (fun u => ?_)
        refine c_sta ⟨w0, M, (100110, g548, .cells #[.int .i64 x537.fTerm, .int .i64 x537.fVote, .slice A540 x537.fVoters.length c541, .string x537.fSnap, .int .i64 x537.fLog.fBase, .int .i64 x537.fLog.fBaseTerm, .slice A543 x537.fLog.fEntries.length c544] 30 (0, 0)) :: (100070, g503, .cells #[.int .i64 x494.fTerm, .int .i64 x494.fVote, .slice A496 x494.fVoters.length c497, .string x494.fSnap, .int .i64 x494.fLog.fBase, .int .i64 x494.fLog.fBaseTerm, .slice A499 x494.fLog.fEntries.length c500] 30 (0, 0)) :: (100050, g3, .cells #[.int .i64 i387, .int .i64 i388, .slice A390 l389.length c391, .string s393, .int .i64 i394, .int .i64 i395, .slice A397 l396.length c398] 30 (0, 0)) :: H, (4, ⟨.slice A520 l519.length c521, 9, 1, l519.length, l519.flatMap (fun x : ByteArray => [Value.string x])⟩) :: R, φ546⟩ (fun _ h => h) ?_
        refine c_seq ?_
        refine c_seq ?_
        refine c_region ?_
        refine g_v rfl r_move ?_
        refine g_v rfl (r_neq rfl rfl) ?_
        refine g_v rfl r_move ?_
        refine g_if rfl rfl rfl rfl rfl (fun h551 => ?_) (fun h551 => ?_)
        ·
         replace hm := ite_f hm (of_decide_eq_false h551)
         refine g_v rfl r_move ?_
         refine g_do rfl rfl rfl rfl rfl h551 ?_
         refine g_v rfl (r_not rfl) ?_
         refine g_v rfl (r_pick0 rfl h551) ?_
         refine g_nil ?_
         refine d_then ?_
         refine c_cond rfl (fun h552 => ?_) (fun h552 => ?_)
         ·
          have h552' : x549 = false := by revert h552; cases x549 <;> simp
          replace hm := ite_f hm (bool_nt h552')
          refine c_seq ?_
          refine c_region ?_
          refine g_v rfl r_assign ?_
          refine g_nil ?_
          refine d_then ?_
          refine c_ret ?_
          refine d_ret_then ?_
          refine d_ret_block ?_
          refine d_ret_then ?_
          refine d_ret_then ?_
          refine d_ret_block ?_
          refine d_ret_then ?_
          refine d_ret_then ?_
          replace hm := nx_out (C := (fun e => Sum.elim (fun e => m_law11_PlogBack_j1 x1) (fun x => some x) e = some r)) hm hnx2 hr2
          replace hm : some false = some r := hm
          replace hm := Option.some.inj hm
          subst hm
          refine d_retC () Try.results3 ?_ trivial (fun W h => ok_pre (H1 := [_, _, _]) (R1 := [_]) h (fun W hφ => (q484 _ (q502 _ (q546 _ hφ))))) (.inr rfl)
          refine res_tmp ?_
          refine res_nil ?_
          exact rfl
         ·
          have h552' : x549 = true := by revert h552; cases x549 <;> simp
          replace hm := ite_t hm h552'
          refine c_skip ?_
          refine d_then ?_
          refine c_region ?_
          refine g_v rfl (r_loadA (tag := 100070) rfl rfl Try.isAgg30 Try.sizeOf30 rfl rfl) ?_
          refine g_storeL (tag := 100050) rfl rfl rfl rfl Try.sizeOf30 rfl rfl ?_
          refine g_nil ?_
          refine d_normal_block ?_
          refine d_then ?_
          refine c_region ?_
          refine g_v rfl r_move ?_
          refine g_v rfl (r_add rfl rfl rfl) ?_
          refine g_v rfl r_assign ?_
          refine g_nil ?_
          obtain ⟨n553, hn553, hlp⟩ := nx_inl hm hnx2
          exact d_round (n553, l519, w64 (i386 + 1), x494.fTerm, x494.fVote, x494.fVoters, x494.fSnap, x494.fLog.fBase, x494.fLog.fBaseTerm, x494.fLog.fEntries, A520, c521, A496, c497, A499, c500) ⟨hlp, hc521, hc497, hc500⟩ hn553 ⟨rfl, rfl, rfl, rfl, rfl, trivial⟩ (fun W h => ((h.dropH (t := 100110) rfl).dropH (t := 100070) rfl).phi (fun W hφ => ⟨(q484 _ (q502 _ (q546 _ hφ))), (fun W h => f498 W (q546 _ h)) W hφ, (fun W h => f501 W (q546 _ h)) W hφ⟩))
        ·
         replace hm := ite_t hm (of_decide_eq_true h551)
         refine g_no rfl rfl rfl rfl rfl h551 ?_
         refine g_v rfl (r_pick1 rfl h551) ?_
         refine g_nil ?_
         refine d_then ?_
         refine c_cond1 rfl rfl ?_
         refine c_seq ?_
         refine c_region ?_
         refine g_v rfl r_assign ?_
         refine g_nil ?_
         refine d_then ?_
         refine c_ret ?_
         refine d_ret_then ?_
         refine d_ret_block ?_
         refine d_ret_then ?_
         refine d_ret_then ?_
         refine d_ret_block ?_
         refine d_ret_then ?_
         refine d_ret_then ?_
         replace hm := nx_out (C := (fun e => Sum.elim (fun e => m_law11_PlogBack_j1 x1) (fun x => some x) e = some r)) hm hnx2 hr2
         replace hm : some false = some r := hm
         replace hm := Option.some.inj hm
         subst hm
         refine d_retC () Try.results3 ?_ trivial (fun W h => ok_pre (H1 := [_, _, _]) (R1 := [_]) h (fun W hφ => (q484 _ (q502 _ (q546 _ hφ))))) (.inr rfl)
         refine res_tmp ?_
         refine res_nil ?_
         exact rfl
   ·
    replace hm := ite_f hm (of_decide_eq_false h486)
    refine c_exit ?_
    refine d_exit_then ?_
    refine d_exit_then ?_
    refine d_exit_block ?_
    replace hm := nx_out (C := (fun e => Sum.elim (fun e => m_law11_PlogBack_j1 x1) (fun x => some x) e = some r)) hm hnx2 hr2
    exact d_round () hm Nat.zero_lt_one ⟨rfl, trivial⟩ (fun W h => (((h.shut (t := 4) rfl).phi (fun _ hh => hh.1)).dropH (t := 100050) rfl).phi (fun W hφ => (q484 _ hφ)))
  ·
   replace hm := ite_f hm (of_decide_eq_false h485)
   refine g_no rfl rfl rfl rfl rfl h485 ?_
   refine g_v rfl (r_pick0 rfl h485) ?_
   refine g_nil ?_
   refine d_then ?_
   refine c_cond0 rfl rfl ?_
   refine c_exit ?_
   refine d_exit_then ?_
   refine d_exit_then ?_
   refine d_exit_block ?_
   replace hm := nx_out (C := (fun e => Sum.elim (fun e => m_law11_PlogBack_j1 x1) (fun x => some x) e = some r)) hm hnx2 hr2
   exact d_round () hm Nat.zero_lt_one ⟨rfl, trivial⟩ (fun W h => (((h.shut (t := 4) rfl).phi (fun _ hh => hh.1)).dropH (t := 100050) rfl).phi (fun W hφ => (q484 _ hφ)))
 ·
  unfold m_law11_PlogBack_j1 at hm
  refine d_flat [(3, .bool x1)] ⟨rfl, trivial⟩ (fun u => ?_)
  refine d_sta ⟨w0, M, H, R, φ⟩ (fun _ h => h) ?_
  refine d_then ?_
  refine c_seq ?_
  refine c_region ?_
  refine g_v rfl r_move ?_
  refine g_v rfl r_assign ?_
  refine g_nil ?_
  refine d_then ?_
  refine c_ret ?_
  replace hm := Option.some.inj hm
  subst hm
  refine d_retC () Try.results3 ?_ trivial (fun W h => ok_pre (H1 := []) (R1 := []) h (fun W hφ => hφ)) (.inr rfl)
  refine res_tmp ?_
  refine res_nil ?_
  exact rfl
end Go.Proofs.Ytildknbbpkbkeab
