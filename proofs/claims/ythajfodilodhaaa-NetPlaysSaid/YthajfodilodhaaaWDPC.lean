import Derived.Test.YthajfodilodhaaaWDPB
set_option maxRecDepth 100000
set_option maxHeartbeats 4000000
set_option linter.unusedVariables false
set_option linter.unusedSimpArgs false
namespace Go.Proofs.Ythajfodilodhaaa
open Go.RowKit Go.Proofs.YthajfodilodhaaaW.PrintLast
noncomputable def m_ref08_Net_datagrams_j1  (l102 : List GItem) : Option (List GItem) :=
  some l102
noncomputable def m_ref08_Net_datagrams_s2 (o0 : Gref08_Net) (l124 : List GItem) (i127 : Int) : Option (((List GItem) × Int) ⊕ (List GItem)) :=
  if i127 < (o0.fItems.length : Int) then
    (at_ o0.fItems i127).bind fun x149 =>
    if x149.fKind = 1 then
      (at_ o0.fItems i127).bind fun x155 =>
      (app 56 l124 [x155]).bind fun l160 =>
      some (.inl (l160, w64 (i127 + 1)))
    else
      some (.inl (l124, w64 (i127 + 1)))
  else
    some (.inr l124)
noncomputable def m_ref08_Net_datagrams (o0 : Gref08_Net) : Option (List GItem) :=
  (loop (fun s => m_ref08_Net_datagrams_s2 o0 s.1 s.2) (([] : List GItem), 0)).bind fun e => m_ref08_Net_datagrams_j1 e
theorem c_ref08_Net_datagrams {w0 : World} {M : Nat → Prop} {H : List (Nat × Nat × Obj)} {R : List (Nat × Row)} {φ : World → Prop} (go0 : Nat) (o0 : Gref08_Net) (Ao0_0 : Option Addr) (co0_0 : Nat) (hco0_0 : o0.fItems.length ≤ co0_0) (Ao0_1 : Option Addr) (co0_1 : Nat) (hco0_1 : o0.fConns.length ≤ co0_1) (r : (List GItem)) (hm : m_ref08_Net_datagrams o0 = some r) :
    Cn Try.prog 58 #[.pointer (some ⟨go0, 0, none⟩)] ⟨w0, M, (1000, go0, .cells #[.slice Ao0_0 o0.fItems.length co0_0, .slice Ao0_1 o0.fConns.length co0_1, .int .i64 o0.fLast, .int .i64 o0.fOpens] 55 (0, 0)) :: H, (1000, ⟨.slice Ao0_0 o0.fItems.length co0_0, 40, 6, o0.fItems.length, o0.fItems.flatMap GItem.enc⟩) :: (1001, ⟨.slice Ao0_1 o0.fConns.length co0_1, 77, 3, o0.fConns.length, o0.fConns.flatMap Gref08_Conn.enc⟩) :: R, φ⟩ (fun x : Option Addr × Nat => .slice x.1 r.length x.2) (fun x => r.length ≤ x.2) (fun x => ⟨w0, M, (1000, go0, .cells #[.slice Ao0_0 o0.fItems.length co0_0, .slice Ao0_1 o0.fConns.length co0_1, .int .i64 o0.fLast, .int .i64 o0.fOpens] 55 (0, 0)) :: H, (2000, ⟨.slice x.1 r.length x.2, 40, 6, r.length, r.flatMap GItem.enc⟩) :: (1000, ⟨.slice Ao0_0 o0.fItems.length co0_0, 40, 6, o0.fItems.length, o0.fItems.flatMap GItem.enc⟩) :: (1001, ⟨.slice Ao0_1 o0.fConns.length co0_1, 77, 3, o0.fConns.length, o0.fConns.flatMap Gref08_Conn.enc⟩) :: R, φ⟩) := by
 unfold m_ref08_Net_datagrams at hm
 refine cn_intro (fn := Try.f58) (N := 34) Try.func58 rfl Try.ntmps58 rfl <| c_seq <| c_region <| g_v rfl r_assign <| g_nil <| d_then <| c_seq <| c_region <| g_v rfl r_assign <| g_nil ?_
 refine d_then <| c_seq <| c_seq <| c_region <| g_v rfl r_assign <| g_nil <| d_then <| c_sta _ (fun W h => nilR h 13 40 6) ?_
 refine c_cut (ι := (List GItem) × Option Addr × Nat) [3] (fun ⟨l102, A103, c104⟩ => [(3, .slice A103 l102.length c104)]) (fun ⟨l102, A103, c104⟩ => ⟨w0, M, (1000, go0, .cells #[.slice Ao0_0 o0.fItems.length co0_0, .slice Ao0_1 o0.fConns.length co0_1, .int .i64 o0.fLast, .int .i64 o0.fOpens] 55 (0, 0)) :: H, (13, ⟨.slice A103 l102.length c104, 40, 6, l102.length, l102.flatMap GItem.enc⟩) :: (1000, ⟨.slice Ao0_0 o0.fItems.length co0_0, 40, 6, o0.fItems.length, o0.fItems.flatMap GItem.enc⟩) :: (1001, ⟨.slice Ao0_1 o0.fConns.length co0_1, 77, 3, o0.fConns.length, o0.fConns.flatMap Gref08_Conn.enc⟩) :: R, φ⟩) (fun ⟨l102, A103, c104⟩ => m_ref08_Net_datagrams_j1 l102 = some r ∧ l102.length ≤ c104) ?_ (fun ⟨l102, A103, c104⟩ u ⟨hm, hc104⟩ => ?_)
 ·
  refine c_block ?_
  replace hm := bnd hm
  obtain ⟨out2, hl2, hr2⟩ := hm
  obtain ⟨n147', hl2⟩ := loop_lp hl2
  refine c_loopU (ι := Nat × (List GItem) × Int × Option Addr × Nat) [0, 3, 4] (fun ⟨n147, l124, i127, A125, c126⟩ => [(3, .slice A125 l124.length c126), (4, .int .i64 i127)]) (fun ⟨n147, l124, i127, A125, c126⟩ => ⟨w0, M, (1000, go0, .cells #[.slice Ao0_0 o0.fItems.length co0_0, .slice Ao0_1 o0.fConns.length co0_1, .int .i64 o0.fLast, .int .i64 o0.fOpens] 55 (0, 0)) :: H, (13, ⟨.slice A125 l124.length c126, 40, 6, l124.length, l124.flatMap GItem.enc⟩) :: (1000, ⟨.slice Ao0_0 o0.fItems.length co0_0, 40, 6, o0.fItems.length, o0.fItems.flatMap GItem.enc⟩) :: (1001, ⟨.slice Ao0_1 o0.fConns.length co0_1, 77, 3, o0.fConns.length, o0.fConns.flatMap Gref08_Conn.enc⟩) :: R, φ⟩) (fun ⟨n147, l124, i127, A125, c126⟩ => Lp (fun s => m_ref08_Net_datagrams_s2 o0 s.1 s.2) n147 (l124, i127) out2 ∧ l124.length ≤ c126) (fun ⟨n147, l124, i127, A125, c126⟩ => n147) (n147', ([] : List GItem), 0, none, 0) ⟨hl2, (Nat.le_refl 0)⟩ ⟨rfl, rfl, rfl, trivial⟩ (fun W h => h.phi (fun W hφ => hφ)) (fun ⟨n147, l124, i127, A125, c126⟩ u ⟨hlp, hc126⟩ => ?_)
  obtain ⟨o2, hm, hnx2⟩ := lp_step hlp
  clear hlp
  replace hm : m_ref08_Net_datagrams_s2 o0 l124 i127 = some o2 := hm
  unfold m_ref08_Net_datagrams_s2 at hm
  refine c_flat [(0, .pointer (some ⟨go0, 0, none⟩)), (3, .slice A125 l124.length c126), (4, .int .i64 i127)] ⟨rfl, rfl, rfl, trivial⟩ (fun u => ?_)
  refine c_sta ⟨w0, M, (1000, go0, .cells #[.slice Ao0_0 o0.fItems.length co0_0, .slice Ao0_1 o0.fConns.length co0_1, .int .i64 o0.fLast, .int .i64 o0.fOpens] 55 (0, 0)) :: H, (13, ⟨.slice A125 l124.length c126, 40, 6, l124.length, l124.flatMap GItem.enc⟩) :: (1000, ⟨.slice Ao0_0 o0.fItems.length co0_0, 40, 6, o0.fItems.length, o0.fItems.flatMap GItem.enc⟩) :: (1001, ⟨.slice Ao0_1 o0.fConns.length co0_1, 77, 3, o0.fConns.length, o0.fConns.flatMap Gref08_Conn.enc⟩) :: R, φ⟩ (fun _ h => h) <| c_seq <| c_seq <| c_region <| g_v rfl r_move <| g_v rfl r_move <| g_v rfl (r_nilck rfl) <| g_v rfl (r_field (n := 0) Try.underlying55 rfl Try.sizeOf52 rfl rfl) <| g_v rfl (r_load (tag := 1000) rfl rfl rfl Try.isAgg52) <| g_v rfl (r_lenL Try.underlying52 rfl) ?_
  refine g_v rfl (r_lss rfl rfl) <| g_nil <| d_then ?_
  refine c_cond rfl (fun h148 => ?_) (fun h148 => ?_)
  ·
   replace hm := ite_t hm (of_decide_eq_true h148)
   refine c_skip <| d_then <| c_seq <| c_block <| c_seq <| c_region <| g_v rfl r_move <| g_v rfl (r_nilck rfl) <| g_v rfl (r_field (n := 0) Try.underlying55 rfl Try.sizeOf52 rfl rfl) <| g_v rfl (r_load (tag := 1000) rfl rfl rfl Try.isAgg52) ?_
   refine g_v rfl r_move ?_
   replace hm := bnd hm
   obtain ⟨x149, hx149, hm⟩ := hm
   refine g_know _ (fun W hS => cl_at (p := (Sta.ok ⟨w0, M, (1000, go0, .cells #[.slice Ao0_0 o0.fItems.length co0_0, .slice Ao0_1 o0.fConns.length co0_1, .int .i64 o0.fLast, .int .i64 o0.fOpens] 55 (0, 0)) :: H, (13, ⟨.slice A125 l124.length c126, 40, 6, l124.length, l124.flatMap GItem.enc⟩) :: (1000, ⟨.slice Ao0_0 o0.fItems.length co0_0, 40, 6, o0.fItems.length, o0.fItems.flatMap GItem.enc⟩) :: (1001, ⟨.slice Ao0_1 o0.fConns.length co0_1, 77, 3, o0.fConns.length, o0.fConns.flatMap Gref08_Conn.enc⟩) :: R, φ⟩)) (sz := 6) (fun _ => rfl) (by decide) hS (fun W hS => rowCl (S := ⟨w0, M, (1000, go0, .cells #[.slice Ao0_0 o0.fItems.length co0_0, .slice Ao0_1 o0.fConns.length co0_1, .int .i64 o0.fLast, .int .i64 o0.fOpens] 55 (0, 0)) :: H, (13, ⟨.slice A125 l124.length c126, 40, 6, l124.length, l124.flatMap GItem.enc⟩) :: (1000, ⟨.slice Ao0_0 o0.fItems.length co0_0, 40, 6, o0.fItems.length, o0.fItems.flatMap GItem.enc⟩) :: (1001, ⟨.slice Ao0_1 o0.fConns.length co0_1, 77, 3, o0.fConns.length, o0.fConns.flatMap Gref08_Conn.enc⟩) :: R, φ⟩) (tag := 1000) rfl W hS) hx149) ?_
   rintro ⟨ad150, hA152, f151⟩
   refine g_v rfl (r_ix Try.underlying52 Try.sizeOf40 rfl hA152 rfl hx149) ?_
   have f153 := fun (W : World) (h : (Sta.ok ⟨w0, M, (1000, go0, .cells #[.slice Ao0_0 o0.fItems.length co0_0, .slice Ao0_1 o0.fConns.length co0_1, .int .i64 o0.fLast, .int .i64 o0.fOpens] 55 (0, 0)) :: H, (13, ⟨.slice A125 l124.length c126, 40, 6, l124.length, l124.flatMap GItem.enc⟩) :: (1000, ⟨.slice Ao0_0 o0.fItems.length co0_0, 40, 6, o0.fItems.length, o0.fItems.flatMap GItem.enc⟩) :: (1001, ⟨.slice Ao0_1 o0.fConns.length co0_1, 77, 3, o0.fConns.length, o0.fConns.flatMap Gref08_Conn.enc⟩) :: R, φ⟩) W) => Cl.drop (f151 W h) 1
   refine g_v rfl (r_fieldF Try.underlying40 rfl Try.sizeOf3 rfl) <| g_v rfl (r_ld rfl Try.isAgg3 (fun W hS => Cl.head (f153 W hS))) <| g_v rfl (r_eql rfl rfl) <| g_nil <| d_then ?_
   refine c_flat [(0, .pointer (some ⟨go0, 0, none⟩)), (3, .slice A125 l124.length c126), (4, .int .i64 i127), (22, .bool (decide (x149.fKind = 1)))] ⟨rfl, rfl, rfl, rfl, trivial⟩ (fun u => ?_)
   refine c_cond rfl (fun h154 => ?_) (fun h154 => ?_)
   ·
    replace hm := ite_t hm (of_decide_eq_true h154)
    refine c_region <| g_v rfl r_move <| g_v rfl r_move <| g_v rfl (r_nilck rfl) <| g_v rfl (r_field (n := 0) Try.underlying55 rfl Try.sizeOf52 rfl rfl) <| g_v rfl (r_load (tag := 1000) rfl rfl rfl Try.isAgg52) <| g_v rfl r_move ?_
    replace hm := bnd hm
    obtain ⟨x155, hx155, hm⟩ := hm
    refine g_know _ (fun W hS => cl_at (p := (Sta.ok ⟨w0, M, (1000, go0, .cells #[.slice Ao0_0 o0.fItems.length co0_0, .slice Ao0_1 o0.fConns.length co0_1, .int .i64 o0.fLast, .int .i64 o0.fOpens] 55 (0, 0)) :: H, (13, ⟨.slice A125 l124.length c126, 40, 6, l124.length, l124.flatMap GItem.enc⟩) :: (1000, ⟨.slice Ao0_0 o0.fItems.length co0_0, 40, 6, o0.fItems.length, o0.fItems.flatMap GItem.enc⟩) :: (1001, ⟨.slice Ao0_1 o0.fConns.length co0_1, 77, 3, o0.fConns.length, o0.fConns.flatMap Gref08_Conn.enc⟩) :: R, φ⟩)) (sz := 6) (fun _ => rfl) (by decide) hS (fun W hS => rowCl (S := ⟨w0, M, (1000, go0, .cells #[.slice Ao0_0 o0.fItems.length co0_0, .slice Ao0_1 o0.fConns.length co0_1, .int .i64 o0.fLast, .int .i64 o0.fOpens] 55 (0, 0)) :: H, (13, ⟨.slice A125 l124.length c126, 40, 6, l124.length, l124.flatMap GItem.enc⟩) :: (1000, ⟨.slice Ao0_0 o0.fItems.length co0_0, 40, 6, o0.fItems.length, o0.fItems.flatMap GItem.enc⟩) :: (1001, ⟨.slice Ao0_1 o0.fConns.length co0_1, 77, 3, o0.fConns.length, o0.fConns.flatMap Gref08_Conn.enc⟩) :: R, φ⟩) (tag := 1000) rfl W hS) hx155) ?_
    rintro ⟨ad156, hA158, f157⟩
    refine g_v rfl (r_ix Try.underlying52 Try.sizeOf40 rfl hA158 rfl hx155) <| g_v rfl (r_ldA rfl Try.isAgg40 Try.sizeOf40 (fun W hS => (f157 W hS).take 6) rfl) ?_
    refine g_e rfl (e_lit (tag := 100310) (l := [x155]) (enc := GItem.enc) (sz := 6) rfl Try.underlying52 (lit40_2 _ _ _ _ _ _) rfl rfl (fun _ => rfl)) (fun g159 _ => ?_)
    replace hm := bnd hm
    obtain ⟨l160, hl160, hm⟩ := hm
    refine g_e rfl (e_appR (enc := GItem.enc) (l := l124) (l1 := [x155]) (l2 := l160) (tag := 13) Try.underlying52 inf40_3 rfl (by decide) (by decide) (fun _ => rfl) (fun _ => rfl) rfl hc126 rfl rfl (fun W hS => rowCl (tag := 100310) rfl W hS) hl160) (fun ⟨A161, c162⟩ hc162 => ?_)
    refine g_v rfl r_assign <| g_nil <| d_normal_block <| d_then ?_
    refine c_flat [(0, .pointer (some ⟨go0, 0, none⟩)), (3, .slice A161 l160.length c162), (4, .int .i64 i127)] ⟨rfl, rfl, rfl, trivial⟩ (fun u => ?_)
    refine c_sta ⟨w0, M, (1000, go0, .cells #[.slice Ao0_0 o0.fItems.length co0_0, .slice Ao0_1 o0.fConns.length co0_1, .int .i64 o0.fLast, .int .i64 o0.fOpens] 55 (0, 0)) :: H, (100310, ⟨.slice (some ⟨g159, 0, none⟩) [x155].length 1, 40, 6, [x155].length, [x155].flatMap GItem.enc⟩) :: (13, ⟨.slice A161 l160.length c162, 40, 6, l160.length, l160.flatMap GItem.enc⟩) :: (1000, ⟨.slice Ao0_0 o0.fItems.length co0_0, 40, 6, o0.fItems.length, o0.fItems.flatMap GItem.enc⟩) :: (1001, ⟨.slice Ao0_1 o0.fConns.length co0_1, 77, 3, o0.fConns.length, o0.fConns.flatMap Gref08_Conn.enc⟩) :: R, φ⟩ (fun _ h => h) <| c_region <| g_v rfl r_move <| g_v rfl (r_add rfl rfl rfl) <| g_v rfl r_assign <| g_nil ?_
    obtain ⟨n163, hn163, hlp⟩ := nx_inl hm hnx2
    exact d_round (n163, l160, w64 (i127 + 1), A161, c162) ⟨hlp, hc162⟩ hn163 ⟨rfl, rfl, rfl, trivial⟩ (fun W h => (h.dropR (t := 100310) rfl).phi (fun W hφ => hφ))
   ·
    replace hm := ite_f hm (of_decide_eq_false h154)
    refine c_skip <| d_normal_block <| d_then <| c_region <| g_v rfl r_move <| g_v rfl (r_add rfl rfl rfl) <| g_v rfl r_assign <| g_nil ?_
    obtain ⟨n164, hn164, hlp⟩ := nx_inl hm hnx2
    exact d_round (n164, l124, w64 (i127 + 1), A125, c126) ⟨hlp, hc126⟩ hn164 ⟨rfl, rfl, rfl, trivial⟩ (fun W h => h.phi (fun W hφ => hφ))
  ·
   replace hm := ite_f hm (of_decide_eq_false h148)
   refine c_exit <| d_exit_then <| d_exit_then <| d_exit_block ?_
   replace hm := nx_out (C := (fun e => m_ref08_Net_datagrams_j1 e = some r)) hm hnx2 hr2
   exact d_round (l124, A125, c126) ⟨hm, hc126⟩ Nat.zero_lt_one ⟨rfl, trivial⟩ (fun W h => h.phi (fun W hφ => hφ))
 ·
  unfold m_ref08_Net_datagrams_j1 at hm
  refine d_flat [(3, .slice A103 l102.length c104)] ⟨rfl, trivial⟩ (fun u => ?_)
  refine d_sta ⟨w0, M, (1000, go0, .cells #[.slice Ao0_0 o0.fItems.length co0_0, .slice Ao0_1 o0.fConns.length co0_1, .int .i64 o0.fLast, .int .i64 o0.fOpens] 55 (0, 0)) :: H, (13, ⟨.slice A103 l102.length c104, 40, 6, l102.length, l102.flatMap GItem.enc⟩) :: (1000, ⟨.slice Ao0_0 o0.fItems.length co0_0, 40, 6, o0.fItems.length, o0.fItems.flatMap GItem.enc⟩) :: (1001, ⟨.slice Ao0_1 o0.fConns.length co0_1, 77, 3, o0.fConns.length, o0.fConns.flatMap Gref08_Conn.enc⟩) :: R, φ⟩ (fun _ h => h) <| d_then <| c_seq <| c_region <| g_v rfl r_move <| g_v rfl r_assign <| g_nil <| d_then <| c_ret ?_
  replace hm := Option.some.inj hm
  subst hm
  refine d_sta _ (fun W h => ok_frontR (t := 13) (t' := 2000) h rfl) ?_
  refine d_retC (A103, c104) Try.results58 ?_ hc104 (fun W h => h.phi (fun W hφ => hφ)) (.inr rfl)
  refine res_tmp <| res_nil ?_
  exact rfl
noncomputable def m_ref08_Net_Drop (p1 : Int) (o0 : Gref08_Net) : Option (Bool × Gref08_Net) :=
  (m_ref08_Net_datagrams o0).bind fun x1 =>
  if (x1.length : Int) = 0 then
    some (false, o0)
  else
    (m_ref08_Pick p1 (x1.length : Int)).bind fun x7 =>
    (at_ x1 x7).bind fun x9 =>
    (m_ref08_Net_take x9 o0).bind fun x13 =>
    some (true, (⟨x13.fItems, o0.fConns, o0.fLast, o0.fOpens⟩ : Gref08_Net))
theorem c_ref08_Net_Drop {w0 : World} {M : Nat → Prop} {H : List (Nat × Nat × Obj)} {R : List (Nat × Row)} {φ : World → Prop} (p1 : Int) (go0 : Nat) (o0 : Gref08_Net) (Ao0_0 : Option Addr) (co0_0 : Nat) (hco0_0 : o0.fItems.length ≤ co0_0) (Ao0_1 : Option Addr) (co0_1 : Nat) (hco0_1 : o0.fConns.length ≤ co0_1) (r : Bool × Gref08_Net) (hm : m_ref08_Net_Drop p1 o0 = some r) :
    Cn Try.prog 48 #[.pointer (some ⟨go0, 0, none⟩), .int .i64 p1] ⟨w0, M, (1000, go0, .cells #[.slice Ao0_0 o0.fItems.length co0_0, .slice Ao0_1 o0.fConns.length co0_1, .int .i64 o0.fLast, .int .i64 o0.fOpens] 55 (0, 0)) :: H, (1000, ⟨.slice Ao0_0 o0.fItems.length co0_0, 40, 6, o0.fItems.length, o0.fItems.flatMap GItem.enc⟩) :: (1001, ⟨.slice Ao0_1 o0.fConns.length co0_1, 77, 3, o0.fConns.length, o0.fConns.flatMap Gref08_Conn.enc⟩) :: R, φ⟩ (fun x : Option Addr × Nat => .bool r.1) (fun x => r.2.fItems.length ≤ x.2) (fun x => ⟨w0, M, (1000, go0, .cells #[.slice x.1 r.2.fItems.length x.2, .slice Ao0_1 o0.fConns.length co0_1, .int .i64 o0.fLast, .int .i64 o0.fOpens] 55 (0, 0)) :: H, (2000, ⟨.slice x.1 r.2.fItems.length x.2, 40, 6, r.2.fItems.length, r.2.fItems.flatMap GItem.enc⟩) :: (1001, ⟨.slice Ao0_1 o0.fConns.length co0_1, 77, 3, o0.fConns.length, o0.fConns.flatMap Gref08_Conn.enc⟩) :: R, φ⟩) := by
 unfold m_ref08_Net_Drop at hm
 refine cn_intro (fn := Try.f48) (N := 20) Try.func48 rfl Try.ntmps48 rfl <| c_seq <| c_region <| g_v rfl r_assign <| g_nil <| d_then <| c_seq <| c_region <| g_v rfl r_move ?_
 replace hm := bnd hm
 obtain ⟨x1, hx2, hm⟩ := hm
 refine g_cn ⟨w0, M, (1000, go0, .cells #[.slice Ao0_0 o0.fItems.length co0_0, .slice Ao0_1 o0.fConns.length co0_1, .int .i64 o0.fLast, .int .i64 o0.fOpens] 55 (0, 0)) :: H, (1000, ⟨.slice Ao0_0 o0.fItems.length co0_0, 40, 6, o0.fItems.length, o0.fItems.flatMap GItem.enc⟩) :: (1001, ⟨.slice Ao0_1 o0.fConns.length co0_1, 77, 3, o0.fConns.length, o0.fConns.flatMap Gref08_Conn.enc⟩) :: R, φ⟩ (fun W h => (ok_front (t := 1000) (t' := 1000) (ok_frontR (t := 1000) (t' := 1000) (ok_frontR (t := 1001) (t' := 1001) h rfl) rfl) rfl)) Try.call58 rfl rfl (c_ref08_Net_datagrams go0 o0 Ao0_0 co0_0 hco0_0 Ao0_1 co0_1 hco0_1 _ hx2) (fun ⟨A3, c4⟩ hc4 => ?_)
 refine g_sta _ (fun W h => (ok_frontR (t := 2000) (t' := 100070) (ok_frontR (t := 1000) (t' := 1000) (ok_frontR (t := 1001) (t' := 1001) (ok_front (t := 1000) (t' := 1000) h rfl) rfl) rfl) rfl)) <| g_v rfl r_assign <| g_nil <| d_then <| c_seq <| c_seq <| c_region <| g_v rfl r_move <| g_v rfl (r_lenL Try.underlying52 rfl) <| g_v rfl (r_eql rfl rfl) ?_
 refine g_nil <| d_then ?_
 refine c_cond rfl (fun h6 => ?_) (fun h6 => ?_)
 ·
  replace hm := ite_t hm (of_decide_eq_true h6)
  refine c_seq <| c_region <| g_v rfl r_assign <| g_nil <| d_then <| c_ret <| d_ret_then ?_
  replace hm := Option.some.inj hm
  subst hm
  refine d_sta _ (fun W h => ok_frontR (t := 1000) (t' := 2000) h rfl) ?_
  refine d_retC (Ao0_0, co0_0) Try.results48 ?_ hco0_0 (fun W h => (h.dropR (t := 100070) rfl).phi (fun W hφ => hφ)) (.inr rfl)
  refine res_tmp <| res_nil ?_
  exact rfl
 ·
  replace hm := ite_f hm (of_decide_eq_false h6)
  refine c_skip <| d_then <| c_seq <| c_region <| g_v rfl r_move <| g_v rfl r_move <| g_v rfl r_move <| g_v rfl r_move <| g_v rfl (r_lenL Try.underlying52 rfl) ?_
  replace hm := bnd hm
  obtain ⟨x7, hx8, hm⟩ := hm
  refine g_cn ⟨w0, M, _, _, φ⟩ (fun _ h => h) Try.call11 rfl rfl (c_ref08_Pick p1 (x1.length : Int) _ hx8) (fun _ _ => ?_)
  replace hm := bnd hm
  obtain ⟨x9, hx9, hm⟩ := hm
  refine g_know _ (fun W hS => cl_at (p := (Sta.ok ⟨w0, M, (1000, go0, .cells #[.slice Ao0_0 o0.fItems.length co0_0, .slice Ao0_1 o0.fConns.length co0_1, .int .i64 o0.fLast, .int .i64 o0.fOpens] 55 (0, 0)) :: H, (100070, ⟨.slice A3 x1.length c4, 40, 6, x1.length, x1.flatMap GItem.enc⟩) :: (1000, ⟨.slice Ao0_0 o0.fItems.length co0_0, 40, 6, o0.fItems.length, o0.fItems.flatMap GItem.enc⟩) :: (1001, ⟨.slice Ao0_1 o0.fConns.length co0_1, 77, 3, o0.fConns.length, o0.fConns.flatMap Gref08_Conn.enc⟩) :: R, φ⟩)) (sz := 6) (fun _ => rfl) (by decide) hS (fun W hS => rowCl (S := ⟨w0, M, (1000, go0, .cells #[.slice Ao0_0 o0.fItems.length co0_0, .slice Ao0_1 o0.fConns.length co0_1, .int .i64 o0.fLast, .int .i64 o0.fOpens] 55 (0, 0)) :: H, (100070, ⟨.slice A3 x1.length c4, 40, 6, x1.length, x1.flatMap GItem.enc⟩) :: (1000, ⟨.slice Ao0_0 o0.fItems.length co0_0, 40, 6, o0.fItems.length, o0.fItems.flatMap GItem.enc⟩) :: (1001, ⟨.slice Ao0_1 o0.fConns.length co0_1, 77, 3, o0.fConns.length, o0.fConns.flatMap Gref08_Conn.enc⟩) :: R, φ⟩) (tag := 100070) rfl W hS) hx9) ?_
  rintro ⟨ad10, hA12, f11⟩
  refine g_v rfl (r_ix Try.underlying52 Try.sizeOf40 rfl hA12 rfl hx9) <| g_v rfl (r_ldA rfl Try.isAgg40 Try.sizeOf40 (fun W hS => (f11 W hS).take 6) rfl) ?_
  replace hm := bnd hm
  obtain ⟨x13, hx14, hm⟩ := hm
  refine g_cn ⟨w0, M, (1000, go0, .cells #[.slice Ao0_0 o0.fItems.length co0_0, .slice Ao0_1 o0.fConns.length co0_1, .int .i64 o0.fLast, .int .i64 o0.fOpens] 55 (0, 0)) :: H, (1000, ⟨.slice Ao0_0 o0.fItems.length co0_0, 40, 6, o0.fItems.length, o0.fItems.flatMap GItem.enc⟩) :: (1001, ⟨.slice Ao0_1 o0.fConns.length co0_1, 77, 3, o0.fConns.length, o0.fConns.flatMap Gref08_Conn.enc⟩) :: (100070, ⟨.slice A3 x1.length c4, 40, 6, x1.length, x1.flatMap GItem.enc⟩) :: R, φ⟩ (fun W h => (ok_front (t := 1000) (t' := 1000) (ok_frontR (t := 1000) (t' := 1000) (ok_frontR (t := 1001) (t' := 1001) h rfl) rfl) rfl)) Try.call57 rfl rfl (c_ref08_Net_take x9 go0 o0 Ao0_0 co0_0 hco0_0 Ao0_1 co0_1 hco0_1 _ hx14) (fun ⟨A15, c16⟩ hc16 => ?_)
  refine g_sta _ (fun W h => (ok_frontR (t := 2000) (t' := 1000) (ok_frontR (t := 1001) (t' := 1001) (ok_front (t := 1000) (t' := 1000) h rfl) rfl) rfl)) <| g_nil <| d_then ?_
  refine c_flat [] trivial (fun u => ?_)
  refine c_sta ⟨w0, M, (1000, go0, .cells #[.slice A15 x13.fItems.length c16, .slice Ao0_1 o0.fConns.length co0_1, .int .i64 o0.fLast, .int .i64 o0.fOpens] 55 (0, 0)) :: H, (1000, ⟨.slice A15 x13.fItems.length c16, 40, 6, x13.fItems.length, x13.fItems.flatMap GItem.enc⟩) :: (1001, ⟨.slice Ao0_1 o0.fConns.length co0_1, 77, 3, o0.fConns.length, o0.fConns.flatMap Gref08_Conn.enc⟩) :: (100070, ⟨.slice A3 x1.length c4, 40, 6, x1.length, x1.flatMap GItem.enc⟩) :: R, φ⟩ (fun _ h => h) <| c_seq <| c_region <| g_v rfl r_assign <| g_nil <| d_then <| c_ret ?_
  replace hm := Option.some.inj hm
  subst hm
  refine d_sta _ (fun W h => ok_frontR (t := 1000) (t' := 2000) h rfl) ?_
  refine d_retC (A15, c16) Try.results48 ?_ hc16 (fun W h => (h.dropR (t := 100070) rfl).phi (fun W hφ => hφ)) (.inr rfl)
  refine res_tmp <| res_nil ?_
  exact rfl
noncomputable def m_net_Net_Double (p1 : Int) (o0 : Gnet_Net) : Option (Bool × Gnet_Net) :=
  (m_net_Net_picked_2 p1 o0).bind fun (z4 : Int × Bool) =>
  if z4.2 = true then
    (m_net_Net_full o0).bind fun x6 =>
    if x6 = true then
      some (false, o0)
    else
      (at_ o0.fitems z4.1).bind fun x9 =>
      (m_net_Net_add x9 o0).bind fun x13 =>
      some (true, (⟨x13.fitems, o0.fconns, x13.flast, o0.fopens⟩ : Gnet_Net))
  else
    some (false, o0)
theorem c_net_Net_Double {w0 : World} {M : Nat → Prop} {H : List (Nat × Nat × Obj)} {R : List (Nat × Row)} {φ : World → Prop} (p1 : Int) (go0 : Nat) (o0 : Gnet_Net) (Ao0_0 : Option Addr) (co0_0 : Nat) (hco0_0 : o0.fitems.length ≤ co0_0) (Ao0_1 : Option Addr) (co0_1 : Nat) (hco0_1 : o0.fconns.length ≤ co0_1) (r : Bool × Gnet_Net) (hm : m_net_Net_Double p1 o0 = some r) :
    Cn Try.prog 16 #[.pointer (some ⟨go0, 0, none⟩), .int .i64 p1] ⟨w0, M, (1000, go0, .cells #[.slice Ao0_0 o0.fitems.length co0_0, .slice Ao0_1 o0.fconns.length co0_1, .int .i64 o0.flast, .int .i64 o0.fopens] 61 (0, 0)) :: H, (1000, ⟨.slice Ao0_0 o0.fitems.length co0_0, 40, 6, o0.fitems.length, o0.fitems.flatMap GItem.enc⟩) :: (1001, ⟨.slice Ao0_1 o0.fconns.length co0_1, 63, 3, o0.fconns.length, o0.fconns.flatMap Gnet_conn.enc⟩) :: R, φ⟩ (fun x : Option Addr × Nat => .bool r.1) (fun x => r.2.fitems.length ≤ x.2) (fun x => ⟨w0, M, (1000, go0, .cells #[.slice x.1 r.2.fitems.length x.2, .slice Ao0_1 o0.fconns.length co0_1, .int .i64 r.2.flast, .int .i64 o0.fopens] 61 (0, 0)) :: H, (2000, ⟨.slice x.1 r.2.fitems.length x.2, 40, 6, r.2.fitems.length, r.2.fitems.flatMap GItem.enc⟩) :: (1001, ⟨.slice Ao0_1 o0.fconns.length co0_1, 63, 3, o0.fconns.length, o0.fconns.flatMap Gnet_conn.enc⟩) :: R, φ⟩) := by
 unfold m_net_Net_Double at hm
 refine cn_intro (fn := Try.f16) (N := 28) Try.func16 rfl Try.ntmps16 rfl <| c_seq <| c_region <| g_v rfl r_assign <| g_nil <| d_then <| c_seq <| c_region <| g_v rfl r_move <| g_v rfl r_move ?_
 replace hm := bnd hm
 obtain ⟨⟨x1, x2⟩, hx3, hm⟩ := hm
 refine g_cn ⟨w0, M, (1000, go0, .cells #[.slice Ao0_0 o0.fitems.length co0_0, .slice Ao0_1 o0.fconns.length co0_1, .int .i64 o0.flast, .int .i64 o0.fopens] 61 (0, 0)) :: H, (1000, ⟨.slice Ao0_0 o0.fitems.length co0_0, 40, 6, o0.fitems.length, o0.fitems.flatMap GItem.enc⟩) :: (1001, ⟨.slice Ao0_1 o0.fconns.length co0_1, 63, 3, o0.fconns.length, o0.fconns.flatMap Gnet_conn.enc⟩) :: R, φ⟩ (fun W h => (ok_front (t := 1000) (t' := 1000) (ok_frontR (t := 1000) (t' := 1000) (ok_frontR (t := 1001) (t' := 1001) h rfl) rfl) rfl)) Try.call34 rfl rfl (c_net_Net_picked_2 p1 go0 o0 Ao0_0 co0_0 hco0_0 Ao0_1 co0_1 hco0_1 _ hx3) (fun _ _ => ?_)
 refine g_sta _ (fun W h => (ok_frontR (t := 1000) (t' := 1000) (ok_frontR (t := 1001) (t' := 1001) (ok_front (t := 1000) (t' := 1000) h rfl) rfl) rfl)) <| g_v rfl r_move <| g_v rfl (r_extract rfl rfl) <| g_v rfl (r_extract rfl rfl) <| g_v rfl r_assign <| g_v rfl r_assign <| g_nil <| d_then ?_
 refine c_flat [(0, .pointer (some ⟨go0, 0, none⟩)), (5, .int .i64 x1), (6, .bool x2)] ⟨rfl, rfl, rfl, trivial⟩ (fun u => ?_)
 refine c_sta ⟨w0, M, (1000, go0, .cells #[.slice Ao0_0 o0.fitems.length co0_0, .slice Ao0_1 o0.fconns.length co0_1, .int .i64 o0.flast, .int .i64 o0.fopens] 61 (0, 0)) :: H, (1000, ⟨.slice Ao0_0 o0.fitems.length co0_0, 40, 6, o0.fitems.length, o0.fitems.flatMap GItem.enc⟩) :: (1001, ⟨.slice Ao0_1 o0.fconns.length co0_1, 63, 3, o0.fconns.length, o0.fconns.flatMap Gnet_conn.enc⟩) :: R, φ⟩ (fun _ h => h) <| c_seq <| c_seq <| c_region <| g_v rfl r_move <| g_v rfl (r_not rfl) <| g_v rfl r_move ?_
 refine g_if rfl rfl rfl rfl rfl (fun h5 => ?_) (fun h5 => ?_)
 ·
  have h5' : x2 = true := by revert h5; cases x2 <;> simp
  replace hm := ite_t hm h5'
  refine g_v rfl r_move <| g_do rfl rfl rfl rfl rfl h5 ?_
  replace hm := bnd hm
  obtain ⟨x6, hx7, hm⟩ := hm
  refine g_cn ⟨w0, M, (1000, go0, .cells #[.slice Ao0_0 o0.fitems.length co0_0, .slice Ao0_1 o0.fconns.length co0_1, .int .i64 o0.flast, .int .i64 o0.fopens] 61 (0, 0)) :: H, (1000, ⟨.slice Ao0_0 o0.fitems.length co0_0, 40, 6, o0.fitems.length, o0.fitems.flatMap GItem.enc⟩) :: (1001, ⟨.slice Ao0_1 o0.fconns.length co0_1, 63, 3, o0.fconns.length, o0.fconns.flatMap Gnet_conn.enc⟩) :: R, φ⟩ (fun W h => (ok_front (t := 1000) (t' := 1000) (ok_frontR (t := 1000) (t' := 1000) (ok_frontR (t := 1001) (t' := 1001) h rfl) rfl) rfl)) Try.call27 rfl rfl (c_net_Net_full go0 o0 Ao0_0 co0_0 hco0_0 Ao0_1 co0_1 hco0_1 _ hx7) (fun _ _ => ?_)
  refine g_sta _ (fun W h => (ok_frontR (t := 1000) (t' := 1000) (ok_frontR (t := 1001) (t' := 1001) (ok_front (t := 1000) (t' := 1000) h rfl) rfl) rfl)) <| g_v rfl (r_pick0 rfl h5) <| g_nil <| d_then ?_
  refine c_cond rfl (fun h8 => ?_) (fun h8 => ?_)
  ·
   replace hm := ite_t hm h8
   refine c_seq <| c_region <| g_v rfl r_assign <| g_nil <| d_then <| c_ret <| d_ret_then ?_
   replace hm := Option.some.inj hm
   subst hm
   refine d_sta _ (fun W h => ok_frontR (t := 1000) (t' := 2000) h rfl) ?_
   refine d_retC (Ao0_0, co0_0) Try.results16 ?_ hco0_0 (fun W h => h.phi (fun W hφ => hφ)) (.inr rfl)
   refine res_tmp <| res_nil ?_
   exact rfl
  ·
   replace hm := ite_f hm (bool_nt h8)
   refine c_skip <| d_then <| c_seq <| c_region <| g_v rfl r_move <| g_v rfl r_move <| g_v rfl (r_nilck rfl) <| g_v rfl (r_field (n := 0) Try.underlying61 rfl Try.sizeOf52 rfl rfl) <| g_v rfl (r_load (tag := 1000) rfl rfl rfl Try.isAgg52) <| g_v rfl r_move ?_
   replace hm := bnd hm
   obtain ⟨x9, hx9, hm⟩ := hm
   refine g_know _ (fun W hS => cl_at (p := (Sta.ok ⟨w0, M, (1000, go0, .cells #[.slice Ao0_0 o0.fitems.length co0_0, .slice Ao0_1 o0.fconns.length co0_1, .int .i64 o0.flast, .int .i64 o0.fopens] 61 (0, 0)) :: H, (1000, ⟨.slice Ao0_0 o0.fitems.length co0_0, 40, 6, o0.fitems.length, o0.fitems.flatMap GItem.enc⟩) :: (1001, ⟨.slice Ao0_1 o0.fconns.length co0_1, 63, 3, o0.fconns.length, o0.fconns.flatMap Gnet_conn.enc⟩) :: R, φ⟩)) (sz := 6) (fun _ => rfl) (by decide) hS (fun W hS => rowCl (S := ⟨w0, M, (1000, go0, .cells #[.slice Ao0_0 o0.fitems.length co0_0, .slice Ao0_1 o0.fconns.length co0_1, .int .i64 o0.flast, .int .i64 o0.fopens] 61 (0, 0)) :: H, (1000, ⟨.slice Ao0_0 o0.fitems.length co0_0, 40, 6, o0.fitems.length, o0.fitems.flatMap GItem.enc⟩) :: (1001, ⟨.slice Ao0_1 o0.fconns.length co0_1, 63, 3, o0.fconns.length, o0.fconns.flatMap Gnet_conn.enc⟩) :: R, φ⟩) (tag := 1000) rfl W hS) hx9) ?_
   rintro ⟨ad10, hA12, f11⟩
   refine g_v rfl (r_ix Try.underlying52 Try.sizeOf40 rfl hA12 rfl hx9) <| g_v rfl (r_ldA rfl Try.isAgg40 Try.sizeOf40 (fun W hS => (f11 W hS).take 6) rfl) ?_
   replace hm := bnd hm
   obtain ⟨x13, hx14, hm⟩ := hm
   refine g_cn ⟨w0, M, (1000, go0, .cells #[.slice Ao0_0 o0.fitems.length co0_0, .slice Ao0_1 o0.fconns.length co0_1, .int .i64 o0.flast, .int .i64 o0.fopens] 61 (0, 0)) :: H, (1000, ⟨.slice Ao0_0 o0.fitems.length co0_0, 40, 6, o0.fitems.length, o0.fitems.flatMap GItem.enc⟩) :: (1001, ⟨.slice Ao0_1 o0.fconns.length co0_1, 63, 3, o0.fconns.length, o0.fconns.flatMap Gnet_conn.enc⟩) :: R, φ⟩ (fun W h => (ok_front (t := 1000) (t' := 1000) (ok_frontR (t := 1000) (t' := 1000) (ok_frontR (t := 1001) (t' := 1001) h rfl) rfl) rfl)) Try.call28 rfl rfl (c_net_Net_add x9 go0 o0 Ao0_0 co0_0 hco0_0 Ao0_1 co0_1 hco0_1 _ hx14) (fun ⟨A15, c16⟩ hc16 => ?_)
   refine g_sta _ (fun W h => (ok_frontR (t := 2000) (t' := 1000) (ok_frontR (t := 1001) (t' := 1001) (ok_front (t := 1000) (t' := 1000) h rfl) rfl) rfl)) <| g_nil <| d_then ?_
   refine c_flat [] trivial (fun u => ?_)
   refine c_sta ⟨w0, M, (1000, go0, .cells #[.slice A15 x13.fitems.length c16, .slice Ao0_1 o0.fconns.length co0_1, .int .i64 x13.flast, .int .i64 o0.fopens] 61 (0, 0)) :: H, (1000, ⟨.slice A15 x13.fitems.length c16, 40, 6, x13.fitems.length, x13.fitems.flatMap GItem.enc⟩) :: (1001, ⟨.slice Ao0_1 o0.fconns.length co0_1, 63, 3, o0.fconns.length, o0.fconns.flatMap Gnet_conn.enc⟩) :: R, φ⟩ (fun _ h => h) <| c_seq <| c_region <| g_v rfl r_assign <| g_nil <| d_then <| c_ret ?_
   replace hm := Option.some.inj hm
   subst hm
   refine d_sta _ (fun W h => ok_frontR (t := 1000) (t' := 2000) h rfl) ?_
   refine d_retC (A15, c16) Try.results16 ?_ hc16 (fun W h => h.phi (fun W hφ => hφ)) (.inr rfl)
   refine res_tmp <| res_nil ?_
   exact rfl
 ·
  have h5' : x2 = false := by revert h5; cases x2 <;> simp
  replace hm := ite_f hm (bool_nt h5')
  refine g_no rfl rfl rfl rfl rfl h5 <| g_v rfl (r_pick1 rfl h5) <| g_nil <| d_then <| c_cond1 rfl rfl <| c_seq <| c_region <| g_v rfl r_assign <| g_nil <| d_then ?_
  refine c_ret <| d_ret_then ?_
  replace hm := Option.some.inj hm
  subst hm
  refine d_sta _ (fun W h => ok_frontR (t := 1000) (t' := 2000) h rfl) ?_
  refine d_retC (Ao0_0, co0_0) Try.results16 ?_ hco0_0 (fun W h => h.phi (fun W hφ => hφ)) (.inr rfl)
  refine res_tmp <| res_nil ?_
  exact rfl
noncomputable def m_ref08_Net_Double (p1 : Int) (o0 : Gref08_Net) : Option (Bool × Gref08_Net) :=
  (m_ref08_Net_datagrams o0).bind fun x1 =>
  if (x1.length : Int) = 0 then
    some (false, o0)
  else
    if 1024 ≤ (o0.fItems.length : Int) then
      some (false, o0)
    else
      (m_ref08_Pick p1 (x1.length : Int)).bind fun x8 =>
      (at_ x1 x8).bind fun x10 =>
      (m_ref08_Net_add x10 o0).bind fun x14 =>
      some (true, (⟨x14.fItems, o0.fConns, x14.fLast, o0.fOpens⟩ : Gref08_Net))
theorem c_ref08_Net_Double {w0 : World} {M : Nat → Prop} {H : List (Nat × Nat × Obj)} {R : List (Nat × Row)} {φ : World → Prop} (p1 : Int) (go0 : Nat) (o0 : Gref08_Net) (Ao0_0 : Option Addr) (co0_0 : Nat) (hco0_0 : o0.fItems.length ≤ co0_0) (Ao0_1 : Option Addr) (co0_1 : Nat) (hco0_1 : o0.fConns.length ≤ co0_1) (r : Bool × Gref08_Net) (hm : m_ref08_Net_Double p1 o0 = some r) :
    Cn Try.prog 49 #[.pointer (some ⟨go0, 0, none⟩), .int .i64 p1] ⟨w0, M, (1000, go0, .cells #[.slice Ao0_0 o0.fItems.length co0_0, .slice Ao0_1 o0.fConns.length co0_1, .int .i64 o0.fLast, .int .i64 o0.fOpens] 55 (0, 0)) :: H, (1000, ⟨.slice Ao0_0 o0.fItems.length co0_0, 40, 6, o0.fItems.length, o0.fItems.flatMap GItem.enc⟩) :: (1001, ⟨.slice Ao0_1 o0.fConns.length co0_1, 77, 3, o0.fConns.length, o0.fConns.flatMap Gref08_Conn.enc⟩) :: R, φ⟩ (fun x : Option Addr × Nat => .bool r.1) (fun x => r.2.fItems.length ≤ x.2) (fun x => ⟨w0, M, (1000, go0, .cells #[.slice x.1 r.2.fItems.length x.2, .slice Ao0_1 o0.fConns.length co0_1, .int .i64 r.2.fLast, .int .i64 o0.fOpens] 55 (0, 0)) :: H, (2000, ⟨.slice x.1 r.2.fItems.length x.2, 40, 6, r.2.fItems.length, r.2.fItems.flatMap GItem.enc⟩) :: (1001, ⟨.slice Ao0_1 o0.fConns.length co0_1, 77, 3, o0.fConns.length, o0.fConns.flatMap Gref08_Conn.enc⟩) :: R, φ⟩) := by
 unfold m_ref08_Net_Double at hm
 refine cn_intro (fn := Try.f49) (N := 28) Try.func49 rfl Try.ntmps49 rfl <| c_seq <| c_region <| g_v rfl r_assign <| g_nil <| d_then <| c_seq <| c_region <| g_v rfl r_move ?_
 replace hm := bnd hm
 obtain ⟨x1, hx2, hm⟩ := hm
 refine g_cn ⟨w0, M, (1000, go0, .cells #[.slice Ao0_0 o0.fItems.length co0_0, .slice Ao0_1 o0.fConns.length co0_1, .int .i64 o0.fLast, .int .i64 o0.fOpens] 55 (0, 0)) :: H, (1000, ⟨.slice Ao0_0 o0.fItems.length co0_0, 40, 6, o0.fItems.length, o0.fItems.flatMap GItem.enc⟩) :: (1001, ⟨.slice Ao0_1 o0.fConns.length co0_1, 77, 3, o0.fConns.length, o0.fConns.flatMap Gref08_Conn.enc⟩) :: R, φ⟩ (fun W h => (ok_front (t := 1000) (t' := 1000) (ok_frontR (t := 1000) (t' := 1000) (ok_frontR (t := 1001) (t' := 1001) h rfl) rfl) rfl)) Try.call58 rfl rfl (c_ref08_Net_datagrams go0 o0 Ao0_0 co0_0 hco0_0 Ao0_1 co0_1 hco0_1 _ hx2) (fun ⟨A3, c4⟩ hc4 => ?_)
 refine g_sta _ (fun W h => (ok_frontR (t := 2000) (t' := 100070) (ok_frontR (t := 1000) (t' := 1000) (ok_frontR (t := 1001) (t' := 1001) (ok_front (t := 1000) (t' := 1000) h rfl) rfl) rfl) rfl)) <| g_v rfl r_assign <| g_nil <| d_then <| c_seq <| c_seq <| c_region <| g_v rfl r_move <| g_v rfl (r_lenL Try.underlying52 rfl) <| g_v rfl (r_eql rfl rfl) ?_
 refine g_v rfl r_move ?_
 refine g_if rfl rfl rfl rfl rfl (fun h6 => ?_) (fun h6 => ?_)
 ·
  replace hm := ite_f hm (of_decide_eq_false h6)
  refine g_v rfl r_move <| g_do rfl rfl rfl rfl rfl h6 <| g_v rfl (r_nilck rfl) <| g_do rfl rfl rfl rfl rfl h6 <| g_v rfl (r_field (n := 0) Try.underlying55 rfl Try.sizeOf52 rfl rfl) <| g_do rfl rfl rfl rfl rfl h6 <| g_v rfl (r_load (tag := 1000) rfl rfl rfl Try.isAgg52) <| g_do rfl rfl rfl rfl rfl h6 <| g_v rfl (r_lenL Try.underlying52 rfl) <| g_do rfl rfl rfl rfl rfl h6 ?_
  refine g_v rfl (r_geq rfl rfl) <| g_v rfl (r_pick0 rfl h6) <| g_nil <| d_then ?_
  refine c_flat [(0, .pointer (some ⟨go0, 0, none⟩)), (1, .int .i64 p1), (5, .slice A3 x1.length c4), (18, .bool (decide (1024 ≤ (o0.fItems.length : Int))))] ⟨rfl, rfl, rfl, rfl, trivial⟩ (fun u => ?_)
  refine c_sta ⟨w0, M, (1000, go0, .cells #[.slice Ao0_0 o0.fItems.length co0_0, .slice Ao0_1 o0.fConns.length co0_1, .int .i64 o0.fLast, .int .i64 o0.fOpens] 55 (0, 0)) :: H, (100070, ⟨.slice A3 x1.length c4, 40, 6, x1.length, x1.flatMap GItem.enc⟩) :: (1000, ⟨.slice Ao0_0 o0.fItems.length co0_0, 40, 6, o0.fItems.length, o0.fItems.flatMap GItem.enc⟩) :: (1001, ⟨.slice Ao0_1 o0.fConns.length co0_1, 77, 3, o0.fConns.length, o0.fConns.flatMap Gref08_Conn.enc⟩) :: R, φ⟩ (fun _ h => h) ?_
  refine c_cond rfl (fun h7 => ?_) (fun h7 => ?_)
  ·
   replace hm := ite_t hm (of_decide_eq_true h7)
   refine c_seq <| c_region <| g_v rfl r_assign <| g_nil <| d_then <| c_ret <| d_ret_then ?_
   replace hm := Option.some.inj hm
   subst hm
   refine d_sta _ (fun W h => ok_frontR (t := 1000) (t' := 2000) h rfl) ?_
   refine d_retC (Ao0_0, co0_0) Try.results49 ?_ hco0_0 (fun W h => (h.dropR (t := 100070) rfl).phi (fun W hφ => hφ)) (.inr rfl)
   refine res_tmp <| res_nil ?_
   exact rfl
  ·
   replace hm := ite_f hm (of_decide_eq_false h7)
   refine c_skip <| d_then <| c_seq <| c_region <| g_v rfl r_move <| g_v rfl r_move <| g_v rfl r_move <| g_v rfl r_move <| g_v rfl (r_lenL Try.underlying52 rfl) ?_
   replace hm := bnd hm
   obtain ⟨x8, hx9, hm⟩ := hm
   refine g_cn ⟨w0, M, _, _, φ⟩ (fun _ h => h) Try.call11 rfl rfl (c_ref08_Pick p1 (x1.length : Int) _ hx9) (fun _ _ => ?_)
   replace hm := bnd hm
   obtain ⟨x10, hx10, hm⟩ := hm
   refine g_know _ (fun W hS => cl_at (p := (Sta.ok ⟨w0, M, (1000, go0, .cells #[.slice Ao0_0 o0.fItems.length co0_0, .slice Ao0_1 o0.fConns.length co0_1, .int .i64 o0.fLast, .int .i64 o0.fOpens] 55 (0, 0)) :: H, (100070, ⟨.slice A3 x1.length c4, 40, 6, x1.length, x1.flatMap GItem.enc⟩) :: (1000, ⟨.slice Ao0_0 o0.fItems.length co0_0, 40, 6, o0.fItems.length, o0.fItems.flatMap GItem.enc⟩) :: (1001, ⟨.slice Ao0_1 o0.fConns.length co0_1, 77, 3, o0.fConns.length, o0.fConns.flatMap Gref08_Conn.enc⟩) :: R, φ⟩)) (sz := 6) (fun _ => rfl) (by decide) hS (fun W hS => rowCl (S := ⟨w0, M, (1000, go0, .cells #[.slice Ao0_0 o0.fItems.length co0_0, .slice Ao0_1 o0.fConns.length co0_1, .int .i64 o0.fLast, .int .i64 o0.fOpens] 55 (0, 0)) :: H, (100070, ⟨.slice A3 x1.length c4, 40, 6, x1.length, x1.flatMap GItem.enc⟩) :: (1000, ⟨.slice Ao0_0 o0.fItems.length co0_0, 40, 6, o0.fItems.length, o0.fItems.flatMap GItem.enc⟩) :: (1001, ⟨.slice Ao0_1 o0.fConns.length co0_1, 77, 3, o0.fConns.length, o0.fConns.flatMap Gref08_Conn.enc⟩) :: R, φ⟩) (tag := 100070) rfl W hS) hx10) ?_
   rintro ⟨ad11, hA13, f12⟩
   refine g_v rfl (r_ix Try.underlying52 Try.sizeOf40 rfl hA13 rfl hx10) <| g_v rfl (r_ldA rfl Try.isAgg40 Try.sizeOf40 (fun W hS => (f12 W hS).take 6) rfl) ?_
   replace hm := bnd hm
   obtain ⟨x14, hx15, hm⟩ := hm
   refine g_cn ⟨w0, M, (1000, go0, .cells #[.slice Ao0_0 o0.fItems.length co0_0, .slice Ao0_1 o0.fConns.length co0_1, .int .i64 o0.fLast, .int .i64 o0.fOpens] 55 (0, 0)) :: H, (1000, ⟨.slice Ao0_0 o0.fItems.length co0_0, 40, 6, o0.fItems.length, o0.fItems.flatMap GItem.enc⟩) :: (1001, ⟨.slice Ao0_1 o0.fConns.length co0_1, 77, 3, o0.fConns.length, o0.fConns.flatMap Gref08_Conn.enc⟩) :: (100070, ⟨.slice A3 x1.length c4, 40, 6, x1.length, x1.flatMap GItem.enc⟩) :: R, φ⟩ (fun W h => (ok_front (t := 1000) (t' := 1000) (ok_frontR (t := 1000) (t' := 1000) (ok_frontR (t := 1001) (t' := 1001) h rfl) rfl) rfl)) Try.call55 rfl rfl (c_ref08_Net_add x10 go0 o0 Ao0_0 co0_0 hco0_0 Ao0_1 co0_1 hco0_1 _ hx15) (fun ⟨A16, c17⟩ hc17 => ?_)
   refine g_sta _ (fun W h => (ok_frontR (t := 2000) (t' := 1000) (ok_frontR (t := 1001) (t' := 1001) (ok_front (t := 1000) (t' := 1000) h rfl) rfl) rfl)) <| g_nil <| d_then ?_
   refine c_flat [] trivial (fun u => ?_)
   refine c_sta ⟨w0, M, (1000, go0, .cells #[.slice A16 x14.fItems.length c17, .slice Ao0_1 o0.fConns.length co0_1, .int .i64 x14.fLast, .int .i64 o0.fOpens] 55 (0, 0)) :: H, (1000, ⟨.slice A16 x14.fItems.length c17, 40, 6, x14.fItems.length, x14.fItems.flatMap GItem.enc⟩) :: (1001, ⟨.slice Ao0_1 o0.fConns.length co0_1, 77, 3, o0.fConns.length, o0.fConns.flatMap Gref08_Conn.enc⟩) :: (100070, ⟨.slice A3 x1.length c4, 40, 6, x1.length, x1.flatMap GItem.enc⟩) :: R, φ⟩ (fun _ h => h) <| c_seq <| c_region <| g_v rfl r_assign <| g_nil <| d_then <| c_ret ?_
   replace hm := Option.some.inj hm
   subst hm
   refine d_sta _ (fun W h => ok_frontR (t := 1000) (t' := 2000) h rfl) ?_
   refine d_retC (A16, c17) Try.results49 ?_ hc17 (fun W h => (h.dropR (t := 100070) rfl).phi (fun W hφ => hφ)) (.inr rfl)
   refine res_tmp <| res_nil ?_
   exact rfl
 ·
  replace hm := ite_t hm (of_decide_eq_true h6)
  refine g_no rfl rfl rfl rfl rfl h6 <| g_no rfl rfl rfl rfl rfl h6 <| g_no rfl rfl rfl rfl rfl h6 <| g_no rfl rfl rfl rfl rfl h6 <| g_no rfl rfl rfl rfl rfl h6 <| g_v rfl (r_pick1 rfl h6) <| g_nil <| d_then ?_
  refine c_flat [(0, .pointer (some ⟨go0, 0, none⟩)), (1, .int .i64 p1), (5, .slice A3 x1.length c4), (18, .bool true)] ⟨rfl, rfl, rfl, rfl, trivial⟩ (fun u => ?_)
  refine c_sta ⟨w0, M, (1000, go0, .cells #[.slice Ao0_0 o0.fItems.length co0_0, .slice Ao0_1 o0.fConns.length co0_1, .int .i64 o0.fLast, .int .i64 o0.fOpens] 55 (0, 0)) :: H, (100070, ⟨.slice A3 x1.length c4, 40, 6, x1.length, x1.flatMap GItem.enc⟩) :: (1000, ⟨.slice Ao0_0 o0.fItems.length co0_0, 40, 6, o0.fItems.length, o0.fItems.flatMap GItem.enc⟩) :: (1001, ⟨.slice Ao0_1 o0.fConns.length co0_1, 77, 3, o0.fConns.length, o0.fConns.flatMap Gref08_Conn.enc⟩) :: R, φ⟩ (fun _ h => h) <| c_cond1 rfl rfl <| c_seq <| c_region <| g_v rfl r_assign <| g_nil <| d_then <| c_ret <| d_ret_then ?_
  replace hm := Option.some.inj hm
  subst hm
  refine d_sta _ (fun W h => ok_frontR (t := 1000) (t' := 2000) h rfl) ?_
  refine d_retC (Ao0_0, co0_0) Try.results49 ?_ hco0_0 (fun W h => (h.dropR (t := 100070) rfl).phi (fun W hφ => hφ)) (.inr rfl)
  refine res_tmp <| res_nil ?_
  exact rfl
noncomputable def m_ref08_Net_Send (p1 : Int) (p2 : Int) (p3 : ByteArray) (o0 : Gref08_Net) : Option (Bool × Gref08_Net) :=
  if 1024 ≤ (o0.fItems.length : Int) then
    some (false, o0)
  else
    (m_ref08_Net_add (⟨0, 1, p1, p2, 0, p3⟩ : GItem) o0).bind fun x2 =>
    some (true, (⟨x2.fItems, o0.fConns, x2.fLast, o0.fOpens⟩ : Gref08_Net))
theorem c_ref08_Net_Send {w0 : World} {M : Nat → Prop} {H : List (Nat × Nat × Obj)} {R : List (Nat × Row)} {φ : World → Prop} (p1 : Int) (p2 : Int) (p3 : ByteArray) (go0 : Nat) (o0 : Gref08_Net) (Ao0_0 : Option Addr) (co0_0 : Nat) (hco0_0 : o0.fItems.length ≤ co0_0) (Ao0_1 : Option Addr) (co0_1 : Nat) (hco0_1 : o0.fConns.length ≤ co0_1) (r : Bool × Gref08_Net) (hm : m_ref08_Net_Send p1 p2 p3 o0 = some r) :
    Cn Try.prog 50 #[.pointer (some ⟨go0, 0, none⟩), .int .i64 p1, .int .i64 p2, .string p3] ⟨w0, M, (1000, go0, .cells #[.slice Ao0_0 o0.fItems.length co0_0, .slice Ao0_1 o0.fConns.length co0_1, .int .i64 o0.fLast, .int .i64 o0.fOpens] 55 (0, 0)) :: H, (1000, ⟨.slice Ao0_0 o0.fItems.length co0_0, 40, 6, o0.fItems.length, o0.fItems.flatMap GItem.enc⟩) :: (1001, ⟨.slice Ao0_1 o0.fConns.length co0_1, 77, 3, o0.fConns.length, o0.fConns.flatMap Gref08_Conn.enc⟩) :: R, φ⟩ (fun x : Option Addr × Nat => .bool r.1) (fun x => r.2.fItems.length ≤ x.2) (fun x => ⟨w0, M, (1000, go0, .cells #[.slice x.1 r.2.fItems.length x.2, .slice Ao0_1 o0.fConns.length co0_1, .int .i64 r.2.fLast, .int .i64 o0.fOpens] 55 (0, 0)) :: H, (2000, ⟨.slice x.1 r.2.fItems.length x.2, 40, 6, r.2.fItems.length, r.2.fItems.flatMap GItem.enc⟩) :: (1001, ⟨.slice Ao0_1 o0.fConns.length co0_1, 77, 3, o0.fConns.length, o0.fConns.flatMap Gref08_Conn.enc⟩) :: R, φ⟩) := by
 unfold m_ref08_Net_Send at hm
 refine cn_intro (fn := Try.f50) (N := 21) Try.func50 rfl Try.ntmps50 rfl <| c_seq <| c_region <| g_v rfl r_assign <| g_nil <| d_then <| c_seq <| c_seq <| c_region <| g_v rfl r_move ?_
 refine g_v rfl (r_nilck rfl) <| g_v rfl (r_field (n := 0) Try.underlying55 rfl Try.sizeOf52 rfl rfl) <| g_v rfl (r_load (tag := 1000) rfl rfl rfl Try.isAgg52) <| g_v rfl (r_lenL Try.underlying52 rfl) <| g_v rfl (r_geq rfl rfl) <| g_nil <| d_then ?_
 refine c_cond rfl (fun h1 => ?_) (fun h1 => ?_)
 ·
  replace hm := ite_t hm (of_decide_eq_true h1)
  refine c_seq <| c_region <| g_v rfl r_assign <| g_nil <| d_then <| c_ret <| d_ret_then ?_
  replace hm := Option.some.inj hm
  subst hm
  refine d_sta _ (fun W h => ok_frontR (t := 1000) (t' := 2000) h rfl) ?_
  refine d_retC (Ao0_0, co0_0) Try.results50 ?_ hco0_0 (fun W h => h.phi (fun W hφ => hφ)) (.inr rfl)
  refine res_tmp <| res_nil ?_
  exact rfl
 ·
  replace hm := ite_f hm (of_decide_eq_false h1)
  refine c_skip <| d_then <| c_seq <| c_region <| g_v rfl r_move <| g_v rfl r_move <| g_v rfl r_move <| g_v rfl r_move <| g_v rfl (r_build _ rfl (bld40_1 _ _ _ _)) ?_
  replace hm := bnd hm
  obtain ⟨x2, hx3, hm⟩ := hm
  refine g_cn ⟨w0, M, (1000, go0, .cells #[.slice Ao0_0 o0.fItems.length co0_0, .slice Ao0_1 o0.fConns.length co0_1, .int .i64 o0.fLast, .int .i64 o0.fOpens] 55 (0, 0)) :: H, (1000, ⟨.slice Ao0_0 o0.fItems.length co0_0, 40, 6, o0.fItems.length, o0.fItems.flatMap GItem.enc⟩) :: (1001, ⟨.slice Ao0_1 o0.fConns.length co0_1, 77, 3, o0.fConns.length, o0.fConns.flatMap Gref08_Conn.enc⟩) :: R, φ⟩ (fun W h => (ok_front (t := 1000) (t' := 1000) (ok_frontR (t := 1000) (t' := 1000) (ok_frontR (t := 1001) (t' := 1001) h rfl) rfl) rfl)) Try.call55 rfl rfl (c_ref08_Net_add (⟨0, 1, p1, p2, 0, p3⟩ : GItem) go0 o0 Ao0_0 co0_0 hco0_0 Ao0_1 co0_1 hco0_1 _ hx3) (fun ⟨A4, c5⟩ hc5 => ?_)
  refine g_sta _ (fun W h => (ok_frontR (t := 2000) (t' := 1000) (ok_frontR (t := 1001) (t' := 1001) (ok_front (t := 1000) (t' := 1000) h rfl) rfl) rfl)) <| g_nil <| d_then ?_
  refine c_flat [] trivial (fun u => ?_)
  refine c_sta ⟨w0, M, (1000, go0, .cells #[.slice A4 x2.fItems.length c5, .slice Ao0_1 o0.fConns.length co0_1, .int .i64 x2.fLast, .int .i64 o0.fOpens] 55 (0, 0)) :: H, (1000, ⟨.slice A4 x2.fItems.length c5, 40, 6, x2.fItems.length, x2.fItems.flatMap GItem.enc⟩) :: (1001, ⟨.slice Ao0_1 o0.fConns.length co0_1, 77, 3, o0.fConns.length, o0.fConns.flatMap Gref08_Conn.enc⟩) :: R, φ⟩ (fun _ h => h) <| c_seq <| c_region <| g_v rfl r_assign <| g_nil <| d_then <| c_ret ?_
  replace hm := Option.some.inj hm
  subst hm
  refine d_sta _ (fun W h => ok_frontR (t := 1000) (t' := 2000) h rfl) ?_
  refine d_retC (A4, c5) Try.results50 ?_ hc5 (fun W h => h.phi (fun W hφ => hφ)) (.inr rfl)
  refine res_tmp <| res_nil ?_
  exact rfl
noncomputable def m_law08_does_j4 (o0 : Gnet_Net) (o1 : Gref08_Net) (l419 : List GItem) (l422 : List GItem) (i425 : Int) (i426 : Int) : Option (Bool × Gnet_Net × Gref08_Net) :=
  some (true, (⟨l419, o0.fconns, i425, o0.fopens⟩ : Gnet_Net), (⟨l422, o1.fConns, i426, o1.fOpens⟩ : Gref08_Net))
noncomputable def m_law08_does_s5 (p2 : Glaw08_Op) (o0 : Gnet_Net) (o1 : Gref08_Net) (l479 : List GItem) (l482 : List GItem) (i485 : Int) (i486 : Int) (i487 : Int) : Option (((List GItem) × (List GItem) × Int × Int × Int) ⊕ (((List GItem) × (List GItem) × Int × Int) ⊕ (Bool × Gnet_Net × Gref08_Net))) :=
  if i485 < 40 then
    (m_net_Net_Send p2.fA p2.fB p2.fBody (⟨l479, o0.fconns, i486, o0.fopens⟩ : Gnet_Net)).bind fun (z577 : Bool × Gnet_Net) =>
    (m_ref08_Net_Send p2.fA p2.fB p2.fBody (⟨l482, o1.fConns, i487, o1.fOpens⟩ : Gref08_Net)).bind fun (z584 : Bool × Gref08_Net) =>
    if (!(z577.1 == z584.1)) = true then
      some (.inr (.inr (false, (⟨z577.2.fitems, o0.fconns, z577.2.flast, o0.fopens⟩ : Gnet_Net), (⟨z584.2.fItems, o1.fConns, z584.2.fLast, o1.fOpens⟩ : Gref08_Net))))
    else
      some (.inl (z577.2.fitems, z584.2.fItems, w64 (i485 + 1), z577.2.flast, z584.2.fLast))
  else
    some (.inr (.inl (l479, l482, i486, i487)))
noncomputable def m_law08_does_j3 (p2 : Glaw08_Op) (o0 : Gnet_Net) (o1 : Gref08_Net) (i3 : Int) (b196 : Bool) : Option (Bool × Gnet_Net × Gref08_Net) :=
  if b196 = true then
    (m_net_Net_Take p2.fN o0).bind fun (z205 : GItem × Bool × Gnet_Net) =>
    (m_ref08_Net_Take p2.fN o1).bind fun (z214 : GItem × Bool × Gref08_Net) =>
    if z205.1 = z214.1 then
      some (z205.2.1 == z214.2.1, (⟨z205.2.2.fitems, o0.fconns, o0.flast, o0.fopens⟩ : Gnet_Net), (⟨z214.2.2.fItems, o1.fConns, o1.fLast, o1.fOpens⟩ : Gref08_Net))
    else
      some (false, (⟨z205.2.2.fitems, o0.fconns, o0.flast, o0.fopens⟩ : Gnet_Net), (⟨z214.2.2.fItems, o1.fConns, o1.fLast, o1.fOpens⟩ : Gref08_Net))
  else
    if i3 = 9 then
      (m_net_Net_Drop p2.fN o0).bind fun (z252 : Bool × Gnet_Net) =>
      (m_ref08_Net_Drop p2.fN o1).bind fun (z259 : Bool × Gref08_Net) =>
      some (z252.1 == z259.1, (⟨z252.2.fitems, o0.fconns, o0.flast, o0.fopens⟩ : Gnet_Net), (⟨z259.2.fItems, o1.fConns, o1.fLast, o1.fOpens⟩ : Gref08_Net))
    else
      if i3 = 10 then
        (m_net_Net_Double p2.fN o0).bind fun (z295 : Bool × Gnet_Net) =>
        (m_ref08_Net_Double p2.fN o1).bind fun (z302 : Bool × Gref08_Net) =>
        some (z295.1 == z302.1, (⟨z295.2.fitems, o0.fconns, z295.2.flast, o0.fopens⟩ : Gnet_Net), (⟨z302.2.fItems, o1.fConns, z302.2.fLast, o1.fOpens⟩ : Gref08_Net))
      else
        if i3 = 11 then
          (loop (fun s => m_law08_does_s5 p2 o0 o1 s.1 s.2.1 s.2.2.1 s.2.2.2.1 s.2.2.2.2) (o0.fitems, o1.fItems, 0, o0.flast, o1.fLast)).bind fun e => Sum.elim (fun e => m_law08_does_j4 o0 o1 e.1 e.2.1 e.2.2.1 e.2.2.2) (fun x => some x) e
        else
          (m_net_Net_Send p2.fA p2.fB p2.fBody o0).bind fun (z621 : Bool × Gnet_Net) =>
          (m_ref08_Net_Send p2.fA p2.fB p2.fBody o1).bind fun (z628 : Bool × Gref08_Net) =>
          some (z621.1 == z628.1, (⟨z621.2.fitems, o0.fconns, z621.2.flast, o0.fopens⟩ : Gnet_Net), (⟨z628.2.fItems, o1.fConns, z628.2.fLast, o1.fOpens⟩ : Gref08_Net))
noncomputable def m_law08_does_j2 (p2 : Glaw08_Op) (o0 : Gnet_Net) (o1 : Gref08_Net) (i3 : Int) (b29 : Bool) : Option (Bool × Gnet_Net × Gref08_Net) :=
  if b29 = true then
    (m_net_Net_Write p2.fN p2.fA p2.fBody o0).bind fun (z65 : Bool × Gnet_Net) =>
    (m_ref08_Net_Write p2.fN p2.fA p2.fBody o1).bind fun (z72 : Bool × Gref08_Net) =>
    some (z65.1 == z72.1, (⟨z65.2.fitems, o0.fconns, z65.2.flast, o0.fopens⟩ : Gnet_Net), (⟨z72.2.fItems, o1.fConns, z72.2.fLast, o1.fOpens⟩ : Gref08_Net))
  else
    if i3 = 5 then
      (m_net_Net_Close p2.fN o0).bind fun (z123 : Bool × Gnet_Net) =>
      (m_ref08_Net_Close p2.fN o1).bind fun (z133 : Bool × Gref08_Net) =>
      some (z123.1 == z133.1, (⟨z123.2.fitems, z123.2.fconns, z123.2.flast, o0.fopens⟩ : Gnet_Net), (⟨z133.2.fItems, z133.2.fConns, z133.2.fLast, o1.fOpens⟩ : Gref08_Net))
    else
      if i3 = 6 then
        (m_net_Net_Lose p2.fA o0).bind fun (z184 : Int × Gnet_Net) =>
        (m_ref08_Net_Lose p2.fA o1).bind fun (z194 : Int × Gref08_Net) =>
        some (decide (z184.1 = z194.1), (⟨z184.2.fitems, z184.2.fconns, z184.2.flast, o0.fopens⟩ : Gnet_Net), (⟨z194.2.fItems, z194.2.fConns, z194.2.fLast, o1.fOpens⟩ : Gref08_Net))
      else
        if i3 = 7 then
          m_law08_does_j3 p2 o0 o1 i3 (decide (i3 = 7))
        else
          m_law08_does_j3 p2 o0 o1 i3 (decide (i3 = 8))
noncomputable def m_law08_does_j1 (p2 : Glaw08_Op) (o0 : Gnet_Net) (o1 : Gref08_Net) (i3 : Int) : Option (Bool × Gnet_Net × Gref08_Net) :=
  if i3 = 2 then
    (m_net_Net_Open p2.fA p2.fB o0).bind fun (z15 : Int × Bool × Gnet_Net) =>
    (m_ref08_Net_Open p2.fA p2.fB o1).bind fun (z26 : Int × Bool × Gref08_Net) =>
    if z15.1 = z26.1 then
      some (z15.2.1 == z26.2.1, z15.2.2, z26.2.2)
    else
      some (false, z15.2.2, z26.2.2)
  else
    if i3 = 3 then
      m_law08_does_j2 p2 o0 o1 i3 (decide (i3 = 3))
    else
      m_law08_does_j2 p2 o0 o1 i3 (decide (i3 = 4))
noncomputable def m_law08_does (p2 : Glaw08_Op) (o0 : Gnet_Net) (o1 : Gref08_Net) : Option (Bool × Gnet_Net × Gref08_Net) :=
  if p2.fKind.tmod 12 < 0 then
    m_law08_does_j1 p2 o0 o1 (w64 ((p2.fKind.tmod 12) + 12))
  else
    m_law08_does_j1 p2 o0 o1 (p2.fKind.tmod 12)
theorem c_law08_does {w0 : World} {M : Nat → Prop} {H : List (Nat × Nat × Obj)} {R : List (Nat × Row)} {φ : World → Prop} (p2 : Glaw08_Op) (go0 : Nat) (o0 : Gnet_Net) (Ao0_0 : Option Addr) (co0_0 : Nat) (hco0_0 : o0.fitems.length ≤ co0_0) (Ao0_1 : Option Addr) (co0_1 : Nat) (hco0_1 : o0.fconns.length ≤ co0_1) (go1 : Nat) (o1 : Gref08_Net) (Ao1_0 : Option Addr) (co1_0 : Nat) (hco1_0 : o1.fItems.length ≤ co1_0) (Ao1_1 : Option Addr) (co1_1 : Nat) (hco1_1 : o1.fConns.length ≤ co1_1) (r : Bool × Gnet_Net × Gref08_Net) (hm : m_law08_does p2 o0 o1 = some r) :
    Cn Try.prog 21 #[.pointer (some ⟨go0, 0, none⟩), .pointer (some ⟨go1, 0, none⟩), .agg #[.int .i64 p2.fKind, .int .i64 p2.fA, .int .i64 p2.fB, .int .i64 p2.fN, .string p2.fBody]] ⟨w0, M, (1000, go0, .cells #[.slice Ao0_0 o0.fitems.length co0_0, .slice Ao0_1 o0.fconns.length co0_1, .int .i64 o0.flast, .int .i64 o0.fopens] 61 (0, 0)) :: (1001, go1, .cells #[.slice Ao1_0 o1.fItems.length co1_0, .slice Ao1_1 o1.fConns.length co1_1, .int .i64 o1.fLast, .int .i64 o1.fOpens] 55 (0, 0)) :: H, (1000, ⟨.slice Ao0_0 o0.fitems.length co0_0, 40, 6, o0.fitems.length, o0.fitems.flatMap GItem.enc⟩) :: (1001, ⟨.slice Ao0_1 o0.fconns.length co0_1, 63, 3, o0.fconns.length, o0.fconns.flatMap Gnet_conn.enc⟩) :: (1002, ⟨.slice Ao1_0 o1.fItems.length co1_0, 40, 6, o1.fItems.length, o1.fItems.flatMap GItem.enc⟩) :: (1003, ⟨.slice Ao1_1 o1.fConns.length co1_1, 77, 3, o1.fConns.length, o1.fConns.flatMap Gref08_Conn.enc⟩) :: R, φ⟩ (fun x : Option Addr × Nat × Option Addr × Nat × Option Addr × Nat × Option Addr × Nat => .bool r.1) (fun x => r.2.1.fitems.length ≤ x.2.1 ∧ r.2.1.fconns.length ≤ x.2.2.2.1 ∧ r.2.2.fItems.length ≤ x.2.2.2.2.2.1 ∧ r.2.2.fConns.length ≤ x.2.2.2.2.2.2.2) (fun x => ⟨w0, M, (1000, go0, .cells #[.slice x.1 r.2.1.fitems.length x.2.1, .slice x.2.2.1 r.2.1.fconns.length x.2.2.2.1, .int .i64 r.2.1.flast, .int .i64 r.2.1.fopens] 61 (0, 0)) :: (1001, go1, .cells #[.slice x.2.2.2.2.1 r.2.2.fItems.length x.2.2.2.2.2.1, .slice x.2.2.2.2.2.2.1 r.2.2.fConns.length x.2.2.2.2.2.2.2, .int .i64 r.2.2.fLast, .int .i64 r.2.2.fOpens] 55 (0, 0)) :: H, (2000, ⟨.slice x.1 r.2.1.fitems.length x.2.1, 40, 6, r.2.1.fitems.length, r.2.1.fitems.flatMap GItem.enc⟩) :: (2001, ⟨.slice x.2.2.1 r.2.1.fconns.length x.2.2.2.1, 63, 3, r.2.1.fconns.length, r.2.1.fconns.flatMap Gnet_conn.enc⟩) :: (2002, ⟨.slice x.2.2.2.2.1 r.2.2.fItems.length x.2.2.2.2.2.1, 40, 6, r.2.2.fItems.length, r.2.2.fItems.flatMap GItem.enc⟩) :: (2003, ⟨.slice x.2.2.2.2.2.2.1 r.2.2.fConns.length x.2.2.2.2.2.2.2, 77, 3, r.2.2.fConns.length, r.2.2.fConns.flatMap Gref08_Conn.enc⟩) :: R, φ⟩) := by
 unfold m_law08_does at hm
 refine cn_intro (fn := Try.f21) (N := 182) Try.func21 rfl Try.ntmps21 rfl <| c_seq <| c_region ?_
 refine g_e rfl (e_box 100050 rfl) (fun g1 _ => ?_)
 refine g_v rfl r_assign <| g_nil <| d_then <| c_seq <| c_region <| g_v rfl (r_field (n := 0) Try.underlying33 rfl Try.sizeOf3 rfl rfl) <| g_v rfl (r_load (tag := 100050) rfl rfl rfl Try.isAgg3) <| g_v rfl (r_rem rfl rfl (by decide) rfl) <| g_v rfl r_assign <| g_nil ?_
 refine d_then <| c_seq ?_
 refine c_cut (ι := Int) [0, 1, 5, 7] (fun i3 => [(7, .int .i64 i3)]) (fun i3 => ⟨w0, M, (100050, g1, .cells #[.int .i64 p2.fKind, .int .i64 p2.fA, .int .i64 p2.fB, .int .i64 p2.fN, .string p2.fBody] 33 (0, 0)) :: (1000, go0, .cells #[.slice Ao0_0 o0.fitems.length co0_0, .slice Ao0_1 o0.fconns.length co0_1, .int .i64 o0.flast, .int .i64 o0.fopens] 61 (0, 0)) :: (1001, go1, .cells #[.slice Ao1_0 o1.fItems.length co1_0, .slice Ao1_1 o1.fConns.length co1_1, .int .i64 o1.fLast, .int .i64 o1.fOpens] 55 (0, 0)) :: H, (1000, ⟨.slice Ao0_0 o0.fitems.length co0_0, 40, 6, o0.fitems.length, o0.fitems.flatMap GItem.enc⟩) :: (1001, ⟨.slice Ao0_1 o0.fconns.length co0_1, 63, 3, o0.fconns.length, o0.fconns.flatMap Gnet_conn.enc⟩) :: (1002, ⟨.slice Ao1_0 o1.fItems.length co1_0, 40, 6, o1.fItems.length, o1.fItems.flatMap GItem.enc⟩) :: (1003, ⟨.slice Ao1_1 o1.fConns.length co1_1, 77, 3, o1.fConns.length, o1.fConns.flatMap Gref08_Conn.enc⟩) :: R, φ⟩) (fun i3 => m_law08_does_j1 p2 o0 o1 i3 = some r) ?_ (fun i3 u hm => ?_)
 ·
  refine c_seq <| c_region <| g_v rfl r_move <| g_v rfl (r_lss rfl rfl) <| g_nil <| d_then ?_
  refine c_cond rfl (fun h631 => ?_) (fun h631 => ?_)
  ·
   replace hm := ite_t hm (of_decide_eq_true h631)
   refine c_region <| g_v rfl r_move <| g_v rfl (r_add rfl rfl rfl) <| g_v rfl r_assign <| g_nil ?_
   exact d_round (w64 ((p2.fKind.tmod 12) + 12)) hm Nat.zero_lt_one ⟨rfl, rfl, rfl, rfl, trivial⟩ (fun W h => h.phi (fun W hφ => hφ))
  ·
   replace hm := ite_f hm (of_decide_eq_false h631)
   refine c_skip ?_
   exact d_round (p2.fKind.tmod 12) hm Nat.zero_lt_one ⟨rfl, rfl, rfl, rfl, trivial⟩ (fun W h => h.phi (fun W hφ => hφ))
 ·
  unfold m_law08_does_j1 at hm
  refine d_flat [(0, .pointer (some ⟨go0, 0, none⟩)), (1, .pointer (some ⟨go1, 0, none⟩)), (5, .pointer (some ⟨g1, 0, none⟩)), (7, .int .i64 i3)] ⟨rfl, rfl, rfl, rfl, trivial⟩ (fun u => ?_)
  refine d_sta ⟨w0, M, (100050, g1, .cells #[.int .i64 p2.fKind, .int .i64 p2.fA, .int .i64 p2.fB, .int .i64 p2.fN, .string p2.fBody] 33 (0, 0)) :: (1000, go0, .cells #[.slice Ao0_0 o0.fitems.length co0_0, .slice Ao0_1 o0.fconns.length co0_1, .int .i64 o0.flast, .int .i64 o0.fopens] 61 (0, 0)) :: (1001, go1, .cells #[.slice Ao1_0 o1.fItems.length co1_0, .slice Ao1_1 o1.fConns.length co1_1, .int .i64 o1.fLast, .int .i64 o1.fOpens] 55 (0, 0)) :: H, (1000, ⟨.slice Ao0_0 o0.fitems.length co0_0, 40, 6, o0.fitems.length, o0.fitems.flatMap GItem.enc⟩) :: (1001, ⟨.slice Ao0_1 o0.fconns.length co0_1, 63, 3, o0.fconns.length, o0.fconns.flatMap Gnet_conn.enc⟩) :: (1002, ⟨.slice Ao1_0 o1.fItems.length co1_0, 40, 6, o1.fItems.length, o1.fItems.flatMap GItem.enc⟩) :: (1003, ⟨.slice Ao1_1 o1.fConns.length co1_1, 77, 3, o1.fConns.length, o1.fConns.flatMap Gref08_Conn.enc⟩) :: R, φ⟩ (fun _ h => h) <| d_then <| c_seq <| c_seq <| c_region <| g_v rfl r_move <| g_nil <| d_then <| c_block <| c_seq ?_
  refine c_region <| g_v rfl (r_eql rfl rfl) <| g_v rfl r_assign <| g_nil <| d_then ?_
  refine c_cond rfl (fun h4 => ?_) (fun h4 => ?_)
  ·
   replace hm := ite_t hm (of_decide_eq_true h4)
   refine c_seq <| c_region <| g_v rfl r_move <| g_v rfl (r_field (n := 1) Try.underlying33 rfl Try.sizeOf3 rfl rfl) <| g_v rfl (r_load (tag := 100050) rfl rfl rfl Try.isAgg3) <| g_v rfl (r_field (n := 2) Try.underlying33 rfl Try.sizeOf3 rfl rfl) <| g_v rfl (r_load (tag := 100050) rfl rfl rfl Try.isAgg3) ?_
   replace hm := bnd hm
   obtain ⟨⟨x5, x6, x7⟩, hx8, hm⟩ := hm
   refine g_cn ⟨w0, M, (1000, go0, .cells #[.slice Ao0_0 o0.fitems.length co0_0, .slice Ao0_1 o0.fconns.length co0_1, .int .i64 o0.flast, .int .i64 o0.fopens] 61 (0, 0)) :: (100050, g1, .cells #[.int .i64 p2.fKind, .int .i64 p2.fA, .int .i64 p2.fB, .int .i64 p2.fN, .string p2.fBody] 33 (0, 0)) :: (1001, go1, .cells #[.slice Ao1_0 o1.fItems.length co1_0, .slice Ao1_1 o1.fConns.length co1_1, .int .i64 o1.fLast, .int .i64 o1.fOpens] 55 (0, 0)) :: H, (1000, ⟨.slice Ao0_0 o0.fitems.length co0_0, 40, 6, o0.fitems.length, o0.fitems.flatMap GItem.enc⟩) :: (1001, ⟨.slice Ao0_1 o0.fconns.length co0_1, 63, 3, o0.fconns.length, o0.fconns.flatMap Gnet_conn.enc⟩) :: (1002, ⟨.slice Ao1_0 o1.fItems.length co1_0, 40, 6, o1.fItems.length, o1.fItems.flatMap GItem.enc⟩) :: (1003, ⟨.slice Ao1_1 o1.fConns.length co1_1, 77, 3, o1.fConns.length, o1.fConns.flatMap Gref08_Conn.enc⟩) :: R, φ⟩ (fun W h => (ok_front (t := 1000) (t' := 1000) (ok_frontR (t := 1000) (t' := 1000) (ok_frontR (t := 1001) (t' := 1001) h rfl) rfl) rfl)) Try.call12 rfl rfl (c_net_Net_Open p2.fA p2.fB go0 o0 Ao0_0 co0_0 hco0_0 Ao0_1 co0_1 hco0_1 _ hx8) (fun ⟨A9, c10, A12, c13⟩ ⟨hc10, hc13⟩ => ?_)
   refine g_sta _ (fun W h => (ok_frontR (t := 2000) (t' := 1000) (ok_frontR (t := 2001) (t' := 1001) (ok_front (t := 1000) (t' := 1000) h rfl) rfl) rfl)) <| g_v rfl r_move <| g_v rfl (r_extract rfl rfl) <| g_v rfl (r_extract rfl rfl) <| g_v rfl r_assign <| g_v rfl r_assign <| g_nil <| d_then ?_
   refine c_flat [(1, .pointer (some ⟨go1, 0, none⟩)), (5, .pointer (some ⟨g1, 0, none⟩)), (8, .int .i64 x5), (9, .bool x6)] ⟨rfl, rfl, rfl, rfl, trivial⟩ (fun u => ?_)
   refine c_sta ⟨w0, M, (1000, go0, .cells #[.slice A9 x7.fitems.length c10, .slice A12 x7.fconns.length c13, .int .i64 x7.flast, .int .i64 x7.fopens] 61 (0, 0)) :: (100050, g1, .cells #[.int .i64 p2.fKind, .int .i64 p2.fA, .int .i64 p2.fB, .int .i64 p2.fN, .string p2.fBody] 33 (0, 0)) :: (1001, go1, .cells #[.slice Ao1_0 o1.fItems.length co1_0, .slice Ao1_1 o1.fConns.length co1_1, .int .i64 o1.fLast, .int .i64 o1.fOpens] 55 (0, 0)) :: H, (1000, ⟨.slice A9 x7.fitems.length c10, 40, 6, x7.fitems.length, x7.fitems.flatMap GItem.enc⟩) :: (1001, ⟨.slice A12 x7.fconns.length c13, 63, 3, x7.fconns.length, x7.fconns.flatMap Gnet_conn.enc⟩) :: (1002, ⟨.slice Ao1_0 o1.fItems.length co1_0, 40, 6, o1.fItems.length, o1.fItems.flatMap GItem.enc⟩) :: (1003, ⟨.slice Ao1_1 o1.fConns.length co1_1, 77, 3, o1.fConns.length, o1.fConns.flatMap Gref08_Conn.enc⟩) :: R, φ⟩ (fun _ h => h) <| c_seq <| c_region <| g_v rfl r_move <| g_v rfl (r_field (n := 1) Try.underlying33 rfl Try.sizeOf3 rfl rfl) <| g_v rfl (r_load (tag := 100050) rfl rfl rfl Try.isAgg3) <| g_v rfl (r_field (n := 2) Try.underlying33 rfl Try.sizeOf3 rfl rfl) <| g_v rfl (r_load (tag := 100050) rfl rfl rfl Try.isAgg3) ?_
   replace hm := bnd hm
   obtain ⟨⟨x16, x17, x18⟩, hx19, hm⟩ := hm
   refine g_cn ⟨w0, M, (1000, go1, .cells #[.slice Ao1_0 o1.fItems.length co1_0, .slice Ao1_1 o1.fConns.length co1_1, .int .i64 o1.fLast, .int .i64 o1.fOpens] 55 (0, 0)) :: (1000, go0, .cells #[.slice A9 x7.fitems.length c10, .slice A12 x7.fconns.length c13, .int .i64 x7.flast, .int .i64 x7.fopens] 61 (0, 0)) :: (100050, g1, .cells #[.int .i64 p2.fKind, .int .i64 p2.fA, .int .i64 p2.fB, .int .i64 p2.fN, .string p2.fBody] 33 (0, 0)) :: H, (1000, ⟨.slice Ao1_0 o1.fItems.length co1_0, 40, 6, o1.fItems.length, o1.fItems.flatMap GItem.enc⟩) :: (1001, ⟨.slice Ao1_1 o1.fConns.length co1_1, 77, 3, o1.fConns.length, o1.fConns.flatMap Gref08_Conn.enc⟩) :: (1000, ⟨.slice A9 x7.fitems.length c10, 40, 6, x7.fitems.length, x7.fitems.flatMap GItem.enc⟩) :: (1001, ⟨.slice A12 x7.fconns.length c13, 63, 3, x7.fconns.length, x7.fconns.flatMap Gnet_conn.enc⟩) :: R, φ⟩ (fun W h => (ok_front (t := 1001) (t' := 1000) (ok_frontR (t := 1002) (t' := 1000) (ok_frontR (t := 1003) (t' := 1001) h rfl) rfl) rfl)) Try.call43 rfl rfl (c_ref08_Net_Open p2.fA p2.fB go1 o1 Ao1_0 co1_0 hco1_0 Ao1_1 co1_1 hco1_1 _ hx19) (fun ⟨A20, c21, A23, c24⟩ ⟨hc21, hc24⟩ => ?_)
   refine g_sta _ (fun W h => (ok_frontR (t := 2000) (t' := 1002) (ok_frontR (t := 2001) (t' := 1003) (ok_front (t := 1000) (t' := 1001) h rfl) rfl) rfl)) <| g_v rfl r_move <| g_v rfl (r_extract rfl rfl) <| g_v rfl (r_extract rfl rfl) <| g_v rfl r_assign <| g_v rfl r_assign <| g_nil <| d_then ?_
   refine c_flat [(8, .int .i64 x5), (9, .bool x6), (10, .int .i64 x16), (11, .bool x17)] ⟨rfl, rfl, rfl, rfl, trivial⟩ (fun u => ?_)
   refine c_sta ⟨w0, M, (1001, go1, .cells #[.slice A20 x18.fItems.length c21, .slice A23 x18.fConns.length c24, .int .i64 x18.fLast, .int .i64 x18.fOpens] 55 (0, 0)) :: (1000, go0, .cells #[.slice A9 x7.fitems.length c10, .slice A12 x7.fconns.length c13, .int .i64 x7.flast, .int .i64 x7.fopens] 61 (0, 0)) :: (100050, g1, .cells #[.int .i64 p2.fKind, .int .i64 p2.fA, .int .i64 p2.fB, .int .i64 p2.fN, .string p2.fBody] 33 (0, 0)) :: H, (1002, ⟨.slice A20 x18.fItems.length c21, 40, 6, x18.fItems.length, x18.fItems.flatMap GItem.enc⟩) :: (1003, ⟨.slice A23 x18.fConns.length c24, 77, 3, x18.fConns.length, x18.fConns.flatMap Gref08_Conn.enc⟩) :: (1000, ⟨.slice A9 x7.fitems.length c10, 40, 6, x7.fitems.length, x7.fitems.flatMap GItem.enc⟩) :: (1001, ⟨.slice A12 x7.fconns.length c13, 63, 3, x7.fconns.length, x7.fconns.flatMap Gnet_conn.enc⟩) :: R, φ⟩ (fun _ h => h) <| c_seq <| c_region <| g_v rfl r_move <| g_v rfl r_move <| g_v rfl (r_eql rfl rfl) <| g_v rfl r_move ?_
   refine g_if rfl rfl rfl rfl rfl (fun h27 => ?_) (fun h27 => ?_)
   ·
    replace hm := ite_t hm (of_decide_eq_true h27)
    refine g_v rfl r_move <| g_do rfl rfl rfl rfl rfl h27 <| g_v rfl r_move <| g_do rfl rfl rfl rfl rfl h27 <| g_v rfl (r_eqlBo Try.underlying4 rfl rfl) <| g_v rfl (r_pick1 rfl h27) <| g_v rfl r_assign <| g_nil <| d_then ?_
    refine c_flat [(6, .bool (x6 == x17))] ⟨rfl, trivial⟩ (fun u => ?_)
    refine c_ret <| d_ret_block <| d_ret_then ?_
    replace hm := Option.some.inj hm
    subst hm
    refine d_sta _ (fun W h => ok_frontR (t := 1003) (t' := 2003) h rfl) <| d_sta _ (fun W h => ok_frontR (t := 1002) (t' := 2002) h rfl) <| d_sta _ (fun W h => ok_frontR (t := 1001) (t' := 2001) h rfl) <| d_sta _ (fun W h => ok_frontR (t := 1000) (t' := 2000) h rfl) ?_
    refine d_retC (A9, c10, A12, c13, A20, c21, A23, c24) Try.results21 ?_ ⟨hc10, hc13, hc21, hc24⟩ (fun W h => (ok_front (t := 1000) (t' := 1000) (ok_front (t := 1001) (t' := 1001) (h.dropH (t := 100050) rfl) rfl) rfl).phi (fun W hφ => hφ)) (.inr rfl)
    refine res_tmp <| res_nil ?_
    exact rfl
   ·
    replace hm := ite_f hm (of_decide_eq_false h27)
    refine g_no rfl rfl rfl rfl rfl h27 <| g_no rfl rfl rfl rfl rfl h27 <| g_v rfl (r_pick0 rfl h27) <| g_v rfl r_assign <| g_nil <| d_then <| c_ret <| d_ret_block <| d_ret_then ?_
    replace hm := Option.some.inj hm
    subst hm
    refine d_sta _ (fun W h => ok_frontR (t := 1003) (t' := 2003) h rfl) <| d_sta _ (fun W h => ok_frontR (t := 1002) (t' := 2002) h rfl) <| d_sta _ (fun W h => ok_frontR (t := 1001) (t' := 2001) h rfl) <| d_sta _ (fun W h => ok_frontR (t := 1000) (t' := 2000) h rfl) ?_
    refine d_retC (A9, c10, A12, c13, A20, c21, A23, c24) Try.results21 ?_ ⟨hc10, hc13, hc21, hc24⟩ (fun W h => (ok_front (t := 1000) (t' := 1000) (ok_front (t := 1001) (t' := 1001) (h.dropH (t := 100050) rfl) rfl) rfl).phi (fun W hφ => hφ)) (.inr rfl)
    refine res_tmp <| res_nil ?_
    exact rfl
  ·
   replace hm := ite_f hm (of_decide_eq_false h4)
   refine c_seq ?_
   refine c_cut (ι := Bool) [0, 1, 5, 24, 53] (fun b29 => [(53, .bool b29)]) (fun b29 => ⟨w0, M, (100050, g1, .cells #[.int .i64 p2.fKind, .int .i64 p2.fA, .int .i64 p2.fB, .int .i64 p2.fN, .string p2.fBody] 33 (0, 0)) :: (1000, go0, .cells #[.slice Ao0_0 o0.fitems.length co0_0, .slice Ao0_1 o0.fconns.length co0_1, .int .i64 o0.flast, .int .i64 o0.fopens] 61 (0, 0)) :: (1001, go1, .cells #[.slice Ao1_0 o1.fItems.length co1_0, .slice Ao1_1 o1.fConns.length co1_1, .int .i64 o1.fLast, .int .i64 o1.fOpens] 55 (0, 0)) :: H, (1000, ⟨.slice Ao0_0 o0.fitems.length co0_0, 40, 6, o0.fitems.length, o0.fitems.flatMap GItem.enc⟩) :: (1001, ⟨.slice Ao0_1 o0.fconns.length co0_1, 63, 3, o0.fconns.length, o0.fconns.flatMap Gnet_conn.enc⟩) :: (1002, ⟨.slice Ao1_0 o1.fItems.length co1_0, 40, 6, o1.fItems.length, o1.fItems.flatMap GItem.enc⟩) :: (1003, ⟨.slice Ao1_1 o1.fConns.length co1_1, 77, 3, o1.fConns.length, o1.fConns.flatMap Gref08_Conn.enc⟩) :: R, φ⟩) (fun b29 => m_law08_does_j2 p2 o0 o1 i3 b29 = some r) ?_ (fun b29 u hm => ?_)
   ·
    refine c_seq <| c_region <| g_v rfl (r_eql rfl rfl) <| g_v rfl r_assign <| g_nil <| d_then ?_
    refine c_cond rfl (fun h630 => ?_) (fun h630 => ?_)
    ·
     replace hm := ite_t hm (of_decide_eq_true h630)
     refine c_skip ?_
     exact d_round (decide (i3 = 3)) hm Nat.zero_lt_one ⟨rfl, rfl, rfl, rfl, rfl, trivial⟩ (fun W h => h.phi (fun W hφ => hφ))
    ·
     replace hm := ite_f hm (of_decide_eq_false h630)
     refine c_region <| g_v rfl (r_eql rfl rfl) <| g_v rfl r_assign <| g_nil ?_
     exact d_round (decide (i3 = 4)) hm Nat.zero_lt_one ⟨rfl, rfl, rfl, rfl, rfl, trivial⟩ (fun W h => h.phi (fun W hφ => hφ))
   ·
    unfold m_law08_does_j2 at hm
    refine d_flat [(0, .pointer (some ⟨go0, 0, none⟩)), (1, .pointer (some ⟨go1, 0, none⟩)), (5, .pointer (some ⟨g1, 0, none⟩)), (24, .int .i64 i3), (53, .bool b29)] ⟨rfl, rfl, rfl, rfl, rfl, trivial⟩ (fun u => ?_)
    refine d_then ?_
    refine c_cond rfl (fun h30 => ?_) (fun h30 => ?_)
    ·
     replace hm := ite_t hm h30
     refine c_seq <| ga_start (n := 18) ⟨w0, M, (100050, g1, .cells #[.int .i64 p2.fKind, .int .i64 p2.fA, .int .i64 p2.fB, .int .i64 p2.fN, .string p2.fBody] 33 (0, 0)) :: H, R, φ⟩ [] #[false, false, false, false, false, false, false, false, false, false, false, false, false, false, false, false, false, false] (fun W h => ((((((h.dropR (t := 1000) rfl).dropR (t := 1001) rfl).dropR (t := 1002) rfl).dropR (t := 1003) rfl).dropH (t := 1000) rfl).dropH (t := 1001) rfl).phi (fun W hφ => hφ)) mixed rfl rfl <| ga_v (i := 0) (bz 18 1) rfl (by kernel_rfl) (fun _ _ _ _ h => h) rfl (r_move) <| ga_v (i := 1) (bz 18 3) rfl (by kernel_rfl) (fun _ _ _ _ h => h) rfl (r_field (n := 3) Try.underlying33 rfl Try.sizeOf3 rfl rfl) <| ga_v (i := 2) (bz 18 7) rfl (by kernel_rfl) (fun _ _ _ _ h => h) rfl (r_load (tag := 100050) rfl rfl rfl Try.isAgg3) <| ga_v (i := 3) (bz 18 15) rfl (by kernel_rfl) (fun _ _ _ _ h => h) rfl (r_field (n := 1) Try.underlying33 rfl Try.sizeOf3 rfl rfl) <| ga_v (i := 4) (bz 18 31) rfl (by kernel_rfl) (fun _ _ _ _ h => h) rfl (r_load (tag := 100050) rfl rfl rfl Try.isAgg3) <| ga_v (i := 5) (bz 18 63) rfl (by kernel_rfl) (fun _ _ _ _ h => h) rfl (r_field (n := 4) Try.underlying33 rfl Try.sizeOf9 rfl rfl) <| ga_v (i := 6) (bz 18 127) rfl (by kernel_rfl) (fun _ _ _ _ h => h) rfl (r_load (tag := 100050) rfl rfl rfl Try.isAgg9) <| ga_v (i := 8) (bz 18 383) rfl (by kernel_rfl) (fun _ _ _ _ h => h) rfl (r_move) ?_
     refine ga_v (i := 9) (bz 18 895) rfl (by kernel_rfl) (fun _ _ _ _ h => h) rfl (r_field (n := 3) Try.underlying33 rfl Try.sizeOf3 rfl rfl) <| ga_v (i := 10) (bz 18 1919) rfl (by kernel_rfl) (fun _ _ _ _ h => h) rfl (r_load (tag := 100050) rfl rfl rfl Try.isAgg3) <| ga_v (i := 11) (bz 18 3967) rfl (by kernel_rfl) (fun _ _ _ _ h => h) rfl (r_field (n := 1) Try.underlying33 rfl Try.sizeOf3 rfl rfl) <| ga_v (i := 12) (bz 18 8063) rfl (by kernel_rfl) (fun _ _ _ _ h => h) rfl (r_load (tag := 100050) rfl rfl rfl Try.isAgg3) <| ga_v (i := 13) (bz 18 16255) rfl (by kernel_rfl) (fun _ _ _ _ h => h) rfl (r_field (n := 4) Try.underlying33 rfl Try.sizeOf9 rfl rfl) <| ga_v (i := 14) (bz 18 32639) rfl (by kernel_rfl) (fun _ _ _ _ h => h) rfl (r_load (tag := 100050) rfl rfl rfl Try.isAgg9) ?_
     replace hm := bnd hm
     obtain ⟨⟨x59, x60⟩, hx61, hm⟩ := hm
     refine ga_cn (first := #[]) (i := 7) (bz 18 32767) rfl (by kernel_rfl) (by decide)  ⟨w0, M, (1000, go0, .cells #[.slice Ao0_0 o0.fitems.length co0_0, .slice Ao0_1 o0.fconns.length co0_1, .int .i64 o0.flast, .int .i64 o0.fopens] 61 (0, 0)) :: (100050, g1, .cells #[.int .i64 p2.fKind, .int .i64 p2.fA, .int .i64 p2.fB, .int .i64 p2.fN, .string p2.fBody] 33 (0, 0)) :: (1001, go1, .cells #[.slice Ao1_0 o1.fItems.length co1_0, .slice Ao1_1 o1.fConns.length co1_1, .int .i64 o1.fLast, .int .i64 o1.fOpens] 55 (0, 0)) :: H, (1000, ⟨.slice Ao0_0 o0.fitems.length co0_0, 40, 6, o0.fitems.length, o0.fitems.flatMap GItem.enc⟩) :: (1001, ⟨.slice Ao0_1 o0.fconns.length co0_1, 63, 3, o0.fconns.length, o0.fconns.flatMap Gnet_conn.enc⟩) :: (1002, ⟨.slice Ao1_0 o1.fItems.length co1_0, 40, 6, o1.fItems.length, o1.fItems.flatMap GItem.enc⟩) :: (1003, ⟨.slice Ao1_1 o1.fConns.length co1_1, 77, 3, o1.fConns.length, o1.fConns.flatMap Gref08_Conn.enc⟩) :: R, φ⟩ (fun W h => (ok_front (t := 1000) (t' := 1000) (ok_frontR (t := 1000) (t' := 1000) (ok_frontR (t := 1001) (t' := 1001) h rfl) rfl) rfl)) Try.call13 rfl rfl rfl (c_net_Net_Write p2.fN p2.fA p2.fBody go0 o0 Ao0_0 co0_0 hco0_0 Ao0_1 co0_1 hco0_1 _ hx61) (fun ⟨A62, c63⟩ W hc63 h => (((((((ok_frontR (t := 2000) (t' := 1000) (ok_frontR (t := 1001) (t' := 1001) (ok_front (t := 1000) (t' := 1000) h rfl) rfl) rfl).dropR (t := 1000) rfl).dropR (t := 1001) rfl).dropR (t := 1002) rfl).dropR (t := 1003) rfl).dropH (t := 1000) rfl).dropH (t := 1001) rfl).phi (fun W hφ => hφ)) (fun ⟨A62, c63⟩ hc63 => ?_)
     refine ga_sta _ (fun W h => (ok_frontR (t := 2000) (t' := 1000) (ok_frontR (t := 1001) (t' := 1001) (ok_front (t := 1000) (t' := 1000) h rfl) rfl) rfl)) ?_
     replace hm := bnd hm
     obtain ⟨⟨x66, x67⟩, hx68, hm⟩ := hm
     refine ga_cn (first := #[]) (i := 15) (bz 18 65535) rfl (by kernel_rfl) (by decide)  ⟨w0, M, (1000, go1, .cells #[.slice Ao1_0 o1.fItems.length co1_0, .slice Ao1_1 o1.fConns.length co1_1, .int .i64 o1.fLast, .int .i64 o1.fOpens] 55 (0, 0)) :: (1000, go0, .cells #[.slice A62 x60.fitems.length c63, .slice Ao0_1 o0.fconns.length co0_1, .int .i64 x60.flast, .int .i64 o0.fopens] 61 (0, 0)) :: (100050, g1, .cells #[.int .i64 p2.fKind, .int .i64 p2.fA, .int .i64 p2.fB, .int .i64 p2.fN, .string p2.fBody] 33 (0, 0)) :: H, (1000, ⟨.slice Ao1_0 o1.fItems.length co1_0, 40, 6, o1.fItems.length, o1.fItems.flatMap GItem.enc⟩) :: (1001, ⟨.slice Ao1_1 o1.fConns.length co1_1, 77, 3, o1.fConns.length, o1.fConns.flatMap Gref08_Conn.enc⟩) :: (1000, ⟨.slice A62 x60.fitems.length c63, 40, 6, x60.fitems.length, x60.fitems.flatMap GItem.enc⟩) :: (1001, ⟨.slice Ao0_1 o0.fconns.length co0_1, 63, 3, o0.fconns.length, o0.fconns.flatMap Gnet_conn.enc⟩) :: R, φ⟩ (fun W h => (ok_front (t := 1001) (t' := 1000) (ok_frontR (t := 1002) (t' := 1000) (ok_frontR (t := 1003) (t' := 1001) h rfl) rfl) rfl)) Try.call44 rfl rfl rfl (c_ref08_Net_Write p2.fN p2.fA p2.fBody go1 o1 Ao1_0 co1_0 hco1_0 Ao1_1 co1_1 hco1_1 _ hx68) (fun ⟨A69, c70⟩ W hc70 h => (((((((ok_frontR (t := 2000) (t' := 1002) (ok_frontR (t := 1001) (t' := 1003) (ok_front (t := 1000) (t' := 1001) h rfl) rfl) rfl).dropR (t := 1002) rfl).dropR (t := 1003) rfl).dropR (t := 1000) rfl).dropR (t := 1001) rfl).dropH (t := 1001) rfl).dropH (t := 1000) rfl).phi (fun W hφ => hφ)) (fun ⟨A69, c70⟩ hc70 => ?_)
     refine ga_sta _ (fun W h => (ok_frontR (t := 2000) (t' := 1002) (ok_frontR (t := 1001) (t' := 1003) (ok_front (t := 1000) (t' := 1001) h rfl) rfl) rfl)) <| ga_r (i := 16) (bz 18 131071) rfl (by kernel_rfl) (by decide) rfl (r_eqlBo Try.underlying4 rfl rfl) <| ga_r (i := 17) (bz 18 262143) rfl (by kernel_rfl) (by decide) rfl (r_assign) <| ga_done (by kernel_rfl) <| d_then ?_
     refine c_flat [(6, .bool (x59 == x66))] ⟨rfl, trivial⟩ (fun u => ?_)
     refine c_sta ⟨w0, M, (1001, go1, .cells #[.slice A69 x67.fItems.length c70, .slice Ao1_1 o1.fConns.length co1_1, .int .i64 x67.fLast, .int .i64 o1.fOpens] 55 (0, 0)) :: (1000, go0, .cells #[.slice A62 x60.fitems.length c63, .slice Ao0_1 o0.fconns.length co0_1, .int .i64 x60.flast, .int .i64 o0.fopens] 61 (0, 0)) :: (100050, g1, .cells #[.int .i64 p2.fKind, .int .i64 p2.fA, .int .i64 p2.fB, .int .i64 p2.fN, .string p2.fBody] 33 (0, 0)) :: H, (1002, ⟨.slice A69 x67.fItems.length c70, 40, 6, x67.fItems.length, x67.fItems.flatMap GItem.enc⟩) :: (1003, ⟨.slice Ao1_1 o1.fConns.length co1_1, 77, 3, o1.fConns.length, o1.fConns.flatMap Gref08_Conn.enc⟩) :: (1000, ⟨.slice A62 x60.fitems.length c63, 40, 6, x60.fitems.length, x60.fitems.flatMap GItem.enc⟩) :: (1001, ⟨.slice Ao0_1 o0.fconns.length co0_1, 63, 3, o0.fconns.length, o0.fconns.flatMap Gnet_conn.enc⟩) :: R, φ⟩ (fun _ h => h) <| c_ret <| d_ret_block <| d_ret_then ?_
     replace hm := Option.some.inj hm
     subst hm
     refine d_sta _ (fun W h => ok_frontR (t := 1003) (t' := 2003) h rfl) <| d_sta _ (fun W h => ok_frontR (t := 1002) (t' := 2002) h rfl) <| d_sta _ (fun W h => ok_frontR (t := 1001) (t' := 2001) h rfl) <| d_sta _ (fun W h => ok_frontR (t := 1000) (t' := 2000) h rfl) ?_
     refine d_retC (A62, c63, Ao0_1, co0_1, A69, c70, Ao1_1, co1_1) Try.results21 ?_ ⟨hc63, hco0_1, hc70, hco1_1⟩ (fun W h => (ok_front (t := 1000) (t' := 1000) (ok_front (t := 1001) (t' := 1001) (h.dropH (t := 100050) rfl) rfl) rfl).phi (fun W hφ => hφ)) (.inr rfl)
     refine res_tmp <| res_nil ?_
     exact rfl
    ·
     replace hm := ite_f hm (bool_nt h30)
     refine c_seq <| c_region <| g_v rfl (r_eql rfl rfl) <| g_v rfl r_assign <| g_nil <| d_then ?_
     refine c_cond rfl (fun h73 => ?_) (fun h73 => ?_)
     ·
      replace hm := ite_t hm (of_decide_eq_true h73)
      refine c_seq <| ga_start (n := 10) ⟨w0, M, (100050, g1, .cells #[.int .i64 p2.fKind, .int .i64 p2.fA, .int .i64 p2.fB, .int .i64 p2.fN, .string p2.fBody] 33 (0, 0)) :: H, R, φ⟩ [] #[false, false, false, false, false, false, false, false, false, false] (fun W h => ((((((h.dropR (t := 1000) rfl).dropR (t := 1001) rfl).dropR (t := 1002) rfl).dropR (t := 1003) rfl).dropH (t := 1000) rfl).dropH (t := 1001) rfl).phi (fun W hφ => hφ)) mixed rfl rfl <| ga_v (i := 0) (bz 10 1) rfl (by kernel_rfl) (fun _ _ _ _ h => h) rfl (r_move) <| ga_v (i := 1) (bz 10 3) rfl (by kernel_rfl) (fun _ _ _ _ h => h) rfl (r_field (n := 3) Try.underlying33 rfl Try.sizeOf3 rfl rfl) <| ga_v (i := 2) (bz 10 7) rfl (by kernel_rfl) (fun _ _ _ _ h => h) rfl (r_load (tag := 100050) rfl rfl rfl Try.isAgg3) <| ga_v (i := 4) (bz 10 23) rfl (by kernel_rfl) (fun _ _ _ _ h => h) rfl (r_move) <| ga_v (i := 5) (bz 10 55) rfl (by kernel_rfl) (fun _ _ _ _ h => h) rfl (r_field (n := 3) Try.underlying33 rfl Try.sizeOf3 rfl rfl) <| ga_v (i := 6) (bz 10 119) rfl (by kernel_rfl) (fun _ _ _ _ h => h) rfl (r_load (tag := 100050) rfl rfl rfl Try.isAgg3) ?_
      replace hm := bnd hm
      obtain ⟨⟨x114, x115⟩, hx116, hm⟩ := hm
      refine ga_cn (first := #[]) (i := 3) (bz 10 127) rfl (by kernel_rfl) (by decide)  ⟨w0, M, (1000, go0, .cells #[.slice Ao0_0 o0.fitems.length co0_0, .slice Ao0_1 o0.fconns.length co0_1, .int .i64 o0.flast, .int .i64 o0.fopens] 61 (0, 0)) :: (100050, g1, .cells #[.int .i64 p2.fKind, .int .i64 p2.fA, .int .i64 p2.fB, .int .i64 p2.fN, .string p2.fBody] 33 (0, 0)) :: (1001, go1, .cells #[.slice Ao1_0 o1.fItems.length co1_0, .slice Ao1_1 o1.fConns.length co1_1, .int .i64 o1.fLast, .int .i64 o1.fOpens] 55 (0, 0)) :: H, (1000, ⟨.slice Ao0_0 o0.fitems.length co0_0, 40, 6, o0.fitems.length, o0.fitems.flatMap GItem.enc⟩) :: (1001, ⟨.slice Ao0_1 o0.fconns.length co0_1, 63, 3, o0.fconns.length, o0.fconns.flatMap Gnet_conn.enc⟩) :: (1002, ⟨.slice Ao1_0 o1.fItems.length co1_0, 40, 6, o1.fItems.length, o1.fItems.flatMap GItem.enc⟩) :: (1003, ⟨.slice Ao1_1 o1.fConns.length co1_1, 77, 3, o1.fConns.length, o1.fConns.flatMap Gref08_Conn.enc⟩) :: R, φ⟩ (fun W h => (ok_front (t := 1000) (t' := 1000) (ok_frontR (t := 1000) (t' := 1000) (ok_frontR (t := 1001) (t' := 1001) h rfl) rfl) rfl)) Try.call14 rfl rfl rfl (c_net_Net_Close p2.fN go0 o0 Ao0_0 co0_0 hco0_0 Ao0_1 co0_1 hco0_1 _ hx116) (fun ⟨A117, c118, A120, c121⟩ W ⟨hc118, hc121⟩ h => (((((((ok_frontR (t := 2000) (t' := 1000) (ok_frontR (t := 2001) (t' := 1001) (ok_front (t := 1000) (t' := 1000) h rfl) rfl) rfl).dropR (t := 1000) rfl).dropR (t := 1001) rfl).dropR (t := 1002) rfl).dropR (t := 1003) rfl).dropH (t := 1000) rfl).dropH (t := 1001) rfl).phi (fun W hφ => hφ)) (fun ⟨A117, c118, A120, c121⟩ ⟨hc118, hc121⟩ => ?_)
      refine ga_sta _ (fun W h => (ok_frontR (t := 2000) (t' := 1000) (ok_frontR (t := 2001) (t' := 1001) (ok_front (t := 1000) (t' := 1000) h rfl) rfl) rfl)) ?_
      replace hm := bnd hm
      obtain ⟨⟨x124, x125⟩, hx126, hm⟩ := hm
      refine ga_cn (first := #[]) (i := 7) (bz 10 255) rfl (by kernel_rfl) (by decide)  ⟨w0, M, (1000, go1, .cells #[.slice Ao1_0 o1.fItems.length co1_0, .slice Ao1_1 o1.fConns.length co1_1, .int .i64 o1.fLast, .int .i64 o1.fOpens] 55 (0, 0)) :: (1000, go0, .cells #[.slice A117 x115.fitems.length c118, .slice A120 x115.fconns.length c121, .int .i64 x115.flast, .int .i64 o0.fopens] 61 (0, 0)) :: (100050, g1, .cells #[.int .i64 p2.fKind, .int .i64 p2.fA, .int .i64 p2.fB, .int .i64 p2.fN, .string p2.fBody] 33 (0, 0)) :: H, (1000, ⟨.slice Ao1_0 o1.fItems.length co1_0, 40, 6, o1.fItems.length, o1.fItems.flatMap GItem.enc⟩) :: (1001, ⟨.slice Ao1_1 o1.fConns.length co1_1, 77, 3, o1.fConns.length, o1.fConns.flatMap Gref08_Conn.enc⟩) :: (1000, ⟨.slice A117 x115.fitems.length c118, 40, 6, x115.fitems.length, x115.fitems.flatMap GItem.enc⟩) :: (1001, ⟨.slice A120 x115.fconns.length c121, 63, 3, x115.fconns.length, x115.fconns.flatMap Gnet_conn.enc⟩) :: R, φ⟩ (fun W h => (ok_front (t := 1001) (t' := 1000) (ok_frontR (t := 1002) (t' := 1000) (ok_frontR (t := 1003) (t' := 1001) h rfl) rfl) rfl)) Try.call45 rfl rfl rfl (c_ref08_Net_Close p2.fN go1 o1 Ao1_0 co1_0 hco1_0 Ao1_1 co1_1 hco1_1 _ hx126) (fun ⟨A127, c128, A130, c131⟩ W ⟨hc128, hc131⟩ h => (((((((ok_frontR (t := 2000) (t' := 1002) (ok_frontR (t := 2001) (t' := 1003) (ok_front (t := 1000) (t' := 1001) h rfl) rfl) rfl).dropR (t := 1002) rfl).dropR (t := 1003) rfl).dropR (t := 1000) rfl).dropR (t := 1001) rfl).dropH (t := 1001) rfl).dropH (t := 1000) rfl).phi (fun W hφ => hφ)) (fun ⟨A127, c128, A130, c131⟩ ⟨hc128, hc131⟩ => ?_)
      refine ga_sta _ (fun W h => (ok_frontR (t := 2000) (t' := 1002) (ok_frontR (t := 2001) (t' := 1003) (ok_front (t := 1000) (t' := 1001) h rfl) rfl) rfl)) <| ga_r (i := 8) (bz 10 511) rfl (by kernel_rfl) (by decide) rfl (r_eqlBo Try.underlying4 rfl rfl) <| ga_r (i := 9) (bz 10 1023) rfl (by kernel_rfl) (by decide) rfl (r_assign) <| ga_done (by kernel_rfl) <| d_then ?_
      refine c_flat [(6, .bool (x114 == x124))] ⟨rfl, trivial⟩ (fun u => ?_)
      refine c_sta ⟨w0, M, (1001, go1, .cells #[.slice A127 x125.fItems.length c128, .slice A130 x125.fConns.length c131, .int .i64 x125.fLast, .int .i64 o1.fOpens] 55 (0, 0)) :: (1000, go0, .cells #[.slice A117 x115.fitems.length c118, .slice A120 x115.fconns.length c121, .int .i64 x115.flast, .int .i64 o0.fopens] 61 (0, 0)) :: (100050, g1, .cells #[.int .i64 p2.fKind, .int .i64 p2.fA, .int .i64 p2.fB, .int .i64 p2.fN, .string p2.fBody] 33 (0, 0)) :: H, (1002, ⟨.slice A127 x125.fItems.length c128, 40, 6, x125.fItems.length, x125.fItems.flatMap GItem.enc⟩) :: (1003, ⟨.slice A130 x125.fConns.length c131, 77, 3, x125.fConns.length, x125.fConns.flatMap Gref08_Conn.enc⟩) :: (1000, ⟨.slice A117 x115.fitems.length c118, 40, 6, x115.fitems.length, x115.fitems.flatMap GItem.enc⟩) :: (1001, ⟨.slice A120 x115.fconns.length c121, 63, 3, x115.fconns.length, x115.fconns.flatMap Gnet_conn.enc⟩) :: R, φ⟩ (fun _ h => h) <| c_ret <| d_ret_block <| d_ret_then ?_
      replace hm := Option.some.inj hm
      subst hm
      refine d_sta _ (fun W h => ok_frontR (t := 1003) (t' := 2003) h rfl) <| d_sta _ (fun W h => ok_frontR (t := 1002) (t' := 2002) h rfl) <| d_sta _ (fun W h => ok_frontR (t := 1001) (t' := 2001) h rfl) <| d_sta _ (fun W h => ok_frontR (t := 1000) (t' := 2000) h rfl) ?_
      refine d_retC (A117, c118, A120, c121, A127, c128, A130, c131) Try.results21 ?_ ⟨hc118, hc121, hc128, hc131⟩ (fun W h => (ok_front (t := 1000) (t' := 1000) (ok_front (t := 1001) (t' := 1001) (h.dropH (t := 100050) rfl) rfl) rfl).phi (fun W hφ => hφ)) (.inr rfl)
      refine res_tmp <| res_nil ?_
      exact rfl
     ·
      replace hm := ite_f hm (of_decide_eq_false h73)
      refine c_seq <| c_region <| g_v rfl (r_eql rfl rfl) <| g_v rfl r_assign <| g_nil <| d_then ?_
      refine c_cond rfl (fun h134 => ?_) (fun h134 => ?_)
      ·
       replace hm := ite_t hm (of_decide_eq_true h134)
       refine c_seq <| ga_start (n := 10) ⟨w0, M, (100050, g1, .cells #[.int .i64 p2.fKind, .int .i64 p2.fA, .int .i64 p2.fB, .int .i64 p2.fN, .string p2.fBody] 33 (0, 0)) :: H, R, φ⟩ [] #[false, false, false, false, false, false, false, false, false, false] (fun W h => ((((((h.dropR (t := 1000) rfl).dropR (t := 1001) rfl).dropR (t := 1002) rfl).dropR (t := 1003) rfl).dropH (t := 1000) rfl).dropH (t := 1001) rfl).phi (fun W hφ => hφ)) mixed rfl rfl <| ga_v (i := 0) (bz 10 1) rfl (by kernel_rfl) (fun _ _ _ _ h => h) rfl (r_move) <| ga_v (i := 1) (bz 10 3) rfl (by kernel_rfl) (fun _ _ _ _ h => h) rfl (r_field (n := 1) Try.underlying33 rfl Try.sizeOf3 rfl rfl) <| ga_v (i := 2) (bz 10 7) rfl (by kernel_rfl) (fun _ _ _ _ h => h) rfl (r_load (tag := 100050) rfl rfl rfl Try.isAgg3) <| ga_v (i := 4) (bz 10 23) rfl (by kernel_rfl) (fun _ _ _ _ h => h) rfl (r_move) <| ga_v (i := 5) (bz 10 55) rfl (by kernel_rfl) (fun _ _ _ _ h => h) rfl (r_field (n := 1) Try.underlying33 rfl Try.sizeOf3 rfl rfl) <| ga_v (i := 6) (bz 10 119) rfl (by kernel_rfl) (fun _ _ _ _ h => h) rfl (r_load (tag := 100050) rfl rfl rfl Try.isAgg3) ?_
       replace hm := bnd hm
       obtain ⟨⟨x175, x176⟩, hx177, hm⟩ := hm
       refine ga_cn (first := #[]) (i := 3) (bz 10 127) rfl (by kernel_rfl) (by decide)  ⟨w0, M, (1000, go0, .cells #[.slice Ao0_0 o0.fitems.length co0_0, .slice Ao0_1 o0.fconns.length co0_1, .int .i64 o0.flast, .int .i64 o0.fopens] 61 (0, 0)) :: (100050, g1, .cells #[.int .i64 p2.fKind, .int .i64 p2.fA, .int .i64 p2.fB, .int .i64 p2.fN, .string p2.fBody] 33 (0, 0)) :: (1001, go1, .cells #[.slice Ao1_0 o1.fItems.length co1_0, .slice Ao1_1 o1.fConns.length co1_1, .int .i64 o1.fLast, .int .i64 o1.fOpens] 55 (0, 0)) :: H, (1000, ⟨.slice Ao0_0 o0.fitems.length co0_0, 40, 6, o0.fitems.length, o0.fitems.flatMap GItem.enc⟩) :: (1001, ⟨.slice Ao0_1 o0.fconns.length co0_1, 63, 3, o0.fconns.length, o0.fconns.flatMap Gnet_conn.enc⟩) :: (1002, ⟨.slice Ao1_0 o1.fItems.length co1_0, 40, 6, o1.fItems.length, o1.fItems.flatMap GItem.enc⟩) :: (1003, ⟨.slice Ao1_1 o1.fConns.length co1_1, 77, 3, o1.fConns.length, o1.fConns.flatMap Gref08_Conn.enc⟩) :: R, φ⟩ (fun W h => (ok_front (t := 1000) (t' := 1000) (ok_frontR (t := 1000) (t' := 1000) (ok_frontR (t := 1001) (t' := 1001) h rfl) rfl) rfl)) Try.call19 rfl rfl rfl (c_net_Net_Lose p2.fA go0 o0 Ao0_0 co0_0 hco0_0 Ao0_1 co0_1 hco0_1 _ hx177) (fun ⟨A178, c179, A181, c182⟩ W ⟨hc179, hc182⟩ h => (((((((ok_frontR (t := 2000) (t' := 1000) (ok_frontR (t := 2001) (t' := 1001) (ok_front (t := 1000) (t' := 1000) h rfl) rfl) rfl).dropR (t := 1000) rfl).dropR (t := 1001) rfl).dropR (t := 1002) rfl).dropR (t := 1003) rfl).dropH (t := 1000) rfl).dropH (t := 1001) rfl).phi (fun W hφ => hφ)) (fun ⟨A178, c179, A181, c182⟩ ⟨hc179, hc182⟩ => ?_)
       refine ga_sta _ (fun W h => (ok_frontR (t := 2000) (t' := 1000) (ok_frontR (t := 2001) (t' := 1001) (ok_front (t := 1000) (t' := 1000) h rfl) rfl) rfl)) ?_
       replace hm := bnd hm
       obtain ⟨⟨x185, x186⟩, hx187, hm⟩ := hm
       refine ga_cn (first := #[]) (i := 7) (bz 10 255) rfl (by kernel_rfl) (by decide)  ⟨w0, M, (1000, go1, .cells #[.slice Ao1_0 o1.fItems.length co1_0, .slice Ao1_1 o1.fConns.length co1_1, .int .i64 o1.fLast, .int .i64 o1.fOpens] 55 (0, 0)) :: (1000, go0, .cells #[.slice A178 x176.fitems.length c179, .slice A181 x176.fconns.length c182, .int .i64 x176.flast, .int .i64 o0.fopens] 61 (0, 0)) :: (100050, g1, .cells #[.int .i64 p2.fKind, .int .i64 p2.fA, .int .i64 p2.fB, .int .i64 p2.fN, .string p2.fBody] 33 (0, 0)) :: H, (1000, ⟨.slice Ao1_0 o1.fItems.length co1_0, 40, 6, o1.fItems.length, o1.fItems.flatMap GItem.enc⟩) :: (1001, ⟨.slice Ao1_1 o1.fConns.length co1_1, 77, 3, o1.fConns.length, o1.fConns.flatMap Gref08_Conn.enc⟩) :: (1000, ⟨.slice A178 x176.fitems.length c179, 40, 6, x176.fitems.length, x176.fitems.flatMap GItem.enc⟩) :: (1001, ⟨.slice A181 x176.fconns.length c182, 63, 3, x176.fconns.length, x176.fconns.flatMap Gnet_conn.enc⟩) :: R, φ⟩ (fun W h => (ok_front (t := 1001) (t' := 1000) (ok_frontR (t := 1002) (t' := 1000) (ok_frontR (t := 1003) (t' := 1001) h rfl) rfl) rfl)) Try.call46 rfl rfl rfl (c_ref08_Net_Lose p2.fA go1 o1 Ao1_0 co1_0 hco1_0 Ao1_1 co1_1 hco1_1 _ hx187) (fun ⟨A188, c189, A191, c192⟩ W ⟨hc189, hc192⟩ h => (((((((ok_frontR (t := 2000) (t' := 1002) (ok_frontR (t := 2001) (t' := 1003) (ok_front (t := 1000) (t' := 1001) h rfl) rfl) rfl).dropR (t := 1002) rfl).dropR (t := 1003) rfl).dropR (t := 1000) rfl).dropR (t := 1001) rfl).dropH (t := 1001) rfl).dropH (t := 1000) rfl).phi (fun W hφ => hφ)) (fun ⟨A188, c189, A191, c192⟩ ⟨hc189, hc192⟩ => ?_)
       refine ga_sta _ (fun W h => (ok_frontR (t := 2000) (t' := 1002) (ok_frontR (t := 2001) (t' := 1003) (ok_front (t := 1000) (t' := 1001) h rfl) rfl) rfl)) <| ga_r (i := 8) (bz 10 511) rfl (by kernel_rfl) (by decide) rfl (r_eql rfl rfl) <| ga_r (i := 9) (bz 10 1023) rfl (by kernel_rfl) (by decide) rfl (r_assign) <| ga_done (by kernel_rfl) <| d_then ?_
       refine c_flat [(6, .bool (decide (x175 = x185)))] ⟨rfl, trivial⟩ (fun u => ?_)
       refine c_sta ⟨w0, M, (1001, go1, .cells #[.slice A188 x186.fItems.length c189, .slice A191 x186.fConns.length c192, .int .i64 x186.fLast, .int .i64 o1.fOpens] 55 (0, 0)) :: (1000, go0, .cells #[.slice A178 x176.fitems.length c179, .slice A181 x176.fconns.length c182, .int .i64 x176.flast, .int .i64 o0.fopens] 61 (0, 0)) :: (100050, g1, .cells #[.int .i64 p2.fKind, .int .i64 p2.fA, .int .i64 p2.fB, .int .i64 p2.fN, .string p2.fBody] 33 (0, 0)) :: H, (1002, ⟨.slice A188 x186.fItems.length c189, 40, 6, x186.fItems.length, x186.fItems.flatMap GItem.enc⟩) :: (1003, ⟨.slice A191 x186.fConns.length c192, 77, 3, x186.fConns.length, x186.fConns.flatMap Gref08_Conn.enc⟩) :: (1000, ⟨.slice A178 x176.fitems.length c179, 40, 6, x176.fitems.length, x176.fitems.flatMap GItem.enc⟩) :: (1001, ⟨.slice A181 x176.fconns.length c182, 63, 3, x176.fconns.length, x176.fconns.flatMap Gnet_conn.enc⟩) :: R, φ⟩ (fun _ h => h) <| c_ret <| d_ret_block <| d_ret_then ?_
       replace hm := Option.some.inj hm
       subst hm
       refine d_sta _ (fun W h => ok_frontR (t := 1003) (t' := 2003) h rfl) <| d_sta _ (fun W h => ok_frontR (t := 1002) (t' := 2002) h rfl) <| d_sta _ (fun W h => ok_frontR (t := 1001) (t' := 2001) h rfl) <| d_sta _ (fun W h => ok_frontR (t := 1000) (t' := 2000) h rfl) ?_
       refine d_retC (A178, c179, A181, c182, A188, c189, A191, c192) Try.results21 ?_ ⟨hc179, hc182, hc189, hc192⟩ (fun W h => (ok_front (t := 1000) (t' := 1000) (ok_front (t := 1001) (t' := 1001) (h.dropH (t := 100050) rfl) rfl) rfl).phi (fun W hφ => hφ)) (.inr rfl)
       refine res_tmp <| res_nil ?_
       exact rfl
      ·
       replace hm := ite_f hm (of_decide_eq_false h134)
       refine c_seq ?_
       refine c_cut (ι := Bool) [0, 1, 5, 24, 95] (fun b196 => [(95, .bool b196)]) (fun b196 => ⟨w0, M, (100050, g1, .cells #[.int .i64 p2.fKind, .int .i64 p2.fA, .int .i64 p2.fB, .int .i64 p2.fN, .string p2.fBody] 33 (0, 0)) :: (1000, go0, .cells #[.slice Ao0_0 o0.fitems.length co0_0, .slice Ao0_1 o0.fconns.length co0_1, .int .i64 o0.flast, .int .i64 o0.fopens] 61 (0, 0)) :: (1001, go1, .cells #[.slice Ao1_0 o1.fItems.length co1_0, .slice Ao1_1 o1.fConns.length co1_1, .int .i64 o1.fLast, .int .i64 o1.fOpens] 55 (0, 0)) :: H, (1000, ⟨.slice Ao0_0 o0.fitems.length co0_0, 40, 6, o0.fitems.length, o0.fitems.flatMap GItem.enc⟩) :: (1001, ⟨.slice Ao0_1 o0.fconns.length co0_1, 63, 3, o0.fconns.length, o0.fconns.flatMap Gnet_conn.enc⟩) :: (1002, ⟨.slice Ao1_0 o1.fItems.length co1_0, 40, 6, o1.fItems.length, o1.fItems.flatMap GItem.enc⟩) :: (1003, ⟨.slice Ao1_1 o1.fConns.length co1_1, 77, 3, o1.fConns.length, o1.fConns.flatMap Gref08_Conn.enc⟩) :: R, φ⟩) (fun b196 => m_law08_does_j3 p2 o0 o1 i3 b196 = some r) ?_ (fun b196 u hm => ?_)
       ·
        refine c_seq <| c_region <| g_v rfl (r_eql rfl rfl) <| g_v rfl r_assign <| g_nil <| d_then ?_
        refine c_cond rfl (fun h629 => ?_) (fun h629 => ?_)
        ·
         replace hm := ite_t hm (of_decide_eq_true h629)
         refine c_skip ?_
         exact d_round (decide (i3 = 7)) hm Nat.zero_lt_one ⟨rfl, rfl, rfl, rfl, rfl, trivial⟩ (fun W h => h.phi (fun W hφ => hφ))
        ·
         replace hm := ite_f hm (of_decide_eq_false h629)
         refine c_region <| g_v rfl (r_eql rfl rfl) <| g_v rfl r_assign <| g_nil ?_
         exact d_round (decide (i3 = 8)) hm Nat.zero_lt_one ⟨rfl, rfl, rfl, rfl, rfl, trivial⟩ (fun W h => h.phi (fun W hφ => hφ))
       ·
        unfold m_law08_does_j3 at hm
        refine d_flat [(0, .pointer (some ⟨go0, 0, none⟩)), (1, .pointer (some ⟨go1, 0, none⟩)), (5, .pointer (some ⟨g1, 0, none⟩)), (24, .int .i64 i3), (95, .bool b196)] ⟨rfl, rfl, rfl, rfl, rfl, trivial⟩ (fun u => ?_)
        refine d_then ?_
        refine c_cond rfl (fun h197 => ?_) (fun h197 => ?_)
        ·
         replace hm := ite_t hm h197
         refine c_seq <| c_region <| g_v rfl r_move <| g_v rfl (r_field (n := 3) Try.underlying33 rfl Try.sizeOf3 rfl rfl) <| g_v rfl (r_load (tag := 100050) rfl rfl rfl Try.isAgg3) ?_
         replace hm := bnd hm
         obtain ⟨⟨x198, x199, x200⟩, hx201, hm⟩ := hm
         refine g_cn ⟨w0, M, (1000, go0, .cells #[.slice Ao0_0 o0.fitems.length co0_0, .slice Ao0_1 o0.fconns.length co0_1, .int .i64 o0.flast, .int .i64 o0.fopens] 61 (0, 0)) :: (100050, g1, .cells #[.int .i64 p2.fKind, .int .i64 p2.fA, .int .i64 p2.fB, .int .i64 p2.fN, .string p2.fBody] 33 (0, 0)) :: (1001, go1, .cells #[.slice Ao1_0 o1.fItems.length co1_0, .slice Ao1_1 o1.fConns.length co1_1, .int .i64 o1.fLast, .int .i64 o1.fOpens] 55 (0, 0)) :: H, (1000, ⟨.slice Ao0_0 o0.fitems.length co0_0, 40, 6, o0.fitems.length, o0.fitems.flatMap GItem.enc⟩) :: (1001, ⟨.slice Ao0_1 o0.fconns.length co0_1, 63, 3, o0.fconns.length, o0.fconns.flatMap Gnet_conn.enc⟩) :: (1002, ⟨.slice Ao1_0 o1.fItems.length co1_0, 40, 6, o1.fItems.length, o1.fItems.flatMap GItem.enc⟩) :: (1003, ⟨.slice Ao1_1 o1.fConns.length co1_1, 77, 3, o1.fConns.length, o1.fConns.flatMap Gref08_Conn.enc⟩) :: R, φ⟩ (fun W h => (ok_front (t := 1000) (t' := 1000) (ok_frontR (t := 1000) (t' := 1000) (ok_frontR (t := 1001) (t' := 1001) h rfl) rfl) rfl)) Try.call17 rfl rfl (c_net_Net_Take p2.fN go0 o0 Ao0_0 co0_0 hco0_0 Ao0_1 co0_1 hco0_1 _ hx201) (fun ⟨A202, c203⟩ hc203 => ?_)
         refine g_sta _ (fun W h => (ok_frontR (t := 2000) (t' := 1000) (ok_frontR (t := 1001) (t' := 1001) (ok_front (t := 1000) (t' := 1000) h rfl) rfl) rfl)) <| g_v rfl r_move <| g_v rfl (r_extract rfl rfl) <| g_v rfl (r_extract rfl rfl) ?_
         refine g_e rfl (e_alloc 100120 Try.zeroValue40) (fun g206 _ => ?_)
         refine g_storeL (tag := 100120) rfl rfl rfl rfl Try.sizeOf40 rfl rfl <| g_v rfl r_assign <| g_nil <| d_then ?_
         refine c_flat [(1, .pointer (some ⟨go1, 0, none⟩)), (5, .pointer (some ⟨g1, 0, none⟩)), (12, .pointer (some ⟨g206, 0, none⟩)), (13, .bool x199)] ⟨rfl, rfl, rfl, rfl, trivial⟩ (fun u => ?_)
         refine c_sta ⟨w0, M, (100120, g206, .cells #[.int .i64 x198.fNumber, .int .i64 x198.fKind, .int .i64 x198.fFrom, .int .i64 x198.fTo, .int .i64 x198.fConn, .string x198.fBody] 40 (0, 0)) :: (1000, go0, .cells #[.slice A202 x200.fitems.length c203, .slice Ao0_1 o0.fconns.length co0_1, .int .i64 o0.flast, .int .i64 o0.fopens] 61 (0, 0)) :: (100050, g1, .cells #[.int .i64 p2.fKind, .int .i64 p2.fA, .int .i64 p2.fB, .int .i64 p2.fN, .string p2.fBody] 33 (0, 0)) :: (1001, go1, .cells #[.slice Ao1_0 o1.fItems.length co1_0, .slice Ao1_1 o1.fConns.length co1_1, .int .i64 o1.fLast, .int .i64 o1.fOpens] 55 (0, 0)) :: H, (1000, ⟨.slice A202 x200.fitems.length c203, 40, 6, x200.fitems.length, x200.fitems.flatMap GItem.enc⟩) :: (1001, ⟨.slice Ao0_1 o0.fconns.length co0_1, 63, 3, o0.fconns.length, o0.fconns.flatMap Gnet_conn.enc⟩) :: (1002, ⟨.slice Ao1_0 o1.fItems.length co1_0, 40, 6, o1.fItems.length, o1.fItems.flatMap GItem.enc⟩) :: (1003, ⟨.slice Ao1_1 o1.fConns.length co1_1, 77, 3, o1.fConns.length, o1.fConns.flatMap Gref08_Conn.enc⟩) :: R, φ⟩ (fun _ h => h) <| c_seq <| c_region <| g_v rfl r_move <| g_v rfl (r_field (n := 3) Try.underlying33 rfl Try.sizeOf3 rfl rfl) <| g_v rfl (r_load (tag := 100050) rfl rfl rfl Try.isAgg3) ?_
         replace hm := bnd hm
         obtain ⟨⟨x207, x208, x209⟩, hx210, hm⟩ := hm
         refine g_cn ⟨w0, M, (1000, go1, .cells #[.slice Ao1_0 o1.fItems.length co1_0, .slice Ao1_1 o1.fConns.length co1_1, .int .i64 o1.fLast, .int .i64 o1.fOpens] 55 (0, 0)) :: (100120, g206, .cells #[.int .i64 x198.fNumber, .int .i64 x198.fKind, .int .i64 x198.fFrom, .int .i64 x198.fTo, .int .i64 x198.fConn, .string x198.fBody] 40 (0, 0)) :: (1000, go0, .cells #[.slice A202 x200.fitems.length c203, .slice Ao0_1 o0.fconns.length co0_1, .int .i64 o0.flast, .int .i64 o0.fopens] 61 (0, 0)) :: (100050, g1, .cells #[.int .i64 p2.fKind, .int .i64 p2.fA, .int .i64 p2.fB, .int .i64 p2.fN, .string p2.fBody] 33 (0, 0)) :: H, (1000, ⟨.slice Ao1_0 o1.fItems.length co1_0, 40, 6, o1.fItems.length, o1.fItems.flatMap GItem.enc⟩) :: (1001, ⟨.slice Ao1_1 o1.fConns.length co1_1, 77, 3, o1.fConns.length, o1.fConns.flatMap Gref08_Conn.enc⟩) :: (1000, ⟨.slice A202 x200.fitems.length c203, 40, 6, x200.fitems.length, x200.fitems.flatMap GItem.enc⟩) :: (1001, ⟨.slice Ao0_1 o0.fconns.length co0_1, 63, 3, o0.fconns.length, o0.fconns.flatMap Gnet_conn.enc⟩) :: R, φ⟩ (fun W h => (ok_front (t := 1001) (t' := 1000) (ok_frontR (t := 1002) (t' := 1000) (ok_frontR (t := 1003) (t' := 1001) h rfl) rfl) rfl)) Try.call47 rfl rfl (c_ref08_Net_Take p2.fN go1 o1 Ao1_0 co1_0 hco1_0 Ao1_1 co1_1 hco1_1 _ hx210) (fun ⟨A211, c212⟩ hc212 => ?_)
         refine g_sta _ (fun W h => (ok_frontR (t := 2000) (t' := 1002) (ok_frontR (t := 1001) (t' := 1003) (ok_front (t := 1000) (t' := 1001) h rfl) rfl) rfl)) <| g_v rfl r_move <| g_v rfl (r_extract rfl rfl) <| g_v rfl (r_extract rfl rfl) ?_
         refine g_e rfl (e_alloc 100140 Try.zeroValue40) (fun g215 _ => ?_)
         refine g_storeL (tag := 100140) rfl rfl rfl rfl Try.sizeOf40 rfl rfl <| g_v rfl r_assign <| g_nil <| d_then ?_
         refine c_flat [(12, .pointer (some ⟨g206, 0, none⟩)), (13, .bool x199), (14, .pointer (some ⟨g215, 0, none⟩)), (15, .bool x208)] ⟨rfl, rfl, rfl, rfl, trivial⟩ (fun u => ?_)
         refine c_sta ⟨w0, M, (100140, g215, .cells #[.int .i64 x207.fNumber, .int .i64 x207.fKind, .int .i64 x207.fFrom, .int .i64 x207.fTo, .int .i64 x207.fConn, .string x207.fBody] 40 (0, 0)) :: (1001, go1, .cells #[.slice A211 x209.fItems.length c212, .slice Ao1_1 o1.fConns.length co1_1, .int .i64 o1.fLast, .int .i64 o1.fOpens] 55 (0, 0)) :: (100120, g206, .cells #[.int .i64 x198.fNumber, .int .i64 x198.fKind, .int .i64 x198.fFrom, .int .i64 x198.fTo, .int .i64 x198.fConn, .string x198.fBody] 40 (0, 0)) :: (1000, go0, .cells #[.slice A202 x200.fitems.length c203, .slice Ao0_1 o0.fconns.length co0_1, .int .i64 o0.flast, .int .i64 o0.fopens] 61 (0, 0)) :: (100050, g1, .cells #[.int .i64 p2.fKind, .int .i64 p2.fA, .int .i64 p2.fB, .int .i64 p2.fN, .string p2.fBody] 33 (0, 0)) :: H, (1002, ⟨.slice A211 x209.fItems.length c212, 40, 6, x209.fItems.length, x209.fItems.flatMap GItem.enc⟩) :: (1003, ⟨.slice Ao1_1 o1.fConns.length co1_1, 77, 3, o1.fConns.length, o1.fConns.flatMap Gref08_Conn.enc⟩) :: (1000, ⟨.slice A202 x200.fitems.length c203, 40, 6, x200.fitems.length, x200.fitems.flatMap GItem.enc⟩) :: (1001, ⟨.slice Ao0_1 o0.fconns.length co0_1, 63, 3, o0.fconns.length, o0.fconns.flatMap Gnet_conn.enc⟩) :: R, φ⟩ (fun _ h => h) <| c_seq <| c_region <| g_v rfl (r_loadA (tag := 100120) rfl rfl Try.isAgg40 Try.sizeOf40 rfl rfl) <| g_v rfl (r_loadA (tag := 100140) rfl rfl Try.isAgg40 Try.sizeOf40 rfl rfl) <| g_v rfl (r_eqlA rfl rfl eqg40 (eqq40 x198 x207)) <| g_v rfl r_move ?_
         refine g_if rfl rfl rfl rfl rfl (fun h216 => ?_) (fun h216 => ?_)
         ·
          replace hm := ite_t hm (of_decide_eq_true h216)
          refine g_v rfl r_move <| g_do rfl rfl rfl rfl rfl h216 <| g_v rfl r_move <| g_do rfl rfl rfl rfl rfl h216 <| g_v rfl (r_eqlBo Try.underlying4 rfl rfl) <| g_v rfl (r_pick1 rfl h216) <| g_v rfl r_assign <| g_nil <| d_then ?_
          refine c_flat [(6, .bool (x199 == x208))] ⟨rfl, trivial⟩ (fun u => ?_)
          refine c_ret <| d_ret_block <| d_ret_then ?_
          replace hm := Option.some.inj hm
          subst hm
          refine d_sta _ (fun W h => ok_frontR (t := 1003) (t' := 2003) h rfl) <| d_sta _ (fun W h => ok_frontR (t := 1002) (t' := 2002) h rfl) <| d_sta _ (fun W h => ok_frontR (t := 1001) (t' := 2001) h rfl) <| d_sta _ (fun W h => ok_frontR (t := 1000) (t' := 2000) h rfl) ?_
          refine d_retC (A202, c203, Ao0_1, co0_1, A211, c212, Ao1_1, co1_1) Try.results21 ?_ ⟨hc203, hco0_1, hc212, hco1_1⟩ (fun W h => (ok_front (t := 1000) (t' := 1000) (ok_front (t := 1001) (t' := 1001) (((h.dropH (t := 100140) rfl).dropH (t := 100120) rfl).dropH (t := 100050) rfl) rfl) rfl).phi (fun W hφ => hφ)) (.inr rfl)
          refine res_tmp <| res_nil ?_
          exact rfl
         ·
          replace hm := ite_f hm (of_decide_eq_false h216)
          refine g_no rfl rfl rfl rfl rfl h216 <| g_no rfl rfl rfl rfl rfl h216 <| g_v rfl (r_pick0 rfl h216) <| g_v rfl r_assign <| g_nil <| d_then <| c_ret <| d_ret_block <| d_ret_then ?_
          replace hm := Option.some.inj hm
          subst hm
          refine d_sta _ (fun W h => ok_frontR (t := 1003) (t' := 2003) h rfl) <| d_sta _ (fun W h => ok_frontR (t := 1002) (t' := 2002) h rfl) <| d_sta _ (fun W h => ok_frontR (t := 1001) (t' := 2001) h rfl) <| d_sta _ (fun W h => ok_frontR (t := 1000) (t' := 2000) h rfl) ?_
          refine d_retC (A202, c203, Ao0_1, co0_1, A211, c212, Ao1_1, co1_1) Try.results21 ?_ ⟨hc203, hco0_1, hc212, hco1_1⟩ (fun W h => (ok_front (t := 1000) (t' := 1000) (ok_front (t := 1001) (t' := 1001) (((h.dropH (t := 100140) rfl).dropH (t := 100120) rfl).dropH (t := 100050) rfl) rfl) rfl).phi (fun W hφ => hφ)) (.inr rfl)
          refine res_tmp <| res_nil ?_
          exact rfl
        ·
         replace hm := ite_f hm (bool_nt h197)
         refine c_seq <| c_region <| g_v rfl (r_eql rfl rfl) <| g_v rfl r_assign <| g_nil <| d_then ?_
         refine c_cond rfl (fun h217 => ?_) (fun h217 => ?_)
         ·
          replace hm := ite_t hm (of_decide_eq_true h217)
          refine c_seq <| ga_start (n := 10) ⟨w0, M, (100050, g1, .cells #[.int .i64 p2.fKind, .int .i64 p2.fA, .int .i64 p2.fB, .int .i64 p2.fN, .string p2.fBody] 33 (0, 0)) :: H, R, φ⟩ [] #[false, false, false, false, false, false, false, false, false, false] (fun W h => ((((((h.dropR (t := 1000) rfl).dropR (t := 1001) rfl).dropR (t := 1002) rfl).dropR (t := 1003) rfl).dropH (t := 1000) rfl).dropH (t := 1001) rfl).phi (fun W hφ => hφ)) mixed rfl rfl <| ga_v (i := 0) (bz 10 1) rfl (by kernel_rfl) (fun _ _ _ _ h => h) rfl (r_move) <| ga_v (i := 1) (bz 10 3) rfl (by kernel_rfl) (fun _ _ _ _ h => h) rfl (r_field (n := 3) Try.underlying33 rfl Try.sizeOf3 rfl rfl) <| ga_v (i := 2) (bz 10 7) rfl (by kernel_rfl) (fun _ _ _ _ h => h) rfl (r_load (tag := 100050) rfl rfl rfl Try.isAgg3) <| ga_v (i := 4) (bz 10 23) rfl (by kernel_rfl) (fun _ _ _ _ h => h) rfl (r_move) <| ga_v (i := 5) (bz 10 55) rfl (by kernel_rfl) (fun _ _ _ _ h => h) rfl (r_field (n := 3) Try.underlying33 rfl Try.sizeOf3 rfl rfl) <| ga_v (i := 6) (bz 10 119) rfl (by kernel_rfl) (fun _ _ _ _ h => h) rfl (r_load (tag := 100050) rfl rfl rfl Try.isAgg3) ?_
          replace hm := bnd hm
          obtain ⟨⟨x246, x247⟩, hx248, hm⟩ := hm
          refine ga_cn (first := #[]) (i := 3) (bz 10 127) rfl (by kernel_rfl) (by decide)  ⟨w0, M, (1000, go0, .cells #[.slice Ao0_0 o0.fitems.length co0_0, .slice Ao0_1 o0.fconns.length co0_1, .int .i64 o0.flast, .int .i64 o0.fopens] 61 (0, 0)) :: (100050, g1, .cells #[.int .i64 p2.fKind, .int .i64 p2.fA, .int .i64 p2.fB, .int .i64 p2.fN, .string p2.fBody] 33 (0, 0)) :: (1001, go1, .cells #[.slice Ao1_0 o1.fItems.length co1_0, .slice Ao1_1 o1.fConns.length co1_1, .int .i64 o1.fLast, .int .i64 o1.fOpens] 55 (0, 0)) :: H, (1000, ⟨.slice Ao0_0 o0.fitems.length co0_0, 40, 6, o0.fitems.length, o0.fitems.flatMap GItem.enc⟩) :: (1001, ⟨.slice Ao0_1 o0.fconns.length co0_1, 63, 3, o0.fconns.length, o0.fconns.flatMap Gnet_conn.enc⟩) :: (1002, ⟨.slice Ao1_0 o1.fItems.length co1_0, 40, 6, o1.fItems.length, o1.fItems.flatMap GItem.enc⟩) :: (1003, ⟨.slice Ao1_1 o1.fConns.length co1_1, 77, 3, o1.fConns.length, o1.fConns.flatMap Gref08_Conn.enc⟩) :: R, φ⟩ (fun W h => (ok_front (t := 1000) (t' := 1000) (ok_frontR (t := 1000) (t' := 1000) (ok_frontR (t := 1001) (t' := 1001) h rfl) rfl) rfl)) Try.call20 rfl rfl rfl (c_net_Net_Drop p2.fN go0 o0 Ao0_0 co0_0 hco0_0 Ao0_1 co0_1 hco0_1 _ hx248) (fun ⟨A249, c250⟩ W hc250 h => (((((((ok_frontR (t := 2000) (t' := 1000) (ok_frontR (t := 1001) (t' := 1001) (ok_front (t := 1000) (t' := 1000) h rfl) rfl) rfl).dropR (t := 1000) rfl).dropR (t := 1001) rfl).dropR (t := 1002) rfl).dropR (t := 1003) rfl).dropH (t := 1000) rfl).dropH (t := 1001) rfl).phi (fun W hφ => hφ)) (fun ⟨A249, c250⟩ hc250 => ?_)
          refine ga_sta _ (fun W h => (ok_frontR (t := 2000) (t' := 1000) (ok_frontR (t := 1001) (t' := 1001) (ok_front (t := 1000) (t' := 1000) h rfl) rfl) rfl)) ?_
          replace hm := bnd hm
          obtain ⟨⟨x253, x254⟩, hx255, hm⟩ := hm
          refine ga_cn (first := #[]) (i := 7) (bz 10 255) rfl (by kernel_rfl) (by decide)  ⟨w0, M, (1000, go1, .cells #[.slice Ao1_0 o1.fItems.length co1_0, .slice Ao1_1 o1.fConns.length co1_1, .int .i64 o1.fLast, .int .i64 o1.fOpens] 55 (0, 0)) :: (1000, go0, .cells #[.slice A249 x247.fitems.length c250, .slice Ao0_1 o0.fconns.length co0_1, .int .i64 o0.flast, .int .i64 o0.fopens] 61 (0, 0)) :: (100050, g1, .cells #[.int .i64 p2.fKind, .int .i64 p2.fA, .int .i64 p2.fB, .int .i64 p2.fN, .string p2.fBody] 33 (0, 0)) :: H, (1000, ⟨.slice Ao1_0 o1.fItems.length co1_0, 40, 6, o1.fItems.length, o1.fItems.flatMap GItem.enc⟩) :: (1001, ⟨.slice Ao1_1 o1.fConns.length co1_1, 77, 3, o1.fConns.length, o1.fConns.flatMap Gref08_Conn.enc⟩) :: (1000, ⟨.slice A249 x247.fitems.length c250, 40, 6, x247.fitems.length, x247.fitems.flatMap GItem.enc⟩) :: (1001, ⟨.slice Ao0_1 o0.fconns.length co0_1, 63, 3, o0.fconns.length, o0.fconns.flatMap Gnet_conn.enc⟩) :: R, φ⟩ (fun W h => (ok_front (t := 1001) (t' := 1000) (ok_frontR (t := 1002) (t' := 1000) (ok_frontR (t := 1003) (t' := 1001) h rfl) rfl) rfl)) Try.call48 rfl rfl rfl (c_ref08_Net_Drop p2.fN go1 o1 Ao1_0 co1_0 hco1_0 Ao1_1 co1_1 hco1_1 _ hx255) (fun ⟨A256, c257⟩ W hc257 h => (((((((ok_frontR (t := 2000) (t' := 1002) (ok_frontR (t := 1001) (t' := 1003) (ok_front (t := 1000) (t' := 1001) h rfl) rfl) rfl).dropR (t := 1002) rfl).dropR (t := 1003) rfl).dropR (t := 1000) rfl).dropR (t := 1001) rfl).dropH (t := 1001) rfl).dropH (t := 1000) rfl).phi (fun W hφ => hφ)) (fun ⟨A256, c257⟩ hc257 => ?_)
          refine ga_sta _ (fun W h => (ok_frontR (t := 2000) (t' := 1002) (ok_frontR (t := 1001) (t' := 1003) (ok_front (t := 1000) (t' := 1001) h rfl) rfl) rfl)) <| ga_r (i := 8) (bz 10 511) rfl (by kernel_rfl) (by decide) rfl (r_eqlBo Try.underlying4 rfl rfl) <| ga_r (i := 9) (bz 10 1023) rfl (by kernel_rfl) (by decide) rfl (r_assign) <| ga_done (by kernel_rfl) <| d_then ?_
          refine c_flat [(6, .bool (x246 == x253))] ⟨rfl, trivial⟩ (fun u => ?_)
          refine c_sta ⟨w0, M, (1001, go1, .cells #[.slice A256 x254.fItems.length c257, .slice Ao1_1 o1.fConns.length co1_1, .int .i64 o1.fLast, .int .i64 o1.fOpens] 55 (0, 0)) :: (1000, go0, .cells #[.slice A249 x247.fitems.length c250, .slice Ao0_1 o0.fconns.length co0_1, .int .i64 o0.flast, .int .i64 o0.fopens] 61 (0, 0)) :: (100050, g1, .cells #[.int .i64 p2.fKind, .int .i64 p2.fA, .int .i64 p2.fB, .int .i64 p2.fN, .string p2.fBody] 33 (0, 0)) :: H, (1002, ⟨.slice A256 x254.fItems.length c257, 40, 6, x254.fItems.length, x254.fItems.flatMap GItem.enc⟩) :: (1003, ⟨.slice Ao1_1 o1.fConns.length co1_1, 77, 3, o1.fConns.length, o1.fConns.flatMap Gref08_Conn.enc⟩) :: (1000, ⟨.slice A249 x247.fitems.length c250, 40, 6, x247.fitems.length, x247.fitems.flatMap GItem.enc⟩) :: (1001, ⟨.slice Ao0_1 o0.fconns.length co0_1, 63, 3, o0.fconns.length, o0.fconns.flatMap Gnet_conn.enc⟩) :: R, φ⟩ (fun _ h => h) <| c_ret <| d_ret_block <| d_ret_then ?_
          replace hm := Option.some.inj hm
          subst hm
          refine d_sta _ (fun W h => ok_frontR (t := 1003) (t' := 2003) h rfl) <| d_sta _ (fun W h => ok_frontR (t := 1002) (t' := 2002) h rfl) <| d_sta _ (fun W h => ok_frontR (t := 1001) (t' := 2001) h rfl) <| d_sta _ (fun W h => ok_frontR (t := 1000) (t' := 2000) h rfl) ?_
          refine d_retC (A249, c250, Ao0_1, co0_1, A256, c257, Ao1_1, co1_1) Try.results21 ?_ ⟨hc250, hco0_1, hc257, hco1_1⟩ (fun W h => (ok_front (t := 1000) (t' := 1000) (ok_front (t := 1001) (t' := 1001) (h.dropH (t := 100050) rfl) rfl) rfl).phi (fun W hφ => hφ)) (.inr rfl)
          refine res_tmp <| res_nil ?_
          exact rfl
         ·
          replace hm := ite_f hm (of_decide_eq_false h217)
          refine c_seq <| c_region <| g_v rfl (r_eql rfl rfl) <| g_v rfl r_assign <| g_nil <| d_then ?_
          refine c_cond rfl (fun h260 => ?_) (fun h260 => ?_)
          ·
           replace hm := ite_t hm (of_decide_eq_true h260)
           refine c_seq <| ga_start (n := 10) ⟨w0, M, (100050, g1, .cells #[.int .i64 p2.fKind, .int .i64 p2.fA, .int .i64 p2.fB, .int .i64 p2.fN, .string p2.fBody] 33 (0, 0)) :: H, R, φ⟩ [] #[false, false, false, false, false, false, false, false, false, false] (fun W h => ((((((h.dropR (t := 1000) rfl).dropR (t := 1001) rfl).dropR (t := 1002) rfl).dropR (t := 1003) rfl).dropH (t := 1000) rfl).dropH (t := 1001) rfl).phi (fun W hφ => hφ)) mixed rfl rfl <| ga_v (i := 0) (bz 10 1) rfl (by kernel_rfl) (fun _ _ _ _ h => h) rfl (r_move) <| ga_v (i := 1) (bz 10 3) rfl (by kernel_rfl) (fun _ _ _ _ h => h) rfl (r_field (n := 3) Try.underlying33 rfl Try.sizeOf3 rfl rfl) <| ga_v (i := 2) (bz 10 7) rfl (by kernel_rfl) (fun _ _ _ _ h => h) rfl (r_load (tag := 100050) rfl rfl rfl Try.isAgg3) <| ga_v (i := 4) (bz 10 23) rfl (by kernel_rfl) (fun _ _ _ _ h => h) rfl (r_move) <| ga_v (i := 5) (bz 10 55) rfl (by kernel_rfl) (fun _ _ _ _ h => h) rfl (r_field (n := 3) Try.underlying33 rfl Try.sizeOf3 rfl rfl) <| ga_v (i := 6) (bz 10 119) rfl (by kernel_rfl) (fun _ _ _ _ h => h) rfl (r_load (tag := 100050) rfl rfl rfl Try.isAgg3) ?_
           replace hm := bnd hm
           obtain ⟨⟨x289, x290⟩, hx291, hm⟩ := hm
           refine ga_cn (first := #[]) (i := 3) (bz 10 127) rfl (by kernel_rfl) (by decide)  ⟨w0, M, (1000, go0, .cells #[.slice Ao0_0 o0.fitems.length co0_0, .slice Ao0_1 o0.fconns.length co0_1, .int .i64 o0.flast, .int .i64 o0.fopens] 61 (0, 0)) :: (100050, g1, .cells #[.int .i64 p2.fKind, .int .i64 p2.fA, .int .i64 p2.fB, .int .i64 p2.fN, .string p2.fBody] 33 (0, 0)) :: (1001, go1, .cells #[.slice Ao1_0 o1.fItems.length co1_0, .slice Ao1_1 o1.fConns.length co1_1, .int .i64 o1.fLast, .int .i64 o1.fOpens] 55 (0, 0)) :: H, (1000, ⟨.slice Ao0_0 o0.fitems.length co0_0, 40, 6, o0.fitems.length, o0.fitems.flatMap GItem.enc⟩) :: (1001, ⟨.slice Ao0_1 o0.fconns.length co0_1, 63, 3, o0.fconns.length, o0.fconns.flatMap Gnet_conn.enc⟩) :: (1002, ⟨.slice Ao1_0 o1.fItems.length co1_0, 40, 6, o1.fItems.length, o1.fItems.flatMap GItem.enc⟩) :: (1003, ⟨.slice Ao1_1 o1.fConns.length co1_1, 77, 3, o1.fConns.length, o1.fConns.flatMap Gref08_Conn.enc⟩) :: R, φ⟩ (fun W h => (ok_front (t := 1000) (t' := 1000) (ok_frontR (t := 1000) (t' := 1000) (ok_frontR (t := 1001) (t' := 1001) h rfl) rfl) rfl)) Try.call16 rfl rfl rfl (c_net_Net_Double p2.fN go0 o0 Ao0_0 co0_0 hco0_0 Ao0_1 co0_1 hco0_1 _ hx291) (fun ⟨A292, c293⟩ W hc293 h => (((((((ok_frontR (t := 2000) (t' := 1000) (ok_frontR (t := 1001) (t' := 1001) (ok_front (t := 1000) (t' := 1000) h rfl) rfl) rfl).dropR (t := 1000) rfl).dropR (t := 1001) rfl).dropR (t := 1002) rfl).dropR (t := 1003) rfl).dropH (t := 1000) rfl).dropH (t := 1001) rfl).phi (fun W hφ => hφ)) (fun ⟨A292, c293⟩ hc293 => ?_)
           refine ga_sta _ (fun W h => (ok_frontR (t := 2000) (t' := 1000) (ok_frontR (t := 1001) (t' := 1001) (ok_front (t := 1000) (t' := 1000) h rfl) rfl) rfl)) ?_
           replace hm := bnd hm
           obtain ⟨⟨x296, x297⟩, hx298, hm⟩ := hm
           refine ga_cn (first := #[]) (i := 7) (bz 10 255) rfl (by kernel_rfl) (by decide)  ⟨w0, M, (1000, go1, .cells #[.slice Ao1_0 o1.fItems.length co1_0, .slice Ao1_1 o1.fConns.length co1_1, .int .i64 o1.fLast, .int .i64 o1.fOpens] 55 (0, 0)) :: (1000, go0, .cells #[.slice A292 x290.fitems.length c293, .slice Ao0_1 o0.fconns.length co0_1, .int .i64 x290.flast, .int .i64 o0.fopens] 61 (0, 0)) :: (100050, g1, .cells #[.int .i64 p2.fKind, .int .i64 p2.fA, .int .i64 p2.fB, .int .i64 p2.fN, .string p2.fBody] 33 (0, 0)) :: H, (1000, ⟨.slice Ao1_0 o1.fItems.length co1_0, 40, 6, o1.fItems.length, o1.fItems.flatMap GItem.enc⟩) :: (1001, ⟨.slice Ao1_1 o1.fConns.length co1_1, 77, 3, o1.fConns.length, o1.fConns.flatMap Gref08_Conn.enc⟩) :: (1000, ⟨.slice A292 x290.fitems.length c293, 40, 6, x290.fitems.length, x290.fitems.flatMap GItem.enc⟩) :: (1001, ⟨.slice Ao0_1 o0.fconns.length co0_1, 63, 3, o0.fconns.length, o0.fconns.flatMap Gnet_conn.enc⟩) :: R, φ⟩ (fun W h => (ok_front (t := 1001) (t' := 1000) (ok_frontR (t := 1002) (t' := 1000) (ok_frontR (t := 1003) (t' := 1001) h rfl) rfl) rfl)) Try.call49 rfl rfl rfl (c_ref08_Net_Double p2.fN go1 o1 Ao1_0 co1_0 hco1_0 Ao1_1 co1_1 hco1_1 _ hx298) (fun ⟨A299, c300⟩ W hc300 h => (((((((ok_frontR (t := 2000) (t' := 1002) (ok_frontR (t := 1001) (t' := 1003) (ok_front (t := 1000) (t' := 1001) h rfl) rfl) rfl).dropR (t := 1002) rfl).dropR (t := 1003) rfl).dropR (t := 1000) rfl).dropR (t := 1001) rfl).dropH (t := 1001) rfl).dropH (t := 1000) rfl).phi (fun W hφ => hφ)) (fun ⟨A299, c300⟩ hc300 => ?_)
           refine ga_sta _ (fun W h => (ok_frontR (t := 2000) (t' := 1002) (ok_frontR (t := 1001) (t' := 1003) (ok_front (t := 1000) (t' := 1001) h rfl) rfl) rfl)) <| ga_r (i := 8) (bz 10 511) rfl (by kernel_rfl) (by decide) rfl (r_eqlBo Try.underlying4 rfl rfl) <| ga_r (i := 9) (bz 10 1023) rfl (by kernel_rfl) (by decide) rfl (r_assign) <| ga_done (by kernel_rfl) <| d_then ?_
           refine c_flat [(6, .bool (x289 == x296))] ⟨rfl, trivial⟩ (fun u => ?_)
           refine c_sta ⟨w0, M, (1001, go1, .cells #[.slice A299 x297.fItems.length c300, .slice Ao1_1 o1.fConns.length co1_1, .int .i64 x297.fLast, .int .i64 o1.fOpens] 55 (0, 0)) :: (1000, go0, .cells #[.slice A292 x290.fitems.length c293, .slice Ao0_1 o0.fconns.length co0_1, .int .i64 x290.flast, .int .i64 o0.fopens] 61 (0, 0)) :: (100050, g1, .cells #[.int .i64 p2.fKind, .int .i64 p2.fA, .int .i64 p2.fB, .int .i64 p2.fN, .string p2.fBody] 33 (0, 0)) :: H, (1002, ⟨.slice A299 x297.fItems.length c300, 40, 6, x297.fItems.length, x297.fItems.flatMap GItem.enc⟩) :: (1003, ⟨.slice Ao1_1 o1.fConns.length co1_1, 77, 3, o1.fConns.length, o1.fConns.flatMap Gref08_Conn.enc⟩) :: (1000, ⟨.slice A292 x290.fitems.length c293, 40, 6, x290.fitems.length, x290.fitems.flatMap GItem.enc⟩) :: (1001, ⟨.slice Ao0_1 o0.fconns.length co0_1, 63, 3, o0.fconns.length, o0.fconns.flatMap Gnet_conn.enc⟩) :: R, φ⟩ (fun _ h => h) <| c_ret <| d_ret_block <| d_ret_then ?_
           replace hm := Option.some.inj hm
           subst hm
           refine d_sta _ (fun W h => ok_frontR (t := 1003) (t' := 2003) h rfl) <| d_sta _ (fun W h => ok_frontR (t := 1002) (t' := 2002) h rfl) <| d_sta _ (fun W h => ok_frontR (t := 1001) (t' := 2001) h rfl) <| d_sta _ (fun W h => ok_frontR (t := 1000) (t' := 2000) h rfl) ?_
           refine d_retC (A292, c293, Ao0_1, co0_1, A299, c300, Ao1_1, co1_1) Try.results21 ?_ ⟨hc293, hco0_1, hc300, hco1_1⟩ (fun W h => (ok_front (t := 1000) (t' := 1000) (ok_front (t := 1001) (t' := 1001) (h.dropH (t := 100050) rfl) rfl) rfl).phi (fun W hφ => hφ)) (.inr rfl)
           refine res_tmp <| res_nil ?_
           exact rfl
          ·
           replace hm := ite_f hm (of_decide_eq_false h260)
           refine c_seq <| c_region <| g_v rfl (r_eql rfl rfl) <| g_v rfl r_assign <| g_nil <| d_then ?_
           refine c_cond rfl (fun h303 => ?_) (fun h303 => ?_)
           ·
            replace hm := ite_t hm (of_decide_eq_true h303)
            refine c_seq <| c_seq <| c_region <| g_v rfl r_assign <| g_nil <| d_then ?_
            refine c_cut (ι := (List GItem) × (List GItem) × Int × Int × Option Addr × Nat × Option Addr × Nat) [] (fun ⟨l419, l422, i425, i426, A420, c421, A423, c424⟩ => []) (fun ⟨l419, l422, i425, i426, A420, c421, A423, c424⟩ => ⟨w0, M, (1000, go0, .cells #[.slice A420 l419.length c421, .slice Ao0_1 o0.fconns.length co0_1, .int .i64 i425, .int .i64 o0.fopens] 61 (0, 0)) :: (1001, go1, .cells #[.slice A423 l422.length c424, .slice Ao1_1 o1.fConns.length co1_1, .int .i64 i426, .int .i64 o1.fOpens] 55 (0, 0)) :: H, (1000, ⟨.slice A420 l419.length c421, 40, 6, l419.length, l419.flatMap GItem.enc⟩) :: (1001, ⟨.slice Ao0_1 o0.fconns.length co0_1, 63, 3, o0.fconns.length, o0.fconns.flatMap Gnet_conn.enc⟩) :: (1002, ⟨.slice A423 l422.length c424, 40, 6, l422.length, l422.flatMap GItem.enc⟩) :: (1003, ⟨.slice Ao1_1 o1.fConns.length co1_1, 77, 3, o1.fConns.length, o1.fConns.flatMap Gref08_Conn.enc⟩) :: R, φ⟩) (fun ⟨l419, l422, i425, i426, A420, c421, A423, c424⟩ => m_law08_does_j4 o0 o1 l419 l422 i425 i426 = some r ∧ l419.length ≤ c421 ∧ l422.length ≤ c424) ?_ (fun ⟨l419, l422, i425, i426, A420, c421, A423, c424⟩ u ⟨hm, hc421, hc424⟩ => ?_)
            ·
             refine c_block ?_
             replace hm := bnd hm
             obtain ⟨out5, hl5, hr5⟩ := hm
             obtain ⟨n541', hl5⟩ := loop_lp hl5
             refine c_loopU (ι := Nat × (List GItem) × (List GItem) × Int × Int × Int × Option Addr × Nat × Option Addr × Nat) [0, 1, 5, 16] (fun ⟨n541, l479, l482, i485, i486, i487, A480, c481, A483, c484⟩ => [(16, .int .i64 i485)]) (fun ⟨n541, l479, l482, i485, i486, i487, A480, c481, A483, c484⟩ => ⟨w0, M, (100050, g1, .cells #[.int .i64 p2.fKind, .int .i64 p2.fA, .int .i64 p2.fB, .int .i64 p2.fN, .string p2.fBody] 33 (0, 0)) :: (1000, go0, .cells #[.slice A480 l479.length c481, .slice Ao0_1 o0.fconns.length co0_1, .int .i64 i486, .int .i64 o0.fopens] 61 (0, 0)) :: (1001, go1, .cells #[.slice A483 l482.length c484, .slice Ao1_1 o1.fConns.length co1_1, .int .i64 i487, .int .i64 o1.fOpens] 55 (0, 0)) :: H, (1000, ⟨.slice A480 l479.length c481, 40, 6, l479.length, l479.flatMap GItem.enc⟩) :: (1001, ⟨.slice Ao0_1 o0.fconns.length co0_1, 63, 3, o0.fconns.length, o0.fconns.flatMap Gnet_conn.enc⟩) :: (1002, ⟨.slice A483 l482.length c484, 40, 6, l482.length, l482.flatMap GItem.enc⟩) :: (1003, ⟨.slice Ao1_1 o1.fConns.length co1_1, 77, 3, o1.fConns.length, o1.fConns.flatMap Gref08_Conn.enc⟩) :: R, φ⟩) (fun ⟨n541, l479, l482, i485, i486, i487, A480, c481, A483, c484⟩ => Lp (fun s => m_law08_does_s5 p2 o0 o1 s.1 s.2.1 s.2.2.1 s.2.2.2.1 s.2.2.2.2) n541 (l479, l482, i485, i486, i487) out5 ∧ l479.length ≤ c481 ∧ l482.length ≤ c484) (fun ⟨n541, l479, l482, i485, i486, i487, A480, c481, A483, c484⟩ => n541) (n541', o0.fitems, o1.fItems, 0, o0.flast, o1.fLast, Ao0_0, co0_0, Ao1_0, co1_0) ⟨hl5, hco0_0, hco1_0⟩ ⟨rfl, rfl, rfl, rfl, trivial⟩ (fun W h => h.phi (fun W hφ => hφ)) (fun ⟨n541, l479, l482, i485, i486, i487, A480, c481, A483, c484⟩ u ⟨hlp, hc481, hc484⟩ => ?_)
             obtain ⟨o5, hm, hnx5⟩ := lp_step hlp
             clear hlp
             replace hm : m_law08_does_s5 p2 o0 o1 l479 l482 i485 i486 i487 = some o5 := hm
             unfold m_law08_does_s5 at hm
             refine c_flat [(0, .pointer (some ⟨go0, 0, none⟩)), (1, .pointer (some ⟨go1, 0, none⟩)), (5, .pointer (some ⟨g1, 0, none⟩)), (16, .int .i64 i485)] ⟨rfl, rfl, rfl, rfl, trivial⟩ (fun u => ?_)
             refine c_sta ⟨w0, M, (100050, g1, .cells #[.int .i64 p2.fKind, .int .i64 p2.fA, .int .i64 p2.fB, .int .i64 p2.fN, .string p2.fBody] 33 (0, 0)) :: (1000, go0, .cells #[.slice A480 l479.length c481, .slice Ao0_1 o0.fconns.length co0_1, .int .i64 i486, .int .i64 o0.fopens] 61 (0, 0)) :: (1001, go1, .cells #[.slice A483 l482.length c484, .slice Ao1_1 o1.fConns.length co1_1, .int .i64 i487, .int .i64 o1.fOpens] 55 (0, 0)) :: H, (1000, ⟨.slice A480 l479.length c481, 40, 6, l479.length, l479.flatMap GItem.enc⟩) :: (1001, ⟨.slice Ao0_1 o0.fconns.length co0_1, 63, 3, o0.fconns.length, o0.fconns.flatMap Gnet_conn.enc⟩) :: (1002, ⟨.slice A483 l482.length c484, 40, 6, l482.length, l482.flatMap GItem.enc⟩) :: (1003, ⟨.slice Ao1_1 o1.fConns.length co1_1, 77, 3, o1.fConns.length, o1.fConns.flatMap Gref08_Conn.enc⟩) :: R, φ⟩ (fun _ h => h) <| c_seq <| c_seq <| c_region <| g_v rfl r_move <| g_v rfl (r_lss rfl rfl) <| g_nil <| d_then ?_
             refine c_cond rfl (fun h542 => ?_) (fun h542 => ?_)
             ·
              replace hm := ite_t hm (of_decide_eq_true h542)
              refine c_skip <| d_then <| c_seq <| c_block <| c_seq <| ga_start (n := 17) ⟨w0, M, (100050, g1, .cells #[.int .i64 p2.fKind, .int .i64 p2.fA, .int .i64 p2.fB, .int .i64 p2.fN, .string p2.fBody] 33 (0, 0)) :: H, R, φ⟩ [] #[false, false, false, false, false, false, false, false, false, false, false, false, false, false, false, false, false] (fun W h => ((((((h.dropR (t := 1000) rfl).dropR (t := 1001) rfl).dropR (t := 1002) rfl).dropR (t := 1003) rfl).dropH (t := 1000) rfl).dropH (t := 1001) rfl).phi (fun W hφ => hφ)) mixed rfl rfl <| ga_v (i := 0) (bz 17 1) rfl (by kernel_rfl) (fun _ _ _ _ h => h) rfl (r_move) <| ga_v (i := 1) (bz 17 3) rfl (by kernel_rfl) (fun _ _ _ _ h => h) rfl (r_field (n := 1) Try.underlying33 rfl Try.sizeOf3 rfl rfl) <| ga_v (i := 2) (bz 17 7) rfl (by kernel_rfl) (fun _ _ _ _ h => h) rfl (r_load (tag := 100050) rfl rfl rfl Try.isAgg3) <| ga_v (i := 3) (bz 17 15) rfl (by kernel_rfl) (fun _ _ _ _ h => h) rfl (r_field (n := 2) Try.underlying33 rfl Try.sizeOf3 rfl rfl) ?_
              refine ga_v (i := 4) (bz 17 31) rfl (by kernel_rfl) (fun _ _ _ _ h => h) rfl (r_load (tag := 100050) rfl rfl rfl Try.isAgg3) <| ga_v (i := 5) (bz 17 63) rfl (by kernel_rfl) (fun _ _ _ _ h => h) rfl (r_field (n := 4) Try.underlying33 rfl Try.sizeOf9 rfl rfl) <| ga_v (i := 6) (bz 17 127) rfl (by kernel_rfl) (fun _ _ _ _ h => h) rfl (r_load (tag := 100050) rfl rfl rfl Try.isAgg9) <| ga_v (i := 8) (bz 17 383) rfl (by kernel_rfl) (fun _ _ _ _ h => h) rfl (r_move) <| ga_v (i := 9) (bz 17 895) rfl (by kernel_rfl) (fun _ _ _ _ h => h) rfl (r_field (n := 1) Try.underlying33 rfl Try.sizeOf3 rfl rfl) <| ga_v (i := 10) (bz 17 1919) rfl (by kernel_rfl) (fun _ _ _ _ h => h) rfl (r_load (tag := 100050) rfl rfl rfl Try.isAgg3) <| ga_v (i := 11) (bz 17 3967) rfl (by kernel_rfl) (fun _ _ _ _ h => h) rfl (r_field (n := 2) Try.underlying33 rfl Try.sizeOf3 rfl rfl) <| ga_v (i := 12) (bz 17 8063) rfl (by kernel_rfl) (fun _ _ _ _ h => h) rfl (r_load (tag := 100050) rfl rfl rfl Try.isAgg3) <| ga_v (i := 13) (bz 17 16255) rfl (by kernel_rfl) (fun _ _ _ _ h => h) rfl (r_field (n := 4) Try.underlying33 rfl Try.sizeOf9 rfl rfl) <| ga_v (i := 14) (bz 17 32639) rfl (by kernel_rfl) (fun _ _ _ _ h => h) rfl (r_load (tag := 100050) rfl rfl rfl Try.isAgg9) ?_
              replace hm := bnd hm
              obtain ⟨⟨x571, x572⟩, hx573, hm⟩ := hm
              refine ga_cn (first := #[]) (i := 7) (bz 17 32767) rfl (by kernel_rfl) (by decide)  ⟨w0, M, (1000, go0, .cells #[.slice A480 l479.length c481, .slice Ao0_1 o0.fconns.length co0_1, .int .i64 i486, .int .i64 o0.fopens] 61 (0, 0)) :: (100050, g1, .cells #[.int .i64 p2.fKind, .int .i64 p2.fA, .int .i64 p2.fB, .int .i64 p2.fN, .string p2.fBody] 33 (0, 0)) :: (1001, go1, .cells #[.slice A483 l482.length c484, .slice Ao1_1 o1.fConns.length co1_1, .int .i64 i487, .int .i64 o1.fOpens] 55 (0, 0)) :: H, (1000, ⟨.slice A480 l479.length c481, 40, 6, l479.length, l479.flatMap GItem.enc⟩) :: (1001, ⟨.slice Ao0_1 o0.fconns.length co0_1, 63, 3, o0.fconns.length, o0.fconns.flatMap Gnet_conn.enc⟩) :: (1002, ⟨.slice A483 l482.length c484, 40, 6, l482.length, l482.flatMap GItem.enc⟩) :: (1003, ⟨.slice Ao1_1 o1.fConns.length co1_1, 77, 3, o1.fConns.length, o1.fConns.flatMap Gref08_Conn.enc⟩) :: R, φ⟩ (fun W h => (ok_front (t := 1000) (t' := 1000) (ok_frontR (t := 1000) (t' := 1000) (ok_frontR (t := 1001) (t' := 1001) h rfl) rfl) rfl)) Try.call15 rfl rfl rfl (c_net_Net_Send p2.fA p2.fB p2.fBody go0 (⟨l479, o0.fconns, i486, o0.fopens⟩ : Gnet_Net) A480 c481 hc481 Ao0_1 co0_1 hco0_1 _ hx573) (fun ⟨A574, c575⟩ W hc575 h => (((((((ok_frontR (t := 2000) (t' := 1000) (ok_frontR (t := 1001) (t' := 1001) (ok_front (t := 1000) (t' := 1000) h rfl) rfl) rfl).dropR (t := 1000) rfl).dropR (t := 1001) rfl).dropR (t := 1002) rfl).dropR (t := 1003) rfl).dropH (t := 1000) rfl).dropH (t := 1001) rfl).phi (fun W hφ => hφ)) (fun ⟨A574, c575⟩ hc575 => ?_)
              refine ga_sta _ (fun W h => (ok_frontR (t := 2000) (t' := 1000) (ok_frontR (t := 1001) (t' := 1001) (ok_front (t := 1000) (t' := 1000) h rfl) rfl) rfl)) ?_
              replace hm := bnd hm
              obtain ⟨⟨x578, x579⟩, hx580, hm⟩ := hm
              refine ga_cn (first := #[]) (i := 15) (bz 17 65535) rfl (by kernel_rfl) (by decide)  ⟨w0, M, (1000, go1, .cells #[.slice A483 l482.length c484, .slice Ao1_1 o1.fConns.length co1_1, .int .i64 i487, .int .i64 o1.fOpens] 55 (0, 0)) :: (1000, go0, .cells #[.slice A574 x572.fitems.length c575, .slice Ao0_1 o0.fconns.length co0_1, .int .i64 x572.flast, .int .i64 o0.fopens] 61 (0, 0)) :: (100050, g1, .cells #[.int .i64 p2.fKind, .int .i64 p2.fA, .int .i64 p2.fB, .int .i64 p2.fN, .string p2.fBody] 33 (0, 0)) :: H, (1000, ⟨.slice A483 l482.length c484, 40, 6, l482.length, l482.flatMap GItem.enc⟩) :: (1001, ⟨.slice Ao1_1 o1.fConns.length co1_1, 77, 3, o1.fConns.length, o1.fConns.flatMap Gref08_Conn.enc⟩) :: (1000, ⟨.slice A574 x572.fitems.length c575, 40, 6, x572.fitems.length, x572.fitems.flatMap GItem.enc⟩) :: (1001, ⟨.slice Ao0_1 o0.fconns.length co0_1, 63, 3, o0.fconns.length, o0.fconns.flatMap Gnet_conn.enc⟩) :: R, φ⟩ (fun W h => (ok_front (t := 1001) (t' := 1000) (ok_frontR (t := 1002) (t' := 1000) (ok_frontR (t := 1003) (t' := 1001) h rfl) rfl) rfl)) Try.call50 rfl rfl rfl (c_ref08_Net_Send p2.fA p2.fB p2.fBody go1 (⟨l482, o1.fConns, i487, o1.fOpens⟩ : Gref08_Net) A483 c484 hc484 Ao1_1 co1_1 hco1_1 _ hx580) (fun ⟨A581, c582⟩ W hc582 h => (((((((ok_frontR (t := 2000) (t' := 1002) (ok_frontR (t := 1001) (t' := 1003) (ok_front (t := 1000) (t' := 1001) h rfl) rfl) rfl).dropR (t := 1002) rfl).dropR (t := 1003) rfl).dropR (t := 1000) rfl).dropR (t := 1001) rfl).dropH (t := 1001) rfl).dropH (t := 1000) rfl).phi (fun W hφ => hφ)) (fun ⟨A581, c582⟩ hc582 => ?_)
              refine ga_sta _ (fun W h => (ok_frontR (t := 2000) (t' := 1002) (ok_frontR (t := 1001) (t' := 1003) (ok_front (t := 1000) (t' := 1001) h rfl) rfl) rfl)) <| ga_r (i := 16) (bz 17 131071) rfl (by kernel_rfl) (by decide) rfl (r_neqBo Try.underlying4 rfl rfl) <| ga_done (by kernel_rfl) <| d_then ?_
              refine c_flat [(0, .pointer (some ⟨go0, 0, none⟩)), (1, .pointer (some ⟨go1, 0, none⟩)), (5, .pointer (some ⟨g1, 0, none⟩)), (16, .int .i64 i485), (164, .bool (!(x571 == x578)))] ⟨rfl, rfl, rfl, rfl, rfl, trivial⟩ (fun u => ?_)
              refine c_sta ⟨w0, M, (1001, go1, .cells #[.slice A581 x579.fItems.length c582, .slice Ao1_1 o1.fConns.length co1_1, .int .i64 x579.fLast, .int .i64 o1.fOpens] 55 (0, 0)) :: (1000, go0, .cells #[.slice A574 x572.fitems.length c575, .slice Ao0_1 o0.fconns.length co0_1, .int .i64 x572.flast, .int .i64 o0.fopens] 61 (0, 0)) :: (100050, g1, .cells #[.int .i64 p2.fKind, .int .i64 p2.fA, .int .i64 p2.fB, .int .i64 p2.fN, .string p2.fBody] 33 (0, 0)) :: H, (1002, ⟨.slice A581 x579.fItems.length c582, 40, 6, x579.fItems.length, x579.fItems.flatMap GItem.enc⟩) :: (1003, ⟨.slice Ao1_1 o1.fConns.length co1_1, 77, 3, o1.fConns.length, o1.fConns.flatMap Gref08_Conn.enc⟩) :: (1000, ⟨.slice A574 x572.fitems.length c575, 40, 6, x572.fitems.length, x572.fitems.flatMap GItem.enc⟩) :: (1001, ⟨.slice Ao0_1 o0.fconns.length co0_1, 63, 3, o0.fconns.length, o0.fconns.flatMap Gnet_conn.enc⟩) :: R, φ⟩ (fun _ h => h) ?_
              refine c_cond rfl (fun h585 => ?_) (fun h585 => ?_)
              ·
               replace hm := ite_t hm h585
               refine c_seq <| c_region <| g_v rfl r_assign <| g_nil <| d_then <| c_ret <| d_ret_block <| d_ret_then <| d_ret_then <| d_ret_block ?_
               refine d_ret_then <| d_ret_then <| d_ret_block <| d_ret_then ?_
               replace hm := nx_out (C := (fun e => Sum.elim (fun e => m_law08_does_j4 o0 o1 e.1 e.2.1 e.2.2.1 e.2.2.2) (fun x => some x) e = some r)) hm hnx5 hr5
               replace hm : some (false, (⟨x572.fitems, o0.fconns, x572.flast, o0.fopens⟩ : Gnet_Net), (⟨x579.fItems, o1.fConns, x579.fLast, o1.fOpens⟩ : Gref08_Net)) = some r := hm
               replace hm := Option.some.inj hm
               subst hm
               refine d_sta _ (fun W h => ok_frontR (t := 1003) (t' := 2003) h rfl) <| d_sta _ (fun W h => ok_frontR (t := 1002) (t' := 2002) h rfl) <| d_sta _ (fun W h => ok_frontR (t := 1001) (t' := 2001) h rfl) <| d_sta _ (fun W h => ok_frontR (t := 1000) (t' := 2000) h rfl) ?_
               refine d_retC (A574, c575, Ao0_1, co0_1, A581, c582, Ao1_1, co1_1) Try.results21 ?_ ⟨hc575, hco0_1, hc582, hco1_1⟩ (fun W h => (ok_front (t := 1000) (t' := 1000) (ok_front (t := 1001) (t' := 1001) (h.dropH (t := 100050) rfl) rfl) rfl).phi (fun W hφ => hφ)) (.inr rfl)
               refine res_tmp <| res_nil ?_
               exact rfl
              ·
               replace hm := ite_f hm (bool_nt h585)
               refine c_skip <| d_normal_block <| d_then <| c_region <| g_v rfl r_move <| g_v rfl (r_add rfl rfl rfl) <| g_v rfl r_assign <| g_nil ?_
               obtain ⟨n586, hn586, hlp⟩ := nx_inl hm hnx5
               exact d_round (n586, x572.fitems, x579.fItems, w64 (i485 + 1), x572.flast, x579.fLast, A574, c575, A581, c582) ⟨hlp, hc575, hc582⟩ hn586 ⟨rfl, rfl, rfl, rfl, trivial⟩ (fun W h => (ok_front (t := 100050) (t' := 100050) (ok_front (t := 1000) (t' := 1000) (ok_front (t := 1001) (t' := 1001) (ok_frontR (t := 1000) (t' := 1000) (ok_frontR (t := 1001) (t' := 1001) (ok_frontR (t := 1002) (t' := 1002) (ok_frontR (t := 1003) (t' := 1003) h rfl) rfl) rfl) rfl) rfl) rfl) rfl).phi (fun W hφ => hφ))
             ·
              replace hm := ite_f hm (of_decide_eq_false h542)
              refine c_exit <| d_exit_then <| d_exit_then <| d_exit_block ?_
              replace hm := nx_out (C := (fun e => Sum.elim (fun e => m_law08_does_j4 o0 o1 e.1 e.2.1 e.2.2.1 e.2.2.2) (fun x => some x) e = some r)) hm hnx5 hr5
              exact d_round (l479, l482, i486, i487, A480, c481, A483, c484) ⟨hm, hc481, hc484⟩ Nat.zero_lt_one trivial (fun W h => (h.dropH (t := 100050) rfl).phi (fun W hφ => hφ))
            ·
             unfold m_law08_does_j4 at hm
             refine d_flat [] trivial (fun u => ?_)
             refine d_sta ⟨w0, M, (1000, go0, .cells #[.slice A420 l419.length c421, .slice Ao0_1 o0.fconns.length co0_1, .int .i64 i425, .int .i64 o0.fopens] 61 (0, 0)) :: (1001, go1, .cells #[.slice A423 l422.length c424, .slice Ao1_1 o1.fConns.length co1_1, .int .i64 i426, .int .i64 o1.fOpens] 55 (0, 0)) :: H, (1000, ⟨.slice A420 l419.length c421, 40, 6, l419.length, l419.flatMap GItem.enc⟩) :: (1001, ⟨.slice Ao0_1 o0.fconns.length co0_1, 63, 3, o0.fconns.length, o0.fconns.flatMap Gnet_conn.enc⟩) :: (1002, ⟨.slice A423 l422.length c424, 40, 6, l422.length, l422.flatMap GItem.enc⟩) :: (1003, ⟨.slice Ao1_1 o1.fConns.length co1_1, 77, 3, o1.fConns.length, o1.fConns.flatMap Gref08_Conn.enc⟩) :: R, φ⟩ (fun _ h => h) <| d_then <| c_seq <| c_region <| g_v rfl r_assign <| g_nil <| d_then <| c_ret <| d_ret_block <| d_ret_then ?_
             replace hm := Option.some.inj hm
             subst hm
             refine d_sta _ (fun W h => ok_frontR (t := 1003) (t' := 2003) h rfl) <| d_sta _ (fun W h => ok_frontR (t := 1002) (t' := 2002) h rfl) <| d_sta _ (fun W h => ok_frontR (t := 1001) (t' := 2001) h rfl) <| d_sta _ (fun W h => ok_frontR (t := 1000) (t' := 2000) h rfl) ?_
             refine d_retC (A420, c421, Ao0_1, co0_1, A423, c424, Ao1_1, co1_1) Try.results21 ?_ ⟨hc421, hco0_1, hc424, hco1_1⟩ (fun W h => h.phi (fun W hφ => hφ)) (.inr rfl)
             refine res_tmp <| res_nil ?_
             exact rfl
           ·
            replace hm := ite_f hm (of_decide_eq_false h303)
            refine c_skip <| d_normal_block <| d_then <| c_seq <| ga_start (n := 18) ⟨w0, M, (100050, g1, .cells #[.int .i64 p2.fKind, .int .i64 p2.fA, .int .i64 p2.fB, .int .i64 p2.fN, .string p2.fBody] 33 (0, 0)) :: H, R, φ⟩ [] #[false, false, false, false, false, false, false, false, false, false, false, false, false, false, false, false, false, false] (fun W h => ((((((h.dropR (t := 1000) rfl).dropR (t := 1001) rfl).dropR (t := 1002) rfl).dropR (t := 1003) rfl).dropH (t := 1000) rfl).dropH (t := 1001) rfl).phi (fun W hφ => hφ)) mixed rfl rfl <| ga_v (i := 0) (bz 18 1) rfl (by kernel_rfl) (fun _ _ _ _ h => h) rfl (r_move) <| ga_v (i := 1) (bz 18 3) rfl (by kernel_rfl) (fun _ _ _ _ h => h) rfl (r_field (n := 1) Try.underlying33 rfl Try.sizeOf3 rfl rfl) <| ga_v (i := 2) (bz 18 7) rfl (by kernel_rfl) (fun _ _ _ _ h => h) rfl (r_load (tag := 100050) rfl rfl rfl Try.isAgg3) <| ga_v (i := 3) (bz 18 15) rfl (by kernel_rfl) (fun _ _ _ _ h => h) rfl (r_field (n := 2) Try.underlying33 rfl Try.sizeOf3 rfl rfl) <| ga_v (i := 4) (bz 18 31) rfl (by kernel_rfl) (fun _ _ _ _ h => h) rfl (r_load (tag := 100050) rfl rfl rfl Try.isAgg3) ?_
            refine ga_v (i := 5) (bz 18 63) rfl (by kernel_rfl) (fun _ _ _ _ h => h) rfl (r_field (n := 4) Try.underlying33 rfl Try.sizeOf9 rfl rfl) <| ga_v (i := 6) (bz 18 127) rfl (by kernel_rfl) (fun _ _ _ _ h => h) rfl (r_load (tag := 100050) rfl rfl rfl Try.isAgg9) <| ga_v (i := 8) (bz 18 383) rfl (by kernel_rfl) (fun _ _ _ _ h => h) rfl (r_move) <| ga_v (i := 9) (bz 18 895) rfl (by kernel_rfl) (fun _ _ _ _ h => h) rfl (r_field (n := 1) Try.underlying33 rfl Try.sizeOf3 rfl rfl) <| ga_v (i := 10) (bz 18 1919) rfl (by kernel_rfl) (fun _ _ _ _ h => h) rfl (r_load (tag := 100050) rfl rfl rfl Try.isAgg3) <| ga_v (i := 11) (bz 18 3967) rfl (by kernel_rfl) (fun _ _ _ _ h => h) rfl (r_field (n := 2) Try.underlying33 rfl Try.sizeOf3 rfl rfl) <| ga_v (i := 12) (bz 18 8063) rfl (by kernel_rfl) (fun _ _ _ _ h => h) rfl (r_load (tag := 100050) rfl rfl rfl Try.isAgg3) <| ga_v (i := 13) (bz 18 16255) rfl (by kernel_rfl) (fun _ _ _ _ h => h) rfl (r_field (n := 4) Try.underlying33 rfl Try.sizeOf9 rfl rfl) <| ga_v (i := 14) (bz 18 32639) rfl (by kernel_rfl) (fun _ _ _ _ h => h) rfl (r_load (tag := 100050) rfl rfl rfl Try.isAgg9) ?_
            replace hm := bnd hm
            obtain ⟨⟨x615, x616⟩, hx617, hm⟩ := hm
            refine ga_cn (first := #[]) (i := 7) (bz 18 32767) rfl (by kernel_rfl) (by decide)  ⟨w0, M, (1000, go0, .cells #[.slice Ao0_0 o0.fitems.length co0_0, .slice Ao0_1 o0.fconns.length co0_1, .int .i64 o0.flast, .int .i64 o0.fopens] 61 (0, 0)) :: (100050, g1, .cells #[.int .i64 p2.fKind, .int .i64 p2.fA, .int .i64 p2.fB, .int .i64 p2.fN, .string p2.fBody] 33 (0, 0)) :: (1001, go1, .cells #[.slice Ao1_0 o1.fItems.length co1_0, .slice Ao1_1 o1.fConns.length co1_1, .int .i64 o1.fLast, .int .i64 o1.fOpens] 55 (0, 0)) :: H, (1000, ⟨.slice Ao0_0 o0.fitems.length co0_0, 40, 6, o0.fitems.length, o0.fitems.flatMap GItem.enc⟩) :: (1001, ⟨.slice Ao0_1 o0.fconns.length co0_1, 63, 3, o0.fconns.length, o0.fconns.flatMap Gnet_conn.enc⟩) :: (1002, ⟨.slice Ao1_0 o1.fItems.length co1_0, 40, 6, o1.fItems.length, o1.fItems.flatMap GItem.enc⟩) :: (1003, ⟨.slice Ao1_1 o1.fConns.length co1_1, 77, 3, o1.fConns.length, o1.fConns.flatMap Gref08_Conn.enc⟩) :: R, φ⟩ (fun W h => (ok_front (t := 1000) (t' := 1000) (ok_frontR (t := 1000) (t' := 1000) (ok_frontR (t := 1001) (t' := 1001) h rfl) rfl) rfl)) Try.call15 rfl rfl rfl (c_net_Net_Send p2.fA p2.fB p2.fBody go0 o0 Ao0_0 co0_0 hco0_0 Ao0_1 co0_1 hco0_1 _ hx617) (fun ⟨A618, c619⟩ W hc619 h => (((((((ok_frontR (t := 2000) (t' := 1000) (ok_frontR (t := 1001) (t' := 1001) (ok_front (t := 1000) (t' := 1000) h rfl) rfl) rfl).dropR (t := 1000) rfl).dropR (t := 1001) rfl).dropR (t := 1002) rfl).dropR (t := 1003) rfl).dropH (t := 1000) rfl).dropH (t := 1001) rfl).phi (fun W hφ => hφ)) (fun ⟨A618, c619⟩ hc619 => ?_)
            refine ga_sta _ (fun W h => (ok_frontR (t := 2000) (t' := 1000) (ok_frontR (t := 1001) (t' := 1001) (ok_front (t := 1000) (t' := 1000) h rfl) rfl) rfl)) ?_
            replace hm := bnd hm
            obtain ⟨⟨x622, x623⟩, hx624, hm⟩ := hm
            refine ga_cn (first := #[]) (i := 15) (bz 18 65535) rfl (by kernel_rfl) (by decide)  ⟨w0, M, (1000, go1, .cells #[.slice Ao1_0 o1.fItems.length co1_0, .slice Ao1_1 o1.fConns.length co1_1, .int .i64 o1.fLast, .int .i64 o1.fOpens] 55 (0, 0)) :: (1000, go0, .cells #[.slice A618 x616.fitems.length c619, .slice Ao0_1 o0.fconns.length co0_1, .int .i64 x616.flast, .int .i64 o0.fopens] 61 (0, 0)) :: (100050, g1, .cells #[.int .i64 p2.fKind, .int .i64 p2.fA, .int .i64 p2.fB, .int .i64 p2.fN, .string p2.fBody] 33 (0, 0)) :: H, (1000, ⟨.slice Ao1_0 o1.fItems.length co1_0, 40, 6, o1.fItems.length, o1.fItems.flatMap GItem.enc⟩) :: (1001, ⟨.slice Ao1_1 o1.fConns.length co1_1, 77, 3, o1.fConns.length, o1.fConns.flatMap Gref08_Conn.enc⟩) :: (1000, ⟨.slice A618 x616.fitems.length c619, 40, 6, x616.fitems.length, x616.fitems.flatMap GItem.enc⟩) :: (1001, ⟨.slice Ao0_1 o0.fconns.length co0_1, 63, 3, o0.fconns.length, o0.fconns.flatMap Gnet_conn.enc⟩) :: R, φ⟩ (fun W h => (ok_front (t := 1001) (t' := 1000) (ok_frontR (t := 1002) (t' := 1000) (ok_frontR (t := 1003) (t' := 1001) h rfl) rfl) rfl)) Try.call50 rfl rfl rfl (c_ref08_Net_Send p2.fA p2.fB p2.fBody go1 o1 Ao1_0 co1_0 hco1_0 Ao1_1 co1_1 hco1_1 _ hx624) (fun ⟨A625, c626⟩ W hc626 h => (((((((ok_frontR (t := 2000) (t' := 1002) (ok_frontR (t := 1001) (t' := 1003) (ok_front (t := 1000) (t' := 1001) h rfl) rfl) rfl).dropR (t := 1002) rfl).dropR (t := 1003) rfl).dropR (t := 1000) rfl).dropR (t := 1001) rfl).dropH (t := 1001) rfl).dropH (t := 1000) rfl).phi (fun W hφ => hφ)) (fun ⟨A625, c626⟩ hc626 => ?_)
            refine ga_sta _ (fun W h => (ok_frontR (t := 2000) (t' := 1002) (ok_frontR (t := 1001) (t' := 1003) (ok_front (t := 1000) (t' := 1001) h rfl) rfl) rfl)) <| ga_r (i := 16) (bz 18 131071) rfl (by kernel_rfl) (by decide) rfl (r_eqlBo Try.underlying4 rfl rfl) <| ga_r (i := 17) (bz 18 262143) rfl (by kernel_rfl) (by decide) rfl (r_assign) <| ga_done (by kernel_rfl) <| d_then ?_
            refine c_flat [(6, .bool (x615 == x622))] ⟨rfl, trivial⟩ (fun u => ?_)
            refine c_sta ⟨w0, M, (1001, go1, .cells #[.slice A625 x623.fItems.length c626, .slice Ao1_1 o1.fConns.length co1_1, .int .i64 x623.fLast, .int .i64 o1.fOpens] 55 (0, 0)) :: (1000, go0, .cells #[.slice A618 x616.fitems.length c619, .slice Ao0_1 o0.fconns.length co0_1, .int .i64 x616.flast, .int .i64 o0.fopens] 61 (0, 0)) :: (100050, g1, .cells #[.int .i64 p2.fKind, .int .i64 p2.fA, .int .i64 p2.fB, .int .i64 p2.fN, .string p2.fBody] 33 (0, 0)) :: H, (1002, ⟨.slice A625 x623.fItems.length c626, 40, 6, x623.fItems.length, x623.fItems.flatMap GItem.enc⟩) :: (1003, ⟨.slice Ao1_1 o1.fConns.length co1_1, 77, 3, o1.fConns.length, o1.fConns.flatMap Gref08_Conn.enc⟩) :: (1000, ⟨.slice A618 x616.fitems.length c619, 40, 6, x616.fitems.length, x616.fitems.flatMap GItem.enc⟩) :: (1001, ⟨.slice Ao0_1 o0.fconns.length co0_1, 63, 3, o0.fconns.length, o0.fconns.flatMap Gnet_conn.enc⟩) :: R, φ⟩ (fun _ h => h) <| c_ret ?_
            replace hm := Option.some.inj hm
            subst hm
            refine d_sta _ (fun W h => ok_frontR (t := 1003) (t' := 2003) h rfl) <| d_sta _ (fun W h => ok_frontR (t := 1002) (t' := 2002) h rfl) <| d_sta _ (fun W h => ok_frontR (t := 1001) (t' := 2001) h rfl) <| d_sta _ (fun W h => ok_frontR (t := 1000) (t' := 2000) h rfl) ?_
            refine d_retC (A618, c619, Ao0_1, co0_1, A625, c626, Ao1_1, co1_1) Try.results21 ?_ ⟨hc619, hco0_1, hc626, hco1_1⟩ (fun W h => (ok_front (t := 1000) (t' := 1000) (ok_front (t := 1001) (t' := 1001) (h.dropH (t := 100050) rfl) rfl) rfl).phi (fun W hφ => hφ)) (.inr rfl)
            refine res_tmp <| res_nil ?_
            exact rfl
noncomputable def m_net_Net_Waits (o0 : Gnet_Net) : Option Int :=
  some (o0.fitems.length : Int)
theorem c_net_Net_Waits {w0 : World} {M : Nat → Prop} {H : List (Nat × Nat × Obj)} {R : List (Nat × Row)} {φ : World → Prop} (go0 : Nat) (o0 : Gnet_Net) (Ao0_0 : Option Addr) (co0_0 : Nat) (hco0_0 : o0.fitems.length ≤ co0_0) (Ao0_1 : Option Addr) (co0_1 : Nat) (hco0_1 : o0.fconns.length ≤ co0_1) (r : Int) (hm : m_net_Net_Waits o0 = some r) :
    Cn Try.prog 18 #[.pointer (some ⟨go0, 0, none⟩)] ⟨w0, M, (1000, go0, .cells #[.slice Ao0_0 o0.fitems.length co0_0, .slice Ao0_1 o0.fconns.length co0_1, .int .i64 o0.flast, .int .i64 o0.fopens] 61 (0, 0)) :: H, (1000, ⟨.slice Ao0_0 o0.fitems.length co0_0, 40, 6, o0.fitems.length, o0.fitems.flatMap GItem.enc⟩) :: (1001, ⟨.slice Ao0_1 o0.fconns.length co0_1, 63, 3, o0.fconns.length, o0.fconns.flatMap Gnet_conn.enc⟩) :: R, φ⟩ (fun x : Unit => .int .i64 r) (fun x => True) (fun x => ⟨w0, M, (1000, go0, .cells #[.slice Ao0_0 o0.fitems.length co0_0, .slice Ao0_1 o0.fconns.length co0_1, .int .i64 o0.flast, .int .i64 o0.fopens] 61 (0, 0)) :: H, (1000, ⟨.slice Ao0_0 o0.fitems.length co0_0, 40, 6, o0.fitems.length, o0.fitems.flatMap GItem.enc⟩) :: (1001, ⟨.slice Ao0_1 o0.fconns.length co0_1, 63, 3, o0.fconns.length, o0.fconns.flatMap Gnet_conn.enc⟩) :: R, φ⟩) := by
 unfold m_net_Net_Waits at hm
 refine cn_intro (fn := Try.f18) (N := 10) Try.func18 rfl Try.ntmps18 rfl <| c_seq <| c_region <| g_v rfl r_assign <| g_nil <| d_then <| c_seq <| c_seq <| c_region <| g_v rfl r_move ?_
 refine g_v rfl (r_eqlP1 Try.underlying24 rfl rfl) <| g_nil <| d_then <| c_cond0 rfl rfl <| c_skip <| d_then <| c_seq <| c_region <| g_v rfl r_move <| g_v rfl (r_nilck rfl) ?_
 refine g_v rfl (r_field (n := 0) Try.underlying61 rfl Try.sizeOf52 rfl rfl) <| g_v rfl (r_load (tag := 1000) rfl rfl rfl Try.isAgg52) <| g_v rfl (r_lenL Try.underlying52 rfl) <| g_v rfl r_assign <| g_nil <| d_then ?_
 refine c_flat [(2, .int .i64 (o0.fitems.length : Int))] ⟨rfl, trivial⟩ (fun u => ?_)
 refine c_sta ⟨w0, M, (1000, go0, .cells #[.slice Ao0_0 o0.fitems.length co0_0, .slice Ao0_1 o0.fconns.length co0_1, .int .i64 o0.flast, .int .i64 o0.fopens] 61 (0, 0)) :: H, (1000, ⟨.slice Ao0_0 o0.fitems.length co0_0, 40, 6, o0.fitems.length, o0.fitems.flatMap GItem.enc⟩) :: (1001, ⟨.slice Ao0_1 o0.fconns.length co0_1, 63, 3, o0.fconns.length, o0.fconns.flatMap Gnet_conn.enc⟩) :: R, φ⟩ (fun _ h => h) <| c_ret ?_
 replace hm := Option.some.inj hm
 subst hm
 refine d_retC () Try.results18 ?_ trivial (fun W h => h.phi (fun W hφ => hφ)) (.inr rfl)
 refine res_tmp <| res_nil ?_
 exact rfl
noncomputable def m_ref08_Same_j1  : Option Bool :=
  some true
noncomputable def m_ref08_Same_s2 (p0 : List GItem) (p1 : List GItem) (i85 : Int) : Option (Int ⊕ (Unit ⊕ Bool)) :=
  if i85 < (p0.length : Int) then
    (at_ p0 i85).bind fun x131 =>
    (at_ p1 i85).bind fun x135 =>
    if x131 = x135 then
      some (.inl (w64 (i85 + 1)))
    else
      some (.inr (.inr false))
  else
    some (.inr (.inl ()))
noncomputable def m_ref08_Same (p0 : List GItem) (p1 : List GItem) : Option Bool :=
  if (p0.length : Int) ≠ (p1.length : Int) then
    some false
  else
    (loop (fun s => m_ref08_Same_s2 p0 p1 s) 0).bind fun e => Sum.elim (fun e => m_ref08_Same_j1) (fun x => some x) e
theorem c_ref08_Same {w0 : World} {M : Nat → Prop} {H : List (Nat × Nat × Obj)} {R : List (Nat × Row)} {φ : World → Prop} (p0 : List GItem) (Ap0_0 : Option Addr) (cp0_0 : Nat) (hcp0_0 : p0.length ≤ cp0_0) (fp0_0 : ∀ W, (Sta.mk w0 M H R φ).ok W → Cl W Ap0_0 (p0.flatMap GItem.enc)) (p1 : List GItem) (Ap1_0 : Option Addr) (cp1_0 : Nat) (hcp1_0 : p1.length ≤ cp1_0) (fp1_0 : ∀ W, (Sta.mk w0 M H R φ).ok W → Cl W Ap1_0 (p1.flatMap GItem.enc)) (r : Bool) (hm : m_ref08_Same p0 p1 = some r) :
    Cn Try.prog 24 #[.slice Ap0_0 p0.length cp0_0, .slice Ap1_0 p1.length cp1_0] ⟨w0, M, H, R, φ⟩ (fun x : Unit => .bool r) (fun x => True) (fun x => ⟨w0, M, H, R, φ⟩) := by
 unfold m_ref08_Same at hm
 refine cn_intro (fn := Try.f24) (N := 26) Try.func24 rfl Try.ntmps24 rfl <| c_seq <| c_region <| g_v rfl r_assign <| g_nil <| d_then <| c_seq <| c_seq <| c_region <| g_v rfl r_move ?_
 refine g_v rfl (r_lenL Try.underlying52 rfl) <| g_v rfl r_move <| g_v rfl (r_lenL Try.underlying52 rfl) <| g_v rfl (r_neq rfl rfl) <| g_nil <| d_then ?_
 refine c_cond rfl (fun h1 => ?_) (fun h1 => ?_)
 ·
  replace hm := ite_t hm (of_decide_eq_true h1)
  refine c_seq <| c_region <| g_v rfl r_assign <| g_nil <| d_then <| c_ret <| d_ret_then ?_
  replace hm := Option.some.inj hm
  subst hm
  refine d_retC () Try.results24 ?_ trivial (fun W h => ok_pre (H1 := []) (R1 := []) h (fun W hφ => hφ)) (.inr rfl)
  refine res_tmp <| res_nil ?_
  exact rfl
 ·
  replace hm := ite_f hm (of_decide_eq_false h1)
  refine c_skip <| d_then <| c_seq <| c_seq <| c_region <| g_v rfl r_assign <| g_nil <| d_then ?_
  refine c_cut (ι := Unit) [] (fun _ => []) (fun _ => ⟨w0, M, H, R, φ⟩) (fun _ => m_ref08_Same_j1 = some r) ?_ (fun _ u hm => ?_)
  ·
   refine c_block ?_
   replace hm := bnd hm
   obtain ⟨out2, hl2, hr2⟩ := hm
   obtain ⟨n113', hl2⟩ := loop_lp hl2
   refine c_loopU (ι := Nat × Int) [0, 1, 5] (fun ⟨n113, i85⟩ => [(5, .int .i64 i85)]) (fun ⟨n113, i85⟩ => ⟨w0, M, H, R, φ⟩) (fun ⟨n113, i85⟩ => Lp (fun s => m_ref08_Same_s2 p0 p1 s) n113 i85 out2) (fun ⟨n113, i85⟩ => n113) (n113', 0) hl2 ⟨rfl, rfl, rfl, trivial⟩ (fun W h => h.phi (fun W hφ => hφ)) (fun ⟨n113, i85⟩ u hlp => ?_)
   obtain ⟨o2, hm, hnx2⟩ := lp_step hlp
   clear hlp
   replace hm : m_ref08_Same_s2 p0 p1 i85 = some o2 := hm
   unfold m_ref08_Same_s2 at hm
   refine c_flat [(0, .slice Ap0_0 p0.length cp0_0), (1, .slice Ap1_0 p1.length cp1_0), (5, .int .i64 i85)] ⟨rfl, rfl, rfl, trivial⟩ (fun u => ?_)
   refine c_sta ⟨w0, M, H, R, φ⟩ (fun _ h => h) <| c_seq <| c_seq <| c_region <| g_v rfl r_move <| g_v rfl r_move <| g_v rfl (r_lenL Try.underlying52 rfl) <| g_v rfl (r_lss rfl rfl) <| g_nil <| d_then ?_
   refine c_cond rfl (fun h114 => ?_) (fun h114 => ?_)
   ·
    replace hm := ite_t hm (of_decide_eq_true h114)
    refine c_skip <| d_then <| c_seq <| c_block <| c_seq <| ga_start (n := 9) ⟨w0, M, H, R, φ⟩ [] #[false, false, false, false, false, false, false, false, false] (fun W h => h.phi (fun W hφ => hφ)) mixed rfl rfl <| ga_v (i := 0) (bz 9 1) rfl (by kernel_rfl) (fun _ _ _ _ h => h) rfl (r_move) <| ga_v (i := 1) (bz 9 3) rfl (by kernel_rfl) (fun _ _ _ _ h => h) rfl (r_move) ?_
    replace hm := bnd hm
    obtain ⟨x131, hx131, hm⟩ := hm
    refine ga_know _ (fun W hS => cl_at (p := (Sta.mk w0 M H R φ).ok) (sz := 6) (fun _ => rfl) (by decide) (ok_pre (H1 := []) (R1 := []) hS (fun W h => h)) fp0_0 hx131) ?_
    rintro ⟨ad132, hA134, f133⟩
    refine ga_v (i := 2) (bz 9 7) rfl (by kernel_rfl) (fun _ _ _ _ h => h) rfl (r_ix Try.underlying52 Try.sizeOf40 rfl hA134 rfl hx131) <| ga_v (i := 3) (bz 9 15) rfl (by kernel_rfl) (fun _ _ _ _ h => h) rfl (r_ldA rfl Try.isAgg40 Try.sizeOf40 (fun W hS => (f133 W (ok_pre (H1 := []) (R1 := []) hS (fun W h => h))).take 6) rfl) <| ga_v (i := 4) (bz 9 31) rfl (by kernel_rfl) (fun _ _ _ _ h => h) rfl (r_move) <| ga_r (i := 5) (bz 9 63) rfl (by kernel_rfl) (by decide) rfl (r_move) ?_
    replace hm := bnd hm
    obtain ⟨x135, hx135, hm⟩ := hm
    refine ga_know _ (fun W hS => cl_at (p := (Sta.mk w0 M H R φ).ok) (sz := 6) (fun _ => rfl) (by decide) (ok_pre (H1 := []) (R1 := []) hS (fun W h => h)) fp1_0 hx135) ?_
    rintro ⟨ad136, hA138, f137⟩
    refine ga_r (i := 6) (bz 9 127) rfl (by kernel_rfl) (by decide) rfl (r_ix Try.underlying52 Try.sizeOf40 rfl hA138 rfl hx135) <| ga_r (i := 7) (bz 9 255) rfl (by kernel_rfl) (by decide) rfl (r_ldA rfl Try.isAgg40 Try.sizeOf40 (fun W hS => (f137 W (ok_pre (H1 := []) (R1 := []) hS (fun W h => h))).take 6) rfl) <| ga_r (i := 8) (bz 9 511) rfl (by kernel_rfl) (by decide) rfl (r_neqA rfl rfl eqg40 (eqq40 x131 x135)) <| ga_done (by kernel_rfl) <| d_then ?_
    refine c_flat [(0, .slice Ap0_0 p0.length cp0_0), (1, .slice Ap1_0 p1.length cp1_0), (5, .int .i64 i85), (25, .bool (!(decide (x131 = x135))))] ⟨rfl, rfl, rfl, rfl, trivial⟩ (fun u => ?_)
    refine c_cond rfl (fun h139 => ?_) (fun h139 => ?_)
    ·
     have h139' : (decide (x131 = x135)) = false := by revert h139; cases (decide (x131 = x135)) <;> simp
     replace hm := ite_f hm (of_decide_eq_false h139')
     refine c_seq <| c_region <| g_v rfl r_assign <| g_nil <| d_then <| c_ret <| d_ret_block <| d_ret_then <| d_ret_then <| d_ret_block ?_
     refine d_ret_then <| d_ret_then ?_
     replace hm := nx_out (C := (fun e => Sum.elim (fun e => m_ref08_Same_j1) (fun x => some x) e = some r)) hm hnx2 hr2
     replace hm : some false = some r := hm
     replace hm := Option.some.inj hm
     subst hm
     refine d_retC () Try.results24 ?_ trivial (fun W h => ok_pre (H1 := []) (R1 := []) h (fun W hφ => hφ)) (.inr rfl)
     refine res_tmp <| res_nil ?_
     exact rfl
    ·
     have h139' : (decide (x131 = x135)) = true := by revert h139; cases (decide (x131 = x135)) <;> simp
     replace hm := ite_t hm (of_decide_eq_true h139')
     refine c_skip <| d_normal_block <| d_then <| c_region <| g_v rfl r_move <| g_v rfl (r_add rfl rfl rfl) <| g_v rfl r_assign <| g_nil ?_
     obtain ⟨n140, hn140, hlp⟩ := nx_inl hm hnx2
     exact d_round (n140, w64 (i85 + 1)) hlp hn140 ⟨rfl, rfl, rfl, trivial⟩ (fun W h => h.phi (fun W hφ => hφ))
   ·
    replace hm := ite_f hm (of_decide_eq_false h114)
    refine c_exit <| d_exit_then <| d_exit_then <| d_exit_block ?_
    replace hm := nx_out (C := (fun e => Sum.elim (fun e => m_ref08_Same_j1) (fun x => some x) e = some r)) hm hnx2 hr2
    exact d_round () hm Nat.zero_lt_one trivial (fun W h => h.phi (fun W hφ => hφ))
  ·
   unfold m_ref08_Same_j1 at hm
   refine d_flat [] trivial (fun u => ?_)
   refine d_sta ⟨w0, M, H, R, φ⟩ (fun _ h => h) <| d_then <| c_seq <| c_region <| g_v rfl r_assign <| g_nil <| d_then <| c_ret ?_
   replace hm := Option.some.inj hm
   subst hm
   refine d_retC () Try.results24 ?_ trivial (fun W h => ok_pre (H1 := []) (R1 := []) h (fun W hφ => hφ)) (.inr rfl)
   refine res_tmp <| res_nil ?_
   exact rfl
noncomputable def m_law08_NetPlays_j1 (x1 : Bool) (l637 : List Gref08_Conn) (l640 : List GItem) (l643 : List GItem) (l646 : List Gnet_conn) (i649 : Int) (i650 : Int) (i651 : Int) (i652 : Int) : Option Bool :=
  (m_net_Net_Ready (⟨l643, l646, i651, i652⟩ : Gnet_Net)).bind fun x653 =>
  (m_ref08_Net_Ready (⟨l640, l637, i649, i650⟩ : Gref08_Net)).bind fun x658 =>
  (m_ref08_Same x653 x658).bind fun x663 =>
  if x1 = true then
    some x663
  else
    some false
noncomputable def m_law08_NetPlays_s2 (p0 : List Glaw08_Op) (l730 : List Gref08_Conn) (l733 : List GItem) (l736 : List GItem) (l739 : List Gnet_conn) (i742 : Int) (i743 : Int) (i744 : Int) (i745 : Int) (i746 : Int) : Option (((List Gref08_Conn) × (List GItem) × (List GItem) × (List Gnet_conn) × Int × Int × Int × Int × Int) ⊕ (((List Gref08_Conn) × (List GItem) × (List GItem) × (List Gnet_conn) × Int × Int × Int × Int) ⊕ Bool)) :=
  if i742 < (p0.length : Int) then
    if i742 < 100 then
      (at_ p0 i742).bind fun x815 =>
      (m_law08_does x815 (⟨l736, l739, i745, i746⟩ : Gnet_Net) (⟨l733, l730, i743, i744⟩ : Gref08_Net)).bind fun (z836 : Bool × Gnet_Net × Gref08_Net) =>
      (m_net_Net_Peer x815.fN x815.fA z836.2.1).bind fun (z840 : Int × Bool) =>
      (m_ref08_Net_Peer x815.fN x815.fA z836.2.2).bind fun (z844 : Int × Bool) =>
      if z836.1 = true then
        (m_net_Net_Waits z836.2.1).bind fun x856 =>
        if x856 ≠ (z836.2.2.fItems.length : Int) then
          some (.inr (.inr false))
        else
          if z840.1 ≠ z844.1 then
            some (.inr (.inr false))
          else
            if (!(z840.2 == z844.2)) = true then
              some (.inr (.inr false))
            else
              some (.inl (z836.2.2.fConns, z836.2.2.fItems, z836.2.1.fitems, z836.2.1.fconns, w64 (i742 + 1), z836.2.2.fLast, z836.2.2.fOpens, z836.2.1.flast, z836.2.1.fopens))
      else
        some (.inr (.inr false))
    else
      some (.inr (.inl (l730, l733, l736, l739, i743, i744, i745, i746)))
  else
    some (.inr (.inl (l730, l733, l736, l739, i743, i744, i745, i746)))
noncomputable def m_law08_NetPlays (p0 : List Glaw08_Op) : Option Bool :=
  (m_law08_awake).bind fun x1 =>
  (m_net_New).bind fun x3 =>
  (loop (fun s => m_law08_NetPlays_s2 p0 s.1 s.2.1 s.2.2.1 s.2.2.2.1 s.2.2.2.2.1 s.2.2.2.2.2.1 s.2.2.2.2.2.2.1 s.2.2.2.2.2.2.2.1 s.2.2.2.2.2.2.2.2) (([] : List Gref08_Conn), ([] : List GItem), x3.fitems, x3.fconns, 0, 0, 0, x3.flast, x3.fopens)).bind fun e => Sum.elim (fun e => m_law08_NetPlays_j1 x1 e.1 e.2.1 e.2.2.1 e.2.2.2.1 e.2.2.2.2.1 e.2.2.2.2.2.1 e.2.2.2.2.2.2.1 e.2.2.2.2.2.2.2) (fun x => some x) e
theorem c_law08_NetPlays {w0 : World} {M : Nat → Prop} {H : List (Nat × Nat × Obj)} {R : List (Nat × Row)} {φ : World → Prop} (p0 : List Glaw08_Op) (Ap0_0 : Option Addr) (cp0_0 : Nat) (hcp0_0 : p0.length ≤ cp0_0) (fp0_0 : ∀ W, (Sta.mk w0 M H R φ).ok W → Cl W Ap0_0 (p0.flatMap Glaw08_Op.enc)) (r : Bool) (hm : m_law08_NetPlays p0 = some r) :
    Cn Try.prog 7 #[.slice Ap0_0 p0.length cp0_0] ⟨w0, M, H, R, φ⟩ (fun x : Unit => .bool r) (fun x => True) (fun x => ⟨w0, M, H, R, φ⟩) := by
 unfold m_law08_NetPlays at hm
 refine cn_intro (fn := Try.f7) (N := 87) Try.func7 rfl Try.ntmps7 rfl <| c_seq <| c_region <| g_v rfl r_assign <| g_nil <| d_then <| c_seq <| c_region ?_
 replace hm := bnd hm
 obtain ⟨x1, hx2, hm⟩ := hm
 refine g_cn ⟨w0, M, _, _, φ⟩ (fun _ h => h) Try.call9 rfl rfl (c_law08_awake  _ hx2) (fun _ _ => ?_)
 refine g_v rfl r_assign <| g_nil <| d_then <| c_seq <| c_region ?_
 replace hm := bnd hm
 obtain ⟨x3, hx4, hm⟩ := hm
 refine g_cn ⟨w0, M, _, _, φ⟩ (fun _ h => h) Try.call10 rfl rfl (c_net_New  _ hx4) (fun ⟨A5, c6, A8, c9, g11⟩ ⟨hc6, hc9⟩ => ?_)
 refine g_sta _ (fun W h => (ok_frontR (t := 2000) (t' := 100150) (ok_frontR (t := 2001) (t' := 100151) (ok_front (t := 3000) (t' := 100155) h rfl) rfl) rfl)) <| g_v rfl r_assign <| g_nil <| d_then <| c_seq <| c_region <| g_v rfl (r_build _ rfl (bld55_16)) ?_
 refine g_e rfl (e_box 100170 rfl) (fun g12 _ => ?_)
 refine g_v rfl r_assign <| g_nil <| d_then <| c_seq <| c_seq <| c_region <| g_v rfl r_move <| g_v rfl (r_eqlP1 Try.underlying24 rfl rfl) <| g_nil <| d_then ?_
 refine c_flat [(0, .slice Ap0_0 p0.length cp0_0), (3, .bool x1), (4, .pointer (some ⟨g11, 0, none⟩)), (5, .pointer (some ⟨g12, 0, none⟩)), (19, .bool false)] ⟨rfl, rfl, rfl, rfl, rfl, trivial⟩ (fun u => ?_)
 refine c_sta ⟨w0, M, (100170, g12, .cells #[.slice none 0 0, .slice none 0 0, .int .i64 0, .int .i64 0] 55 (0, 0)) :: (100155, g11, .cells #[.slice A5 x3.fitems.length c6, .slice A8 x3.fconns.length c9, .int .i64 x3.flast, .int .i64 x3.fopens] 61 (0, 0)) :: H, (100150, ⟨.slice A5 x3.fitems.length c6, 40, 6, x3.fitems.length, x3.fitems.flatMap GItem.enc⟩) :: (100151, ⟨.slice A8 x3.fconns.length c9, 63, 3, x3.fconns.length, x3.fconns.flatMap Gnet_conn.enc⟩) :: R, φ⟩ (fun _ h => h) <| c_cond0 rfl rfl <| c_skip <| d_then <| c_seq <| c_sta _ (fun W h => nilR h 16 40 6) <| c_sta _ (fun W h => nilR h 19 77 3) ?_
 refine c_cut (ι := (List Gref08_Conn) × (List GItem) × (List GItem) × (List Gnet_conn) × Int × Int × Int × Int × Option Addr × Nat × Option Addr × Nat × Option Addr × Nat × Option Addr × Nat) [3, 4, 5] (fun ⟨l637, l640, l643, l646, i649, i650, i651, i652, A638, c639, A641, c642, A644, c645, A647, c648⟩ => []) (fun ⟨l637, l640, l643, l646, i649, i650, i651, i652, A638, c639, A641, c642, A644, c645, A647, c648⟩ => ⟨w0, M, (100170, g12, .cells #[.slice A641 l640.length c642, .slice A638 l637.length c639, .int .i64 i649, .int .i64 i650] 55 (0, 0)) :: (100155, g11, .cells #[.slice A644 l643.length c645, .slice A647 l646.length c648, .int .i64 i651, .int .i64 i652] 61 (0, 0)) :: H, (19, ⟨.slice A638 l637.length c639, 77, 3, l637.length, l637.flatMap Gref08_Conn.enc⟩) :: (16, ⟨.slice A641 l640.length c642, 40, 6, l640.length, l640.flatMap GItem.enc⟩) :: (100150, ⟨.slice A644 l643.length c645, 40, 6, l643.length, l643.flatMap GItem.enc⟩) :: (100151, ⟨.slice A647 l646.length c648, 63, 3, l646.length, l646.flatMap Gnet_conn.enc⟩) :: R, φ⟩) (fun ⟨l637, l640, l643, l646, i649, i650, i651, i652, A638, c639, A641, c642, A644, c645, A647, c648⟩ => m_law08_NetPlays_j1 x1 l637 l640 l643 l646 i649 i650 i651 i652 = some r ∧ l637.length ≤ c639 ∧ l640.length ≤ c642 ∧ l643.length ≤ c645 ∧ l646.length ≤ c648) ?_ (fun ⟨l637, l640, l643, l646, i649, i650, i651, i652, A638, c639, A641, c642, A644, c645, A647, c648⟩ u ⟨hm, hc639, hc642, hc645, hc648⟩ => ?_)
 ·
  refine c_seq <| c_region <| g_v rfl r_assign <| g_nil <| d_then <| c_block ?_
  replace hm := bnd hm
  obtain ⟨out2, hl2, hr2⟩ := hm
  obtain ⟨n812', hl2⟩ := loop_lp hl2
  refine c_loopU (ι := Nat × (List Gref08_Conn) × (List GItem) × (List GItem) × (List Gnet_conn) × Int × Int × Int × Int × Int × Option Addr × Nat × Option Addr × Nat × Option Addr × Nat × Option Addr × Nat) [0, 3, 4, 5, 6] (fun ⟨n812, l730, l733, l736, l739, i742, i743, i744, i745, i746, A731, c732, A734, c735, A737, c738, A740, c741⟩ => [(6, .int .i64 i742)]) (fun ⟨n812, l730, l733, l736, l739, i742, i743, i744, i745, i746, A731, c732, A734, c735, A737, c738, A740, c741⟩ => ⟨w0, M, (100170, g12, .cells #[.slice A734 l733.length c735, .slice A731 l730.length c732, .int .i64 i743, .int .i64 i744] 55 (0, 0)) :: (100155, g11, .cells #[.slice A737 l736.length c738, .slice A740 l739.length c741, .int .i64 i745, .int .i64 i746] 61 (0, 0)) :: H, (19, ⟨.slice A731 l730.length c732, 77, 3, l730.length, l730.flatMap Gref08_Conn.enc⟩) :: (16, ⟨.slice A734 l733.length c735, 40, 6, l733.length, l733.flatMap GItem.enc⟩) :: (100150, ⟨.slice A737 l736.length c738, 40, 6, l736.length, l736.flatMap GItem.enc⟩) :: (100151, ⟨.slice A740 l739.length c741, 63, 3, l739.length, l739.flatMap Gnet_conn.enc⟩) :: R, φ⟩) (fun ⟨n812, l730, l733, l736, l739, i742, i743, i744, i745, i746, A731, c732, A734, c735, A737, c738, A740, c741⟩ => Lp (fun s => m_law08_NetPlays_s2 p0 s.1 s.2.1 s.2.2.1 s.2.2.2.1 s.2.2.2.2.1 s.2.2.2.2.2.1 s.2.2.2.2.2.2.1 s.2.2.2.2.2.2.2.1 s.2.2.2.2.2.2.2.2) n812 (l730, l733, l736, l739, i742, i743, i744, i745, i746) out2 ∧ l730.length ≤ c732 ∧ l733.length ≤ c735 ∧ l736.length ≤ c738 ∧ l739.length ≤ c741) (fun ⟨n812, l730, l733, l736, l739, i742, i743, i744, i745, i746, A731, c732, A734, c735, A737, c738, A740, c741⟩ => n812) (n812', ([] : List Gref08_Conn), ([] : List GItem), x3.fitems, x3.fconns, 0, 0, 0, x3.flast, x3.fopens, none, 0, none, 0, A5, c6, A8, c9) ⟨hl2, (Nat.le_refl 0), (Nat.le_refl 0), hc6, hc9⟩ ⟨rfl, rfl, rfl, rfl, rfl, trivial⟩ (fun W h => h.phi (fun W hφ => hφ)) (fun ⟨n812, l730, l733, l736, l739, i742, i743, i744, i745, i746, A731, c732, A734, c735, A737, c738, A740, c741⟩ u ⟨hlp, hc732, hc735, hc738, hc741⟩ => ?_)
  obtain ⟨o2, hm, hnx2⟩ := lp_step hlp
  clear hlp
  replace hm : m_law08_NetPlays_s2 p0 l730 l733 l736 l739 i742 i743 i744 i745 i746 = some o2 := hm
  unfold m_law08_NetPlays_s2 at hm
  refine c_flat [(0, .slice Ap0_0 p0.length cp0_0), (3, .bool x1), (4, .pointer (some ⟨g11, 0, none⟩)), (5, .pointer (some ⟨g12, 0, none⟩)), (6, .int .i64 i742)] ⟨rfl, rfl, rfl, rfl, rfl, trivial⟩ (fun u => ?_)
  refine c_sta ⟨w0, M, (100170, g12, .cells #[.slice A734 l733.length c735, .slice A731 l730.length c732, .int .i64 i743, .int .i64 i744] 55 (0, 0)) :: (100155, g11, .cells #[.slice A737 l736.length c738, .slice A740 l739.length c741, .int .i64 i745, .int .i64 i746] 61 (0, 0)) :: H, (19, ⟨.slice A731 l730.length c732, 77, 3, l730.length, l730.flatMap Gref08_Conn.enc⟩) :: (16, ⟨.slice A734 l733.length c735, 40, 6, l733.length, l733.flatMap GItem.enc⟩) :: (100150, ⟨.slice A737 l736.length c738, 40, 6, l736.length, l736.flatMap GItem.enc⟩) :: (100151, ⟨.slice A740 l739.length c741, 63, 3, l739.length, l739.flatMap Gnet_conn.enc⟩) :: R, φ⟩ (fun _ h => h) <| c_seq <| c_seq <| c_region <| g_v rfl r_move <| g_v rfl r_move <| g_v rfl (r_lenL Try.underlying22 rfl) <| g_v rfl (r_lss rfl rfl) <| g_v rfl r_move ?_
  refine g_if rfl rfl rfl rfl rfl (fun h813 => ?_) (fun h813 => ?_)
  ·
   replace hm := ite_t hm (of_decide_eq_true h813)
   refine g_v rfl r_move <| g_do rfl rfl rfl rfl rfl h813 <| g_v rfl (r_lss rfl rfl) <| g_v rfl (r_pick1 rfl h813) <| g_nil <| d_then ?_
   refine c_cond rfl (fun h814 => ?_) (fun h814 => ?_)
   ·
    replace hm := ite_t hm (of_decide_eq_true h814)
    refine c_skip <| d_then <| c_seq <| c_block <| c_seq <| c_region <| g_v rfl r_move <| g_v rfl r_move ?_
    replace hm := bnd hm
    obtain ⟨x815, hx815, hm⟩ := hm
    refine g_know _ (fun W hS => cl_at (p := (Sta.mk w0 M H R φ).ok) (sz := 5) (fun _ => rfl) (by decide) (ok_pre (H1 := [_, _]) (R1 := [_, _, _, _]) hS (fun W h => h)) fp0_0 hx815) ?_
    rintro ⟨ad816, hA818, f817⟩
    refine g_v rfl (r_ix Try.underlying22 Try.sizeOf33 rfl hA818 rfl hx815) <| g_v rfl (r_ldA rfl Try.isAgg33 Try.sizeOf33 (fun W hS => (f817 W (ok_pre (H1 := [_, _]) (R1 := [_, _, _, _]) hS (fun W h => h))).take 5) rfl) ?_
    refine g_e rfl (e_alloc 100070 Try.zeroValue33) (fun g819 _ => ?_)
    refine g_storeL (tag := 100070) rfl rfl rfl rfl Try.sizeOf33 rfl rfl <| g_nil <| d_then ?_
    refine c_flat [(0, .slice Ap0_0 p0.length cp0_0), (3, .bool x1), (4, .pointer (some ⟨g11, 0, none⟩)), (5, .pointer (some ⟨g12, 0, none⟩)), (6, .int .i64 i742), (7, .pointer (some ⟨g819, 0, none⟩))] ⟨rfl, rfl, rfl, rfl, rfl, rfl, trivial⟩ (fun u => ?_)
    refine c_sta ⟨w0, M, (100070, g819, .cells #[.int .i64 x815.fKind, .int .i64 x815.fA, .int .i64 x815.fB, .int .i64 x815.fN, .string x815.fBody] 33 (0, 0)) :: (100170, g12, .cells #[.slice A734 l733.length c735, .slice A731 l730.length c732, .int .i64 i743, .int .i64 i744] 55 (0, 0)) :: (100155, g11, .cells #[.slice A737 l736.length c738, .slice A740 l739.length c741, .int .i64 i745, .int .i64 i746] 61 (0, 0)) :: H, (19, ⟨.slice A731 l730.length c732, 77, 3, l730.length, l730.flatMap Gref08_Conn.enc⟩) :: (16, ⟨.slice A734 l733.length c735, 40, 6, l733.length, l733.flatMap GItem.enc⟩) :: (100150, ⟨.slice A737 l736.length c738, 40, 6, l736.length, l736.flatMap GItem.enc⟩) :: (100151, ⟨.slice A740 l739.length c741, 63, 3, l739.length, l739.flatMap Gnet_conn.enc⟩) :: R, φ⟩ (fun _ h => h) <| c_seq <| c_region <| g_v rfl r_move <| g_v rfl r_move <| g_v rfl (r_loadA (tag := 100070) rfl rfl Try.isAgg33 Try.sizeOf33 rfl rfl) ?_
    replace hm := bnd hm
    obtain ⟨⟨x820, x821, x822⟩, hx823, hm⟩ := hm
    refine g_cn ⟨w0, M, (1000, g11, .cells #[.slice A737 l736.length c738, .slice A740 l739.length c741, .int .i64 i745, .int .i64 i746] 61 (0, 0)) :: (1001, g12, .cells #[.slice A734 l733.length c735, .slice A731 l730.length c732, .int .i64 i743, .int .i64 i744] 55 (0, 0)) :: (100070, g819, .cells #[.int .i64 x815.fKind, .int .i64 x815.fA, .int .i64 x815.fB, .int .i64 x815.fN, .string x815.fBody] 33 (0, 0)) :: H, (1000, ⟨.slice A737 l736.length c738, 40, 6, l736.length, l736.flatMap GItem.enc⟩) :: (1001, ⟨.slice A740 l739.length c741, 63, 3, l739.length, l739.flatMap Gnet_conn.enc⟩) :: (1002, ⟨.slice A734 l733.length c735, 40, 6, l733.length, l733.flatMap GItem.enc⟩) :: (1003, ⟨.slice A731 l730.length c732, 77, 3, l730.length, l730.flatMap Gref08_Conn.enc⟩) :: R, φ⟩ (fun W h => (ok_front (t := 100155) (t' := 1000) (ok_front (t := 100170) (t' := 1001) (ok_frontR (t := 100150) (t' := 1000) (ok_frontR (t := 100151) (t' := 1001) (ok_frontR (t := 16) (t' := 1002) (ok_frontR (t := 19) (t' := 1003) h rfl) rfl) rfl) rfl) rfl) rfl)) Try.call21 rfl rfl (c_law08_does x815 g11 (⟨l736, l739, i745, i746⟩ : Gnet_Net) A737 c738 hc738 A740 c741 hc741 g12 (⟨l733, l730, i743, i744⟩ : Gref08_Net) A734 c735 hc735 A731 c732 hc732 _ hx823) (fun ⟨A824, c825, A827, c828, A830, c831, A833, c834⟩ ⟨hc825, hc828, hc831, hc834⟩ => ?_)
    refine g_sta _ (fun W h => (ok_frontR (t := 2000) (t' := 100150) (ok_frontR (t := 2001) (t' := 100151) (ok_frontR (t := 2002) (t' := 16) (ok_frontR (t := 2003) (t' := 19) (ok_front (t := 1000) (t' := 100155) (ok_front (t := 1001) (t' := 100170) h rfl) rfl) rfl) rfl) rfl) rfl)) <| g_v rfl r_assign <| g_nil <| d_then <| c_seq <| c_region <| g_v rfl r_move <| g_v rfl (r_field (n := 3) Try.underlying33 rfl Try.sizeOf3 rfl rfl) <| g_v rfl (r_load (tag := 100070) rfl rfl rfl Try.isAgg3) <| g_v rfl (r_field (n := 1) Try.underlying33 rfl Try.sizeOf3 rfl rfl) ?_
    refine g_v rfl (r_load (tag := 100070) rfl rfl rfl Try.isAgg3) ?_
    replace hm := bnd hm
    obtain ⟨⟨x837, x838⟩, hx839, hm⟩ := hm
    refine g_cn ⟨w0, M, (1000, g11, .cells #[.slice A824 x821.fitems.length c825, .slice A827 x821.fconns.length c828, .int .i64 x821.flast, .int .i64 x821.fopens] 61 (0, 0)) :: (100170, g12, .cells #[.slice A830 x822.fItems.length c831, .slice A833 x822.fConns.length c834, .int .i64 x822.fLast, .int .i64 x822.fOpens] 55 (0, 0)) :: (100070, g819, .cells #[.int .i64 x815.fKind, .int .i64 x815.fA, .int .i64 x815.fB, .int .i64 x815.fN, .string x815.fBody] 33 (0, 0)) :: H, (1000, ⟨.slice A824 x821.fitems.length c825, 40, 6, x821.fitems.length, x821.fitems.flatMap GItem.enc⟩) :: (1001, ⟨.slice A827 x821.fconns.length c828, 63, 3, x821.fconns.length, x821.fconns.flatMap Gnet_conn.enc⟩) :: (16, ⟨.slice A830 x822.fItems.length c831, 40, 6, x822.fItems.length, x822.fItems.flatMap GItem.enc⟩) :: (19, ⟨.slice A833 x822.fConns.length c834, 77, 3, x822.fConns.length, x822.fConns.flatMap Gref08_Conn.enc⟩) :: R, φ⟩ (fun W h => (ok_front (t := 100155) (t' := 1000) (ok_frontR (t := 100150) (t' := 1000) (ok_frontR (t := 100151) (t' := 1001) h rfl) rfl) rfl)) Try.call22 rfl rfl (c_net_Net_Peer x815.fN x815.fA g11 x821 A824 c825 hc825 A827 c828 hc828 _ hx839) (fun _ _ => ?_)
    refine g_sta _ (fun W h => (ok_frontR (t := 1000) (t' := 100150) (ok_frontR (t := 1001) (t' := 100151) (ok_front (t := 1000) (t' := 100155) h rfl) rfl) rfl)) <| g_v rfl r_move <| g_v rfl (r_extract rfl rfl) <| g_v rfl (r_extract rfl rfl) <| g_v rfl r_assign <| g_v rfl r_assign <| g_nil <| d_then ?_
    refine c_flat [(0, .slice Ap0_0 p0.length cp0_0), (3, .bool x1), (4, .pointer (some ⟨g11, 0, none⟩)), (5, .pointer (some ⟨g12, 0, none⟩)), (6, .int .i64 i742), (7, .pointer (some ⟨g819, 0, none⟩)), (8, .bool x820), (9, .int .i64 x837), (10, .bool x838)] ⟨rfl, rfl, rfl, rfl, rfl, rfl, rfl, rfl, rfl, trivial⟩ (fun u => ?_)
    refine c_sta ⟨w0, M, (100155, g11, .cells #[.slice A824 x821.fitems.length c825, .slice A827 x821.fconns.length c828, .int .i64 x821.flast, .int .i64 x821.fopens] 61 (0, 0)) :: (100170, g12, .cells #[.slice A830 x822.fItems.length c831, .slice A833 x822.fConns.length c834, .int .i64 x822.fLast, .int .i64 x822.fOpens] 55 (0, 0)) :: (100070, g819, .cells #[.int .i64 x815.fKind, .int .i64 x815.fA, .int .i64 x815.fB, .int .i64 x815.fN, .string x815.fBody] 33 (0, 0)) :: H, (100150, ⟨.slice A824 x821.fitems.length c825, 40, 6, x821.fitems.length, x821.fitems.flatMap GItem.enc⟩) :: (100151, ⟨.slice A827 x821.fconns.length c828, 63, 3, x821.fconns.length, x821.fconns.flatMap Gnet_conn.enc⟩) :: (16, ⟨.slice A830 x822.fItems.length c831, 40, 6, x822.fItems.length, x822.fItems.flatMap GItem.enc⟩) :: (19, ⟨.slice A833 x822.fConns.length c834, 77, 3, x822.fConns.length, x822.fConns.flatMap Gref08_Conn.enc⟩) :: R, φ⟩ (fun _ h => h) <| c_seq <| c_region <| g_v rfl r_move <| g_v rfl (r_field (n := 3) Try.underlying33 rfl Try.sizeOf3 rfl rfl) <| g_v rfl (r_load (tag := 100070) rfl rfl rfl Try.isAgg3) <| g_v rfl (r_field (n := 1) Try.underlying33 rfl Try.sizeOf3 rfl rfl) <| g_v rfl (r_load (tag := 100070) rfl rfl rfl Try.isAgg3) ?_
    replace hm := bnd hm
    obtain ⟨⟨x841, x842⟩, hx843, hm⟩ := hm
    refine g_cn ⟨w0, M, (1000, g12, .cells #[.slice A830 x822.fItems.length c831, .slice A833 x822.fConns.length c834, .int .i64 x822.fLast, .int .i64 x822.fOpens] 55 (0, 0)) :: (100155, g11, .cells #[.slice A824 x821.fitems.length c825, .slice A827 x821.fconns.length c828, .int .i64 x821.flast, .int .i64 x821.fopens] 61 (0, 0)) :: (100070, g819, .cells #[.int .i64 x815.fKind, .int .i64 x815.fA, .int .i64 x815.fB, .int .i64 x815.fN, .string x815.fBody] 33 (0, 0)) :: H, (1000, ⟨.slice A830 x822.fItems.length c831, 40, 6, x822.fItems.length, x822.fItems.flatMap GItem.enc⟩) :: (1001, ⟨.slice A833 x822.fConns.length c834, 77, 3, x822.fConns.length, x822.fConns.flatMap Gref08_Conn.enc⟩) :: (100150, ⟨.slice A824 x821.fitems.length c825, 40, 6, x821.fitems.length, x821.fitems.flatMap GItem.enc⟩) :: (100151, ⟨.slice A827 x821.fconns.length c828, 63, 3, x821.fconns.length, x821.fconns.flatMap Gnet_conn.enc⟩) :: R, φ⟩ (fun W h => (ok_front (t := 100170) (t' := 1000) (ok_frontR (t := 16) (t' := 1000) (ok_frontR (t := 19) (t' := 1001) h rfl) rfl) rfl)) Try.call23 rfl rfl (c_ref08_Net_Peer x815.fN x815.fA g12 x822 A830 c831 hc831 A833 c834 hc834 _ hx843) (fun _ _ => ?_)
    refine g_sta _ (fun W h => (ok_frontR (t := 1000) (t' := 16) (ok_frontR (t := 1001) (t' := 19) (ok_front (t := 1000) (t' := 100170) h rfl) rfl) rfl)) <| g_v rfl r_move <| g_v rfl (r_extract rfl rfl) <| g_v rfl (r_extract rfl rfl) <| g_v rfl r_assign <| g_v rfl r_assign <| g_nil <| d_then ?_
    refine c_flat [(0, .slice Ap0_0 p0.length cp0_0), (3, .bool x1), (4, .pointer (some ⟨g11, 0, none⟩)), (5, .pointer (some ⟨g12, 0, none⟩)), (6, .int .i64 i742), (8, .bool x820), (9, .int .i64 x837), (10, .bool x838), (11, .int .i64 x841), (12, .bool x842)] ⟨rfl, rfl, rfl, rfl, rfl, rfl, rfl, rfl, rfl, rfl, trivial⟩ (fun u => ?_)
    refine c_sta ⟨w0, M, (100170, g12, .cells #[.slice A830 x822.fItems.length c831, .slice A833 x822.fConns.length c834, .int .i64 x822.fLast, .int .i64 x822.fOpens] 55 (0, 0)) :: (100155, g11, .cells #[.slice A824 x821.fitems.length c825, .slice A827 x821.fconns.length c828, .int .i64 x821.flast, .int .i64 x821.fopens] 61 (0, 0)) :: (100070, g819, .cells #[.int .i64 x815.fKind, .int .i64 x815.fA, .int .i64 x815.fB, .int .i64 x815.fN, .string x815.fBody] 33 (0, 0)) :: H, (16, ⟨.slice A830 x822.fItems.length c831, 40, 6, x822.fItems.length, x822.fItems.flatMap GItem.enc⟩) :: (19, ⟨.slice A833 x822.fConns.length c834, 77, 3, x822.fConns.length, x822.fConns.flatMap Gref08_Conn.enc⟩) :: (100150, ⟨.slice A824 x821.fitems.length c825, 40, 6, x821.fitems.length, x821.fitems.flatMap GItem.enc⟩) :: (100151, ⟨.slice A827 x821.fconns.length c828, 63, 3, x821.fconns.length, x821.fconns.flatMap Gnet_conn.enc⟩) :: R, φ⟩ (fun _ h => h) <| c_seq <| ga_start (n := 22) ⟨w0, M, (100170, g12, .cells #[.slice A830 x822.fItems.length c831, .slice A833 x822.fConns.length c834, .int .i64 x822.fLast, .int .i64 x822.fOpens] 55 (0, 0)) :: (100155, g11, .cells #[.slice A824 x821.fitems.length c825, .slice A827 x821.fconns.length c828, .int .i64 x821.flast, .int .i64 x821.fopens] 61 (0, 0)) :: (100070, g819, .cells #[.int .i64 x815.fKind, .int .i64 x815.fA, .int .i64 x815.fB, .int .i64 x815.fN, .string x815.fBody] 33 (0, 0)) :: H, (16, ⟨.slice A830 x822.fItems.length c831, 40, 6, x822.fItems.length, x822.fItems.flatMap GItem.enc⟩) :: (19, ⟨.slice A833 x822.fConns.length c834, 77, 3, x822.fConns.length, x822.fConns.flatMap Gref08_Conn.enc⟩) :: R, φ⟩ [] #[false, false, false, false, false, false, false, false, false, false, false, false, false, false, false, false, false, false, false, false, false, false] (fun W h => ((h.dropR (t := 100150) rfl).dropR (t := 100151) rfl).phi (fun W hφ => hφ)) mixed rfl rfl <| ga_r (i := 0) (bz 22 1) rfl (by kernel_rfl) (by decide) rfl (r_move) <| ga_r (i := 1) (bz 22 3) rfl (by kernel_rfl) (by decide) rfl (r_not rfl) <| ga_r (i := 2) (bz 22 7) rfl (by kernel_rfl) (by decide) rfl (r_move) ?_
    refine ga_if (t := 58) rfl (fun h855 => ?_) (fun h855 => ?_)
    ·
     have h855' : x820 = false := by revert h855; cases x820 <;> simp
     replace hm := ite_f hm (bool_nt h855')
     refine ga_no (i := 3) (bz 22 15) rfl (by kernel_rfl) (fun _ _ _ _ h => h) rfl rfl rfl rfl rfl h855 <| ga_no (i := 4) (bz 22 31) rfl (by kernel_rfl) (fun _ _ _ _ h => h) rfl rfl rfl rfl rfl h855 <| ga_no (i := 5) (bz 22 63) rfl (by kernel_rfl) (fun _ _ _ _ h => h) rfl rfl rfl rfl rfl h855 <| ga_no (i := 6) (bz 22 127) rfl (by kernel_rfl) (fun _ _ _ _ h => h) rfl rfl rfl rfl rfl h855 <| ga_no (i := 7) (bz 22 255) rfl (by kernel_rfl) (fun _ _ _ _ h => h) rfl rfl rfl rfl rfl h855 <| ga_no (i := 8) (bz 22 511) rfl (by kernel_rfl) (fun _ _ _ _ h => h) rfl rfl rfl rfl rfl h855 <| ga_no (i := 9) (bz 22 1023) rfl (by kernel_rfl) (fun _ _ _ _ h => h) rfl rfl rfl rfl rfl h855 <| ga_no (i := 10) (bz 22 2047) rfl (by kernel_rfl) (fun _ _ _ _ h => h) rfl rfl rfl rfl rfl h855 <| ga_r (i := 11) (bz 22 4095) rfl (by kernel_rfl) (by decide) rfl (r_pick1 rfl h855) <| ga_r (i := 12) (bz 22 8191) rfl (by kernel_rfl) (by decide) rfl (r_move) ?_
     refine ga_no (i := 13) (bz 22 16383) rfl (by kernel_rfl) (fun _ _ _ _ h => h) rfl rfl rfl rfl rfl rfl <| ga_no (i := 14) (bz 22 32767) rfl (by kernel_rfl) (fun _ _ _ _ h => h) rfl rfl rfl rfl rfl rfl <| ga_no (i := 15) (bz 22 65535) rfl (by kernel_rfl) (fun _ _ _ _ h => h) rfl rfl rfl rfl rfl rfl <| ga_r (i := 16) (bz 22 131071) rfl (by kernel_rfl) (by decide) rfl (r_pick1 rfl rfl) <| ga_r (i := 17) (bz 22 262143) rfl (by kernel_rfl) (by decide) rfl (r_move) <| ga_no (i := 18) (bz 22 524287) rfl (by kernel_rfl) (fun _ _ _ _ h => h) rfl rfl rfl rfl rfl rfl <| ga_no (i := 19) (bz 22 1048575) rfl (by kernel_rfl) (fun _ _ _ _ h => h) rfl rfl rfl rfl rfl rfl <| ga_no (i := 20) (bz 22 2097151) rfl (by kernel_rfl) (fun _ _ _ _ h => h) rfl rfl rfl rfl rfl rfl <| ga_r (i := 21) (bz 22 4194303) rfl (by kernel_rfl) (by decide) rfl (r_pick1 rfl rfl) <| ga_done (by kernel_rfl) ?_
     refine d_then <| c_cond1 rfl rfl <| c_seq <| c_region <| g_v rfl r_assign <| g_nil <| d_then ?_
     refine c_flat [(2, .bool false)] ⟨rfl, trivial⟩ (fun u => ?_)
     refine c_ret <| d_ret_block <| d_ret_then <| d_ret_then <| d_ret_block <| d_ret_then <| d_ret_then ?_
     replace hm := nx_out (C := (fun e => Sum.elim (fun e => m_law08_NetPlays_j1 x1 e.1 e.2.1 e.2.2.1 e.2.2.2.1 e.2.2.2.2.1 e.2.2.2.2.2.1 e.2.2.2.2.2.2.1 e.2.2.2.2.2.2.2) (fun x => some x) e = some r)) hm hnx2 hr2
     replace hm : some false = some r := hm
     replace hm := Option.some.inj hm
     subst hm
     refine d_retC () Try.results7 ?_ trivial (fun W h => ok_pre (H1 := [_, _, _]) (R1 := [_, _, _, _]) h (fun W hφ => hφ)) (.inr rfl)
     refine res_tmp <| res_nil ?_
     exact rfl
    ·
     have h855' : x820 = true := by revert h855; cases x820 <;> simp
     replace hm := ite_t hm h855'
     refine ga_do (i := 3) (bz 22 15) rfl (by kernel_rfl) (fun _ _ _ _ h => h) rfl rfl rfl rfl rfl h855 (r_move) <| ga_do (i := 5) (bz 22 47) rfl (by kernel_rfl) (fun _ _ _ _ h => h) rfl rfl rfl rfl rfl h855 (r_move) <| ga_do (i := 6) (bz 22 111) rfl (by kernel_rfl) (fun _ _ _ _ h => h) rfl rfl rfl rfl rfl h855 (r_nilck rfl) <| ga_do (i := 7) (bz 22 239) rfl (by kernel_rfl) (fun _ _ _ _ h => h) rfl rfl rfl rfl rfl h855 (r_field (n := 0) Try.underlying55 rfl Try.sizeOf52 rfl rfl) <| ga_do (i := 8) (bz 22 495) rfl (by kernel_rfl) (fun _ _ _ _ h => h) rfl rfl rfl rfl rfl h855 (r_load (tag := 100170) rfl rfl rfl Try.isAgg52) <| ga_do (i := 9) (bz 22 1007) rfl (by kernel_rfl) (fun _ _ _ _ h => h) rfl rfl rfl rfl rfl h855 (r_lenL Try.underlying52 rfl) ?_
     replace hm := bnd hm
     obtain ⟨x856, hx857, hm⟩ := hm
     refine ga_cnG (first := #[]) (i := 4) (bz 22 1023) rfl (by kernel_rfl) (by decide) rfl rfl rfl rfl h855  ⟨w0, M, (1000, g11, .cells #[.slice A824 x821.fitems.length c825, .slice A827 x821.fconns.length c828, .int .i64 x821.flast, .int .i64 x821.fopens] 61 (0, 0)) :: (100170, g12, .cells #[.slice A830 x822.fItems.length c831, .slice A833 x822.fConns.length c834, .int .i64 x822.fLast, .int .i64 x822.fOpens] 55 (0, 0)) :: (100070, g819, .cells #[.int .i64 x815.fKind, .int .i64 x815.fA, .int .i64 x815.fB, .int .i64 x815.fN, .string x815.fBody] 33 (0, 0)) :: H, (1000, ⟨.slice A824 x821.fitems.length c825, 40, 6, x821.fitems.length, x821.fitems.flatMap GItem.enc⟩) :: (1001, ⟨.slice A827 x821.fconns.length c828, 63, 3, x821.fconns.length, x821.fconns.flatMap Gnet_conn.enc⟩) :: (16, ⟨.slice A830 x822.fItems.length c831, 40, 6, x822.fItems.length, x822.fItems.flatMap GItem.enc⟩) :: (19, ⟨.slice A833 x822.fConns.length c834, 77, 3, x822.fConns.length, x822.fConns.flatMap Gref08_Conn.enc⟩) :: R, φ⟩ (fun W h => (ok_front (t := 100155) (t' := 1000) (ok_frontR (t := 100150) (t' := 1000) (ok_frontR (t := 100151) (t' := 1001) h rfl) rfl) rfl)) Try.call18 rfl rfl rfl (c_net_Net_Waits g11 x821 A824 c825 hc825 A827 c828 hc828 _ hx857) (fun _ W _ h => (ok_front (t := 100170) (t' := 100170) (ok_front (t := 100155) (t' := 100155) (ok_front (t := 100070) (t' := 100070) (((ok_frontR (t := 1000) (t' := 100150) (ok_frontR (t := 1001) (t' := 100151) (ok_front (t := 1000) (t' := 100155) h rfl) rfl) rfl).dropR (t := 100150) rfl).dropR (t := 100151) rfl) rfl) rfl) rfl).phi (fun W hφ => hφ)) (fun _ _ => ?_)
     refine ga_sta _ (fun W h => (ok_frontR (t := 1000) (t' := 100150) (ok_frontR (t := 1001) (t' := 100151) (ok_front (t := 1000) (t' := 100155) h rfl) rfl) rfl)) <| ga_rG (i := 10) (bz 22 2047) rfl (by kernel_rfl) (by decide) rfl rfl rfl rfl rfl h855 (r_neq rfl rfl) <| ga_r (i := 11) (bz 22 4095) rfl (by kernel_rfl) (by decide) rfl (r_pick0 rfl h855) <| ga_r (i := 12) (bz 22 8191) rfl (by kernel_rfl) (by decide) rfl (r_move) ?_
     refine ga_if (t := 68) rfl (fun h858 => ?_) (fun h858 => ?_)
     ·
      replace hm := ite_t hm (of_decide_eq_true h858)
      refine ga_no (i := 13) (bz 22 16383) rfl (by kernel_rfl) (fun _ _ _ _ h => h) rfl rfl rfl rfl rfl h858 <| ga_no (i := 14) (bz 22 32767) rfl (by kernel_rfl) (fun _ _ _ _ h => h) rfl rfl rfl rfl rfl h858 <| ga_no (i := 15) (bz 22 65535) rfl (by kernel_rfl) (fun _ _ _ _ h => h) rfl rfl rfl rfl rfl h858 <| ga_r (i := 16) (bz 22 131071) rfl (by kernel_rfl) (by decide) rfl (r_pick1 rfl h858) <| ga_r (i := 17) (bz 22 262143) rfl (by kernel_rfl) (by decide) rfl (r_move) <| ga_no (i := 18) (bz 22 524287) rfl (by kernel_rfl) (fun _ _ _ _ h => h) rfl rfl rfl rfl rfl rfl <| ga_no (i := 19) (bz 22 1048575) rfl (by kernel_rfl) (fun _ _ _ _ h => h) rfl rfl rfl rfl rfl rfl <| ga_no (i := 20) (bz 22 2097151) rfl (by kernel_rfl) (fun _ _ _ _ h => h) rfl rfl rfl rfl rfl rfl <| ga_r (i := 21) (bz 22 4194303) rfl (by kernel_rfl) (by decide) rfl (r_pick1 rfl rfl) <| ga_done (by kernel_rfl) ?_
      refine d_then ?_
      refine c_flat [(0, .slice Ap0_0 p0.length cp0_0), (3, .bool x1), (4, .pointer (some ⟨g11, 0, none⟩)), (5, .pointer (some ⟨g12, 0, none⟩)), (6, .int .i64 i742), (77, .bool true)] ⟨rfl, rfl, rfl, rfl, rfl, rfl, trivial⟩ (fun u => ?_)
      refine c_sta ⟨w0, M, (100155, g11, .cells #[.slice A824 x821.fitems.length c825, .slice A827 x821.fconns.length c828, .int .i64 x821.flast, .int .i64 x821.fopens] 61 (0, 0)) :: (100170, g12, .cells #[.slice A830 x822.fItems.length c831, .slice A833 x822.fConns.length c834, .int .i64 x822.fLast, .int .i64 x822.fOpens] 55 (0, 0)) :: (100070, g819, .cells #[.int .i64 x815.fKind, .int .i64 x815.fA, .int .i64 x815.fB, .int .i64 x815.fN, .string x815.fBody] 33 (0, 0)) :: H, (100150, ⟨.slice A824 x821.fitems.length c825, 40, 6, x821.fitems.length, x821.fitems.flatMap GItem.enc⟩) :: (100151, ⟨.slice A827 x821.fconns.length c828, 63, 3, x821.fconns.length, x821.fconns.flatMap Gnet_conn.enc⟩) :: (16, ⟨.slice A830 x822.fItems.length c831, 40, 6, x822.fItems.length, x822.fItems.flatMap GItem.enc⟩) :: (19, ⟨.slice A833 x822.fConns.length c834, 77, 3, x822.fConns.length, x822.fConns.flatMap Gref08_Conn.enc⟩) :: R, φ⟩ (fun _ h => h) <| c_cond1 rfl rfl <| c_seq <| c_region <| g_v rfl r_assign <| g_nil <| d_then <| c_ret <| d_ret_block <| d_ret_then ?_
      refine d_ret_then <| d_ret_block <| d_ret_then <| d_ret_then ?_
      replace hm := nx_out (C := (fun e => Sum.elim (fun e => m_law08_NetPlays_j1 x1 e.1 e.2.1 e.2.2.1 e.2.2.2.1 e.2.2.2.2.1 e.2.2.2.2.2.1 e.2.2.2.2.2.2.1 e.2.2.2.2.2.2.2) (fun x => some x) e = some r)) hm hnx2 hr2
      replace hm : some false = some r := hm
      replace hm := Option.some.inj hm
      subst hm
      refine d_retC () Try.results7 ?_ trivial (fun W h => ok_pre (H1 := [_, _, _]) (R1 := [_, _, _, _]) h (fun W hφ => hφ)) (.inr rfl)
      refine res_tmp <| res_nil ?_
      exact rfl
     ·
      replace hm := ite_f hm (of_decide_eq_false h858)
      refine ga_do (i := 13) (bz 22 16383) rfl (by kernel_rfl) (fun _ _ _ _ h => h) rfl rfl rfl rfl rfl h858 (r_move) <| ga_rG (i := 14) (bz 22 32767) rfl (by kernel_rfl) (by decide) rfl rfl rfl rfl rfl h858 (r_move) <| ga_rG (i := 15) (bz 22 65535) rfl (by kernel_rfl) (by decide) rfl rfl rfl rfl rfl h858 (r_neq rfl rfl) <| ga_r (i := 16) (bz 22 131071) rfl (by kernel_rfl) (by decide) rfl (r_pick0 rfl h858) <| ga_r (i := 17) (bz 22 262143) rfl (by kernel_rfl) (by decide) rfl (r_move) ?_
      refine ga_if (t := 73) rfl (fun h859 => ?_) (fun h859 => ?_)
      ·
       replace hm := ite_t hm (of_decide_eq_true h859)
       refine ga_no (i := 18) (bz 22 524287) rfl (by kernel_rfl) (fun _ _ _ _ h => h) rfl rfl rfl rfl rfl h859 <| ga_no (i := 19) (bz 22 1048575) rfl (by kernel_rfl) (fun _ _ _ _ h => h) rfl rfl rfl rfl rfl h859 <| ga_no (i := 20) (bz 22 2097151) rfl (by kernel_rfl) (fun _ _ _ _ h => h) rfl rfl rfl rfl rfl h859 <| ga_r (i := 21) (bz 22 4194303) rfl (by kernel_rfl) (by decide) rfl (r_pick1 rfl h859) <| ga_done (by kernel_rfl) <| d_then ?_
       refine c_flat [(0, .slice Ap0_0 p0.length cp0_0), (3, .bool x1), (4, .pointer (some ⟨g11, 0, none⟩)), (5, .pointer (some ⟨g12, 0, none⟩)), (6, .int .i64 i742), (77, .bool true)] ⟨rfl, rfl, rfl, rfl, rfl, rfl, trivial⟩ (fun u => ?_)
       refine c_sta ⟨w0, M, (100155, g11, .cells #[.slice A824 x821.fitems.length c825, .slice A827 x821.fconns.length c828, .int .i64 x821.flast, .int .i64 x821.fopens] 61 (0, 0)) :: (100170, g12, .cells #[.slice A830 x822.fItems.length c831, .slice A833 x822.fConns.length c834, .int .i64 x822.fLast, .int .i64 x822.fOpens] 55 (0, 0)) :: (100070, g819, .cells #[.int .i64 x815.fKind, .int .i64 x815.fA, .int .i64 x815.fB, .int .i64 x815.fN, .string x815.fBody] 33 (0, 0)) :: H, (100150, ⟨.slice A824 x821.fitems.length c825, 40, 6, x821.fitems.length, x821.fitems.flatMap GItem.enc⟩) :: (100151, ⟨.slice A827 x821.fconns.length c828, 63, 3, x821.fconns.length, x821.fconns.flatMap Gnet_conn.enc⟩) :: (16, ⟨.slice A830 x822.fItems.length c831, 40, 6, x822.fItems.length, x822.fItems.flatMap GItem.enc⟩) :: (19, ⟨.slice A833 x822.fConns.length c834, 77, 3, x822.fConns.length, x822.fConns.flatMap Gref08_Conn.enc⟩) :: R, φ⟩ (fun _ h => h) <| c_cond1 rfl rfl <| c_seq <| c_region <| g_v rfl r_assign <| g_nil <| d_then <| c_ret <| d_ret_block <| d_ret_then ?_
       refine d_ret_then <| d_ret_block <| d_ret_then <| d_ret_then ?_
       replace hm := nx_out (C := (fun e => Sum.elim (fun e => m_law08_NetPlays_j1 x1 e.1 e.2.1 e.2.2.1 e.2.2.2.1 e.2.2.2.2.1 e.2.2.2.2.2.1 e.2.2.2.2.2.2.1 e.2.2.2.2.2.2.2) (fun x => some x) e = some r)) hm hnx2 hr2
       replace hm : some false = some r := hm
       replace hm := Option.some.inj hm
       subst hm
       refine d_retC () Try.results7 ?_ trivial (fun W h => ok_pre (H1 := [_, _, _]) (R1 := [_, _, _, _]) h (fun W hφ => hφ)) (.inr rfl)
       refine res_tmp <| res_nil ?_
       exact rfl
      ·
       replace hm := ite_f hm (of_decide_eq_false h859)
       refine ga_do (i := 18) (bz 22 524287) rfl (by kernel_rfl) (fun _ _ _ _ h => h) rfl rfl rfl rfl rfl h859 (r_move) <| ga_rG (i := 19) (bz 22 1048575) rfl (by kernel_rfl) (by decide) rfl rfl rfl rfl rfl h859 (r_move) <| ga_rG (i := 20) (bz 22 2097151) rfl (by kernel_rfl) (by decide) rfl rfl rfl rfl rfl h859 (r_neqBo Try.underlying4 rfl rfl) <| ga_r (i := 21) (bz 22 4194303) rfl (by kernel_rfl) (by decide) rfl (r_pick0 rfl h859) <| ga_done (by kernel_rfl) <| d_then ?_
       refine c_flat [(0, .slice Ap0_0 p0.length cp0_0), (3, .bool x1), (4, .pointer (some ⟨g11, 0, none⟩)), (5, .pointer (some ⟨g12, 0, none⟩)), (6, .int .i64 i742), (77, .bool (!(x838 == x842)))] ⟨rfl, rfl, rfl, rfl, rfl, rfl, trivial⟩ (fun u => ?_)
       refine c_sta ⟨w0, M, (100155, g11, .cells #[.slice A824 x821.fitems.length c825, .slice A827 x821.fconns.length c828, .int .i64 x821.flast, .int .i64 x821.fopens] 61 (0, 0)) :: (100170, g12, .cells #[.slice A830 x822.fItems.length c831, .slice A833 x822.fConns.length c834, .int .i64 x822.fLast, .int .i64 x822.fOpens] 55 (0, 0)) :: (100070, g819, .cells #[.int .i64 x815.fKind, .int .i64 x815.fA, .int .i64 x815.fB, .int .i64 x815.fN, .string x815.fBody] 33 (0, 0)) :: H, (100150, ⟨.slice A824 x821.fitems.length c825, 40, 6, x821.fitems.length, x821.fitems.flatMap GItem.enc⟩) :: (100151, ⟨.slice A827 x821.fconns.length c828, 63, 3, x821.fconns.length, x821.fconns.flatMap Gnet_conn.enc⟩) :: (16, ⟨.slice A830 x822.fItems.length c831, 40, 6, x822.fItems.length, x822.fItems.flatMap GItem.enc⟩) :: (19, ⟨.slice A833 x822.fConns.length c834, 77, 3, x822.fConns.length, x822.fConns.flatMap Gref08_Conn.enc⟩) :: R, φ⟩ (fun _ h => h) ?_
       refine c_cond rfl (fun h860 => ?_) (fun h860 => ?_)
       ·
        replace hm := ite_t hm h860
        refine c_seq <| c_region <| g_v rfl r_assign <| g_nil <| d_then <| c_ret <| d_ret_block <| d_ret_then <| d_ret_then <| d_ret_block ?_
        refine d_ret_then <| d_ret_then ?_
        replace hm := nx_out (C := (fun e => Sum.elim (fun e => m_law08_NetPlays_j1 x1 e.1 e.2.1 e.2.2.1 e.2.2.2.1 e.2.2.2.2.1 e.2.2.2.2.2.1 e.2.2.2.2.2.2.1 e.2.2.2.2.2.2.2) (fun x => some x) e = some r)) hm hnx2 hr2
        replace hm : some false = some r := hm
        replace hm := Option.some.inj hm
        subst hm
        refine d_retC () Try.results7 ?_ trivial (fun W h => ok_pre (H1 := [_, _, _]) (R1 := [_, _, _, _]) h (fun W hφ => hφ)) (.inr rfl)
        refine res_tmp <| res_nil ?_
        exact rfl
       ·
        replace hm := ite_f hm (bool_nt h860)
        refine c_skip <| d_normal_block <| d_then <| c_region <| g_v rfl r_move <| g_v rfl (r_add rfl rfl rfl) <| g_v rfl r_assign <| g_nil ?_
        obtain ⟨n861, hn861, hlp⟩ := nx_inl hm hnx2
        exact d_round (n861, x822.fConns, x822.fItems, x821.fitems, x821.fconns, w64 (i742 + 1), x822.fLast, x822.fOpens, x821.flast, x821.fopens, A833, c834, A830, c831, A824, c825, A827, c828) ⟨hlp, hc834, hc831, hc825, hc828⟩ hn861 ⟨rfl, rfl, rfl, rfl, rfl, trivial⟩ (fun W h => (ok_front (t := 100170) (t' := 100170) (ok_front (t := 100155) (t' := 100155) (ok_frontR (t := 19) (t' := 19) (ok_frontR (t := 16) (t' := 16) (ok_frontR (t := 100150) (t' := 100150) (ok_frontR (t := 100151) (t' := 100151) (h.dropH (t := 100070) rfl) rfl) rfl) rfl) rfl) rfl) rfl).phi (fun W hφ => hφ))
   ·
    replace hm := ite_f hm (of_decide_eq_false h814)
    refine c_exit <| d_exit_then <| d_exit_then <| d_exit_block ?_
    replace hm := nx_out (C := (fun e => Sum.elim (fun e => m_law08_NetPlays_j1 x1 e.1 e.2.1 e.2.2.1 e.2.2.2.1 e.2.2.2.2.1 e.2.2.2.2.2.1 e.2.2.2.2.2.2.1 e.2.2.2.2.2.2.2) (fun x => some x) e = some r)) hm hnx2 hr2
    exact d_round (l730, l733, l736, l739, i743, i744, i745, i746, A731, c732, A734, c735, A737, c738, A740, c741) ⟨hm, hc732, hc735, hc738, hc741⟩ Nat.zero_lt_one ⟨rfl, rfl, rfl, trivial⟩ (fun W h => h.phi (fun W hφ => hφ))
  ·
   replace hm := ite_f hm (of_decide_eq_false h813)
   refine g_no rfl rfl rfl rfl rfl h813 <| g_v rfl (r_pick0 rfl h813) <| g_nil <| d_then <| c_cond0 rfl rfl <| c_exit <| d_exit_then <| d_exit_then <| d_exit_block ?_
   replace hm := nx_out (C := (fun e => Sum.elim (fun e => m_law08_NetPlays_j1 x1 e.1 e.2.1 e.2.2.1 e.2.2.2.1 e.2.2.2.2.1 e.2.2.2.2.2.1 e.2.2.2.2.2.2.1 e.2.2.2.2.2.2.2) (fun x => some x) e = some r)) hm hnx2 hr2
   exact d_round (l730, l733, l736, l739, i743, i744, i745, i746, A731, c732, A734, c735, A737, c738, A740, c741) ⟨hm, hc732, hc735, hc738, hc741⟩ Nat.zero_lt_one ⟨rfl, rfl, rfl, trivial⟩ (fun W h => h.phi (fun W hφ => hφ))
 ·
  unfold m_law08_NetPlays_j1 at hm
  refine d_flat [(3, .bool x1), (4, .pointer (some ⟨g11, 0, none⟩)), (5, .pointer (some ⟨g12, 0, none⟩))] ⟨rfl, rfl, rfl, trivial⟩ (fun u => ?_)
  refine d_sta ⟨w0, M, (100170, g12, .cells #[.slice A641 l640.length c642, .slice A638 l637.length c639, .int .i64 i649, .int .i64 i650] 55 (0, 0)) :: (100155, g11, .cells #[.slice A644 l643.length c645, .slice A647 l646.length c648, .int .i64 i651, .int .i64 i652] 61 (0, 0)) :: H, (19, ⟨.slice A638 l637.length c639, 77, 3, l637.length, l637.flatMap Gref08_Conn.enc⟩) :: (16, ⟨.slice A641 l640.length c642, 40, 6, l640.length, l640.flatMap GItem.enc⟩) :: (100150, ⟨.slice A644 l643.length c645, 40, 6, l643.length, l643.flatMap GItem.enc⟩) :: (100151, ⟨.slice A647 l646.length c648, 63, 3, l646.length, l646.flatMap Gnet_conn.enc⟩) :: R, φ⟩ (fun _ h => h) <| d_then <| c_seq <| c_region <| g_v rfl r_move ?_
  replace hm := bnd hm
  obtain ⟨x653, hx654, hm⟩ := hm
  refine g_cn ⟨w0, M, (1000, g11, .cells #[.slice A644 l643.length c645, .slice A647 l646.length c648, .int .i64 i651, .int .i64 i652] 61 (0, 0)) :: (100170, g12, .cells #[.slice A641 l640.length c642, .slice A638 l637.length c639, .int .i64 i649, .int .i64 i650] 55 (0, 0)) :: H, (1000, ⟨.slice A644 l643.length c645, 40, 6, l643.length, l643.flatMap GItem.enc⟩) :: (1001, ⟨.slice A647 l646.length c648, 63, 3, l646.length, l646.flatMap Gnet_conn.enc⟩) :: (19, ⟨.slice A638 l637.length c639, 77, 3, l637.length, l637.flatMap Gref08_Conn.enc⟩) :: (16, ⟨.slice A641 l640.length c642, 40, 6, l640.length, l640.flatMap GItem.enc⟩) :: R, φ⟩ (fun W h => (ok_front (t := 100155) (t' := 1000) (ok_frontR (t := 100150) (t' := 1000) (ok_frontR (t := 100151) (t' := 1001) h rfl) rfl) rfl)) Try.call25 rfl rfl (c_net_Net_Ready g11 (⟨l643, l646, i651, i652⟩ : Gnet_Net) A644 c645 hc645 A647 c648 hc648 _ hx654) (fun ⟨A655, c656⟩ hc656 => ?_)
  refine g_sta _ (fun W h => (ok_frontR (t := 2000) (t' := 100790) (ok_frontR (t := 1000) (t' := 100150) (ok_frontR (t := 1001) (t' := 100151) (ok_front (t := 1000) (t' := 100155) h rfl) rfl) rfl) rfl)) <| g_v rfl r_move ?_
  replace hm := bnd hm
  obtain ⟨x658, hx659, hm⟩ := hm
  refine g_cn ⟨w0, M, (1000, g12, .cells #[.slice A641 l640.length c642, .slice A638 l637.length c639, .int .i64 i649, .int .i64 i650] 55 (0, 0)) :: (100155, g11, .cells #[.slice A644 l643.length c645, .slice A647 l646.length c648, .int .i64 i651, .int .i64 i652] 61 (0, 0)) :: H, (1000, ⟨.slice A641 l640.length c642, 40, 6, l640.length, l640.flatMap GItem.enc⟩) :: (1001, ⟨.slice A638 l637.length c639, 77, 3, l637.length, l637.flatMap Gref08_Conn.enc⟩) :: (100790, ⟨.slice A655 x653.length c656, 40, 6, x653.length, x653.flatMap GItem.enc⟩) :: (100150, ⟨.slice A644 l643.length c645, 40, 6, l643.length, l643.flatMap GItem.enc⟩) :: (100151, ⟨.slice A647 l646.length c648, 63, 3, l646.length, l646.flatMap Gnet_conn.enc⟩) :: R, φ⟩ (fun W h => (ok_front (t := 100170) (t' := 1000) (ok_frontR (t := 16) (t' := 1000) (ok_frontR (t := 19) (t' := 1001) h rfl) rfl) rfl)) Try.call26 rfl rfl (c_ref08_Net_Ready g12 (⟨l640, l637, i649, i650⟩ : Gref08_Net) A641 c642 hc642 A638 c639 hc639 _ hx659) (fun ⟨A660, c661⟩ hc661 => ?_)
  refine g_sta _ (fun W h => (ok_frontR (t := 2000) (t' := 100810) (ok_frontR (t := 1000) (t' := 16) (ok_frontR (t := 1001) (t' := 19) (ok_front (t := 1000) (t' := 100170) h rfl) rfl) rfl) rfl)) ?_
  replace hm := bnd hm
  obtain ⟨x663, hx664, hm⟩ := hm
  refine g_cn ⟨w0, M, _, _, φ⟩ (fun _ h => h) Try.call24 rfl rfl (c_ref08_Same x653 A655 c656 hc656 (fun W hS => rowCl (tag := 100790) rfl W hS) x658 A660 c661 hc661 (fun W hS => rowCl (tag := 100810) rfl W hS) _ hx664) (fun _ _ => ?_)
  refine g_v rfl r_assign <| g_nil <| d_then <| c_seq <| c_region <| g_v rfl r_move <| g_v rfl r_move ?_
  refine g_if rfl rfl rfl rfl rfl (fun h665 => ?_) (fun h665 => ?_)
  ·
   replace hm := ite_t hm h665
   refine g_v rfl r_move <| g_v rfl (r_pick1 rfl h665) <| g_v rfl r_assign <| g_nil <| d_then ?_
   refine c_flat [(2, .bool x663)] ⟨rfl, trivial⟩ (fun u => ?_)
   refine c_sta ⟨w0, M, (100170, g12, .cells #[.slice A641 l640.length c642, .slice A638 l637.length c639, .int .i64 i649, .int .i64 i650] 55 (0, 0)) :: (100155, g11, .cells #[.slice A644 l643.length c645, .slice A647 l646.length c648, .int .i64 i651, .int .i64 i652] 61 (0, 0)) :: H, (100810, ⟨.slice A660 x658.length c661, 40, 6, x658.length, x658.flatMap GItem.enc⟩) :: (16, ⟨.slice A641 l640.length c642, 40, 6, l640.length, l640.flatMap GItem.enc⟩) :: (19, ⟨.slice A638 l637.length c639, 77, 3, l637.length, l637.flatMap Gref08_Conn.enc⟩) :: (100790, ⟨.slice A655 x653.length c656, 40, 6, x653.length, x653.flatMap GItem.enc⟩) :: (100150, ⟨.slice A644 l643.length c645, 40, 6, l643.length, l643.flatMap GItem.enc⟩) :: (100151, ⟨.slice A647 l646.length c648, 63, 3, l646.length, l646.flatMap Gnet_conn.enc⟩) :: R, φ⟩ (fun _ h => h) <| c_ret ?_
   replace hm := Option.some.inj hm
   subst hm
   refine d_retC () Try.results7 ?_ trivial (fun W h => ok_pre (H1 := [_, _]) (R1 := [_, _, _, _, _, _]) h (fun W hφ => hφ)) (.inr rfl)
   refine res_tmp <| res_nil ?_
   exact rfl
  ·
   replace hm := ite_f hm (bool_nt h665)
   refine g_v rfl (r_pick0 rfl h665) <| g_v rfl r_assign <| g_nil <| d_then ?_
   refine c_flat [(2, .bool false)] ⟨rfl, trivial⟩ (fun u => ?_)
   refine c_sta ⟨w0, M, (100170, g12, .cells #[.slice A641 l640.length c642, .slice A638 l637.length c639, .int .i64 i649, .int .i64 i650] 55 (0, 0)) :: (100155, g11, .cells #[.slice A644 l643.length c645, .slice A647 l646.length c648, .int .i64 i651, .int .i64 i652] 61 (0, 0)) :: H, (100810, ⟨.slice A660 x658.length c661, 40, 6, x658.length, x658.flatMap GItem.enc⟩) :: (16, ⟨.slice A641 l640.length c642, 40, 6, l640.length, l640.flatMap GItem.enc⟩) :: (19, ⟨.slice A638 l637.length c639, 77, 3, l637.length, l637.flatMap Gref08_Conn.enc⟩) :: (100790, ⟨.slice A655 x653.length c656, 40, 6, x653.length, x653.flatMap GItem.enc⟩) :: (100150, ⟨.slice A644 l643.length c645, 40, 6, l643.length, l643.flatMap GItem.enc⟩) :: (100151, ⟨.slice A647 l646.length c648, 63, 3, l646.length, l646.flatMap Gnet_conn.enc⟩) :: R, φ⟩ (fun _ h => h) <| c_ret ?_
   replace hm := Option.some.inj hm
   subst hm
   refine d_retC () Try.results7 ?_ trivial (fun W h => ok_pre (H1 := [_, _]) (R1 := [_, _, _, _, _, _]) h (fun W hφ => hφ)) (.inr rfl)
   refine res_tmp <| res_nil ?_
   exact rfl
end Go.Proofs.Ythajfodilodhaaa
