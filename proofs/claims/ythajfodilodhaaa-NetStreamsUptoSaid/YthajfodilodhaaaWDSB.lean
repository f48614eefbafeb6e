import Derived.Test.YthajfodilodhaaaWDSA
set_option maxRecDepth 100000
set_option maxHeartbeats 4000000
set_option linter.unusedVariables false
set_option linter.unusedSimpArgs false
namespace Go.Proofs.Ythajfodilodhaaa
open Go.RowKit Go.Proofs.YthajfodilodhaaaW.PrintLast
noncomputable def m_net_Net_datagrams_j1  (l82 : List Int) : Option (List Int) :=
  some l82
noncomputable def m_net_Net_datagrams_s2 (o0 : Gnet_Net) (l100 : List Int) (i103 : Int) : Option (((List Int) × Int) ⊕ (List Int)) :=
  if i103 < (o0.fitems.length : Int) then
    (at_ o0.fitems i103).bind fun x121 =>
    if x121.fKind = 1 then
      (app 8 l100 [i103]).bind fun l128 =>
      some (.inl (l128, w64 (i103 + 1)))
    else
      some (.inl (l100, w64 (i103 + 1)))
  else
    some (.inr l100)
noncomputable def m_net_Net_datagrams (o0 : Gnet_Net) : Option (List Int) :=
  (loop (fun s => m_net_Net_datagrams_s2 o0 s.1 s.2) (([] : List Int), 0)).bind fun e => m_net_Net_datagrams_j1 e
theorem c_net_Net_datagrams {w0 : World} {M : Nat → Prop} {H : List (Nat × Nat × Obj)} {R : List (Nat × Row)} {φ : World → Prop} (go0 : Nat) (o0 : Gnet_Net) (Ao0_0 : Option Addr) (co0_0 : Nat) (hco0_0 : o0.fitems.length ≤ co0_0) (Ao0_1 : Option Addr) (co0_1 : Nat) (hco0_1 : o0.fconns.length ≤ co0_1) (r : (List Int)) (hm : m_net_Net_datagrams o0 = some r) :
    Cn Try.prog 35 #[.pointer (some ⟨go0, 0, none⟩)] ⟨w0, M, (1000, go0, .cells #[.slice Ao0_0 o0.fitems.length co0_0, .slice Ao0_1 o0.fconns.length co0_1, .int .i64 o0.flast, .int .i64 o0.fopens] 61 (0, 0)) :: H, (1000, ⟨.slice Ao0_0 o0.fitems.length co0_0, 40, 6, o0.fitems.length, o0.fitems.flatMap GItem.enc⟩) :: (1001, ⟨.slice Ao0_1 o0.fconns.length co0_1, 63, 3, o0.fconns.length, o0.fconns.flatMap Gnet_conn.enc⟩) :: R, φ⟩ (fun x : Option Addr × Nat => .slice x.1 r.length x.2) (fun x => r.length ≤ x.2) (fun x => ⟨w0, M, (1000, go0, .cells #[.slice Ao0_0 o0.fitems.length co0_0, .slice Ao0_1 o0.fconns.length co0_1, .int .i64 o0.flast, .int .i64 o0.fopens] 61 (0, 0)) :: H, (2000, ⟨.slice x.1 r.length x.2, 3, 1, r.length, r.flatMap (fun x : Int => [Value.int .i64 x])⟩) :: (1000, ⟨.slice Ao0_0 o0.fitems.length co0_0, 40, 6, o0.fitems.length, o0.fitems.flatMap GItem.enc⟩) :: (1001, ⟨.slice Ao0_1 o0.fconns.length co0_1, 63, 3, o0.fconns.length, o0.fconns.flatMap Gnet_conn.enc⟩) :: R, φ⟩) := by
 unfold m_net_Net_datagrams at hm
 refine cn_intro (fn := Try.f35) (N := 25) Try.func35 rfl Try.ntmps35 rfl <| c_seq <| c_region <| g_v rfl r_assign <| g_nil <| d_then <| c_seq <| c_region <| g_v rfl r_assign <| g_nil ?_
 refine d_then <| c_seq <| c_seq <| c_region <| g_v rfl r_move <| g_v rfl (r_nilck rfl) <| g_v rfl (r_field (n := 0) Try.underlying61 rfl Try.sizeOf52 rfl rfl) <| g_v rfl (r_load (tag := 1000) rfl rfl rfl Try.isAgg52) <| g_v rfl (r_lenL Try.underlying52 rfl) <| g_v rfl r_move ?_
 refine g_nil <| d_then <| c_sta _ (fun W h => nilR h 13 3 1) ?_
 refine c_cut (ι := (List Int) × Option Addr × Nat) [3] (fun ⟨l82, A83, c84⟩ => [(3, .slice A83 l82.length c84)]) (fun ⟨l82, A83, c84⟩ => ⟨w0, M, (1000, go0, .cells #[.slice Ao0_0 o0.fitems.length co0_0, .slice Ao0_1 o0.fconns.length co0_1, .int .i64 o0.flast, .int .i64 o0.fopens] 61 (0, 0)) :: H, (13, ⟨.slice A83 l82.length c84, 3, 1, l82.length, l82.flatMap (fun x : Int => [Value.int .i64 x])⟩) :: (1000, ⟨.slice Ao0_0 o0.fitems.length co0_0, 40, 6, o0.fitems.length, o0.fitems.flatMap GItem.enc⟩) :: (1001, ⟨.slice Ao0_1 o0.fconns.length co0_1, 63, 3, o0.fconns.length, o0.fconns.flatMap Gnet_conn.enc⟩) :: R, φ⟩) (fun ⟨l82, A83, c84⟩ => m_net_Net_datagrams_j1 l82 = some r ∧ l82.length ≤ c84) ?_ (fun ⟨l82, A83, c84⟩ u ⟨hm, hc84⟩ => ?_)
 ·
  refine c_block ?_
  replace hm := bnd hm
  obtain ⟨out2, hl2, hr2⟩ := hm
  obtain ⟨n119', hl2⟩ := loop_lp hl2
  refine c_loopU (ι := Nat × (List Int) × Int × Option Addr × Nat) [3, 9, 10, 11] (fun ⟨n119, l100, i103, A101, c102⟩ => [(3, .slice A101 l100.length c102), (11, .int .i64 i103)]) (fun ⟨n119, l100, i103, A101, c102⟩ => ⟨w0, M, (1000, go0, .cells #[.slice Ao0_0 o0.fitems.length co0_0, .slice Ao0_1 o0.fconns.length co0_1, .int .i64 o0.flast, .int .i64 o0.fopens] 61 (0, 0)) :: H, (13, ⟨.slice A101 l100.length c102, 3, 1, l100.length, l100.flatMap (fun x : Int => [Value.int .i64 x])⟩) :: (1000, ⟨.slice Ao0_0 o0.fitems.length co0_0, 40, 6, o0.fitems.length, o0.fitems.flatMap GItem.enc⟩) :: (1001, ⟨.slice Ao0_1 o0.fconns.length co0_1, 63, 3, o0.fconns.length, o0.fconns.flatMap Gnet_conn.enc⟩) :: R, φ⟩) (fun ⟨n119, l100, i103, A101, c102⟩ => Lp (fun s => m_net_Net_datagrams_s2 o0 s.1 s.2) n119 (l100, i103) out2 ∧ l100.length ≤ c102) (fun ⟨n119, l100, i103, A101, c102⟩ => n119) (n119', ([] : List Int), 0, none, 0) ⟨hl2, (Nat.le_refl 0)⟩ ⟨rfl, rfl, rfl, rfl, trivial⟩ (fun W h => h.phi (fun W hφ => hφ)) (fun ⟨n119, l100, i103, A101, c102⟩ u ⟨hlp, hc102⟩ => ?_)
  obtain ⟨o2, hm, hnx2⟩ := lp_step hlp
  clear hlp
  replace hm : m_net_Net_datagrams_s2 o0 l100 i103 = some o2 := hm
  unfold m_net_Net_datagrams_s2 at hm
  refine c_flat [(3, .slice A101 l100.length c102), (9, .slice Ao0_0 o0.fitems.length co0_0), (10, .int .i64 (o0.fitems.length : Int)), (11, .int .i64 i103)] ⟨rfl, rfl, rfl, rfl, trivial⟩ (fun u => ?_)
  refine c_sta ⟨w0, M, (1000, go0, .cells #[.slice Ao0_0 o0.fitems.length co0_0, .slice Ao0_1 o0.fconns.length co0_1, .int .i64 o0.flast, .int .i64 o0.fopens] 61 (0, 0)) :: H, (13, ⟨.slice A101 l100.length c102, 3, 1, l100.length, l100.flatMap (fun x : Int => [Value.int .i64 x])⟩) :: (1000, ⟨.slice Ao0_0 o0.fitems.length co0_0, 40, 6, o0.fitems.length, o0.fitems.flatMap GItem.enc⟩) :: (1001, ⟨.slice Ao0_1 o0.fconns.length co0_1, 63, 3, o0.fconns.length, o0.fconns.flatMap Gnet_conn.enc⟩) :: R, φ⟩ (fun _ h => h) <| c_seq <| c_region <| g_v rfl (r_lss rfl rfl) <| g_nil <| d_then <| c_seq ?_
  refine c_cond rfl (fun h120 => ?_) (fun h120 => ?_)
  ·
   replace hm := ite_t hm (of_decide_eq_true h120)
   refine c_skip <| d_then <| c_seq <| c_block <| c_seq <| c_region <| g_v rfl r_move ?_
   replace hm := bnd hm
   obtain ⟨x121, hx121, hm⟩ := hm
   refine g_know _ (fun W hS => cl_at (p := (Sta.ok ⟨w0, M, (1000, go0, .cells #[.slice Ao0_0 o0.fitems.length co0_0, .slice Ao0_1 o0.fconns.length co0_1, .int .i64 o0.flast, .int .i64 o0.fopens] 61 (0, 0)) :: H, (13, ⟨.slice A101 l100.length c102, 3, 1, l100.length, l100.flatMap (fun x : Int => [Value.int .i64 x])⟩) :: (1000, ⟨.slice Ao0_0 o0.fitems.length co0_0, 40, 6, o0.fitems.length, o0.fitems.flatMap GItem.enc⟩) :: (1001, ⟨.slice Ao0_1 o0.fconns.length co0_1, 63, 3, o0.fconns.length, o0.fconns.flatMap Gnet_conn.enc⟩) :: R, φ⟩)) (sz := 6) (fun _ => rfl) (by decide) hS (fun W hS => rowCl (S := ⟨w0, M, (1000, go0, .cells #[.slice Ao0_0 o0.fitems.length co0_0, .slice Ao0_1 o0.fconns.length co0_1, .int .i64 o0.flast, .int .i64 o0.fopens] 61 (0, 0)) :: H, (13, ⟨.slice A101 l100.length c102, 3, 1, l100.length, l100.flatMap (fun x : Int => [Value.int .i64 x])⟩) :: (1000, ⟨.slice Ao0_0 o0.fitems.length co0_0, 40, 6, o0.fitems.length, o0.fitems.flatMap GItem.enc⟩) :: (1001, ⟨.slice Ao0_1 o0.fconns.length co0_1, 63, 3, o0.fconns.length, o0.fconns.flatMap Gnet_conn.enc⟩) :: R, φ⟩) (tag := 1000) rfl W hS) hx121) ?_
   rintro ⟨ad122, hA124, f123⟩
   refine g_v rfl (r_ix Try.underlying52 Try.sizeOf40 rfl hA124 rfl hx121) <| g_v rfl (r_ldA rfl Try.isAgg40 Try.sizeOf40 (fun W hS => (f123 W hS).take 6) rfl) ?_
   refine g_e rfl (e_alloc 100050 Try.zeroValue40) (fun g125 _ => ?_)
   refine g_v rfl r_assign <| g_storeL (tag := 100050) rfl rfl rfl rfl Try.sizeOf40 rfl rfl <| g_nil <| d_then <| c_seq <| c_region <| g_v rfl (r_field (n := 1) Try.underlying40 rfl Try.sizeOf3 rfl rfl) <| g_v rfl (r_load (tag := 100050) rfl rfl rfl Try.isAgg3) <| g_v rfl (r_eql rfl rfl) <| g_nil ?_
   refine d_then ?_
   refine c_flat [(3, .slice A101 l100.length c102), (4, .int .i64 i103), (9, .slice Ao0_0 o0.fitems.length co0_0), (10, .int .i64 (o0.fitems.length : Int)), (11, .int .i64 i103), (18, .bool (decide (x121.fKind = 1)))] ⟨rfl, rfl, rfl, rfl, rfl, rfl, trivial⟩ (fun u => ?_)
   refine c_sta ⟨w0, M, (100050, g125, .cells #[.int .i64 x121.fNumber, .int .i64 x121.fKind, .int .i64 x121.fFrom, .int .i64 x121.fTo, .int .i64 x121.fConn, .string x121.fBody] 40 (0, 0)) :: (1000, go0, .cells #[.slice Ao0_0 o0.fitems.length co0_0, .slice Ao0_1 o0.fconns.length co0_1, .int .i64 o0.flast, .int .i64 o0.fopens] 61 (0, 0)) :: H, (13, ⟨.slice A101 l100.length c102, 3, 1, l100.length, l100.flatMap (fun x : Int => [Value.int .i64 x])⟩) :: (1000, ⟨.slice Ao0_0 o0.fitems.length co0_0, 40, 6, o0.fitems.length, o0.fitems.flatMap GItem.enc⟩) :: (1001, ⟨.slice Ao0_1 o0.fconns.length co0_1, 63, 3, o0.fconns.length, o0.fconns.flatMap Gnet_conn.enc⟩) :: R, φ⟩ (fun _ h => h) ?_
   refine c_cond rfl (fun h126 => ?_) (fun h126 => ?_)
   ·
    replace hm := ite_t hm (of_decide_eq_true h126)
    refine c_region <| g_v rfl r_move <| g_v rfl r_move ?_
    refine g_e rfl (e_lit (tag := 100210) (l := [i103]) (enc := (fun x : Int => [Value.int .i64 x])) (sz := 1) rfl Try.underlying78 (lit3_7 _) rfl rfl (fun _ => rfl)) (fun g127 _ => ?_)
    replace hm := bnd hm
    obtain ⟨l128, hl128, hm⟩ := hm
    refine g_e rfl (e_appR (enc := (fun x : Int => [Value.int .i64 x])) (l := l100) (l1 := [i103]) (l2 := l128) (tag := 13) Try.underlying78 inf3_8 rfl (by decide) (by decide) (fun _ => rfl) (fun _ => rfl) rfl hc102 rfl rfl (fun W hS => rowCl (tag := 100210) rfl W hS) hl128) (fun ⟨A129, c130⟩ hc130 => ?_)
    refine g_v rfl r_assign <| g_nil <| d_normal_block <| d_then <| c_region <| g_v rfl (r_add rfl rfl rfl) <| g_v rfl r_move <| g_nil ?_
    obtain ⟨n131, hn131, hlp⟩ := nx_inl hm hnx2
    exact d_round (n131, l128, w64 (i103 + 1), A129, c130) ⟨hlp, hc130⟩ hn131 ⟨rfl, rfl, rfl, rfl, trivial⟩ (fun W h => ((h.dropR (t := 100210) rfl).dropH (t := 100050) rfl).phi (fun W hφ => hφ))
   ·
    replace hm := ite_f hm (of_decide_eq_false h126)
    refine c_skip <| d_normal_block <| d_then <| c_region <| g_v rfl (r_add rfl rfl rfl) <| g_v rfl r_move <| g_nil ?_
    obtain ⟨n132, hn132, hlp⟩ := nx_inl hm hnx2
    exact d_round (n132, l100, w64 (i103 + 1), A101, c102) ⟨hlp, hc102⟩ hn132 ⟨rfl, rfl, rfl, rfl, trivial⟩ (fun W h => (h.dropH (t := 100050) rfl).phi (fun W hφ => hφ))
  ·
   replace hm := ite_f hm (of_decide_eq_false h120)
   refine c_exit <| d_exit_then <| d_exit_then <| d_exit_block ?_
   replace hm := nx_out (C := (fun e : (List Int) => m_net_Net_datagrams_j1 e = some r)) hm hnx2 hr2
   exact d_round (l100, A101, c102) ⟨hm, hc102⟩ Nat.zero_lt_one ⟨rfl, trivial⟩ (fun W h => h.phi (fun W hφ => hφ))
 ·
  unfold m_net_Net_datagrams_j1 at hm
  refine d_flat [(3, .slice A83 l82.length c84)] ⟨rfl, trivial⟩ (fun u => ?_)
  refine d_sta ⟨w0, M, (1000, go0, .cells #[.slice Ao0_0 o0.fitems.length co0_0, .slice Ao0_1 o0.fconns.length co0_1, .int .i64 o0.flast, .int .i64 o0.fopens] 61 (0, 0)) :: H, (13, ⟨.slice A83 l82.length c84, 3, 1, l82.length, l82.flatMap (fun x : Int => [Value.int .i64 x])⟩) :: (1000, ⟨.slice Ao0_0 o0.fitems.length co0_0, 40, 6, o0.fitems.length, o0.fitems.flatMap GItem.enc⟩) :: (1001, ⟨.slice Ao0_1 o0.fconns.length co0_1, 63, 3, o0.fconns.length, o0.fconns.flatMap Gnet_conn.enc⟩) :: R, φ⟩ (fun _ h => h) <| d_then <| c_seq <| c_region <| g_v rfl r_move <| g_v rfl r_assign <| g_nil <| d_then <| c_ret ?_
  replace hm := Option.some.inj hm
  subst hm
  refine d_sta _ (fun W h => ok_frontR (t := 13) (t' := 2000) h rfl) ?_
  refine d_retC (A83, c84) Try.results35 ?_ hc84 (fun W h => h.phi (fun W hφ => hφ)) (.inr rfl)
  refine res_tmp <| res_nil ?_
  exact rfl
noncomputable def m_net_Net_picked_2_j1 (x1 : List Int) (i8 : Int) : Option (Int × Bool) :=
  (dvd (x1.length : Int)).bind fun u9 =>
  (at_ x1 (i8.tmod (x1.length : Int))).bind fun x10 =>
  some (x10, true)
noncomputable def m_net_Net_picked_2 (p2 : Int) (o0 : Gnet_Net) : Option (Int × Bool) :=
  (m_net_Net_datagrams o0).bind fun x1 =>
  if (x1.length : Int) = 0 then
    some (0, false)
  else
    if p2 < 0 then
      m_net_Net_picked_2_j1 x1 (w64 (0 - w64 (p2 + 1)))
    else
      m_net_Net_picked_2_j1 x1 p2
theorem c_net_Net_picked_2 {w0 : World} {M : Nat → Prop} {H : List (Nat × Nat × Obj)} {R : List (Nat × Row)} {φ : World → Prop} (p2 : Int) (go0 : Nat) (o0 : Gnet_Net) (Ao0_0 : Option Addr) (co0_0 : Nat) (hco0_0 : o0.fitems.length ≤ co0_0) (Ao0_1 : Option Addr) (co0_1 : Nat) (hco0_1 : o0.fconns.length ≤ co0_1) (r : Int × Bool) (hm : m_net_Net_picked_2 p2 o0 = some r) :
    Cn Try.prog 34 #[.pointer (some ⟨go0, 0, none⟩), .func (.func 35) #[] #[], .int .i64 p2] ⟨w0, M, (1000, go0, .cells #[.slice Ao0_0 o0.fitems.length co0_0, .slice Ao0_1 o0.fconns.length co0_1, .int .i64 o0.flast, .int .i64 o0.fopens] 61 (0, 0)) :: H, (1000, ⟨.slice Ao0_0 o0.fitems.length co0_0, 40, 6, o0.fitems.length, o0.fitems.flatMap GItem.enc⟩) :: (1001, ⟨.slice Ao0_1 o0.fconns.length co0_1, 63, 3, o0.fconns.length, o0.fconns.flatMap Gnet_conn.enc⟩) :: R, φ⟩ (fun x : Unit => .tuple #[.int .i64 r.1, .bool r.2]) (fun x => True) (fun x => ⟨w0, M, (1000, go0, .cells #[.slice Ao0_0 o0.fitems.length co0_0, .slice Ao0_1 o0.fconns.length co0_1, .int .i64 o0.flast, .int .i64 o0.fopens] 61 (0, 0)) :: H, (1000, ⟨.slice Ao0_0 o0.fitems.length co0_0, 40, 6, o0.fitems.length, o0.fitems.flatMap GItem.enc⟩) :: (1001, ⟨.slice Ao0_1 o0.fconns.length co0_1, 63, 3, o0.fconns.length, o0.fconns.flatMap Gnet_conn.enc⟩) :: R, φ⟩) := by
 unfold m_net_Net_picked_2 at hm
 refine cn_intro (fn := Try.f34) (N := 29) Try.func34 rfl Try.ntmps34 rfl <| c_seq <| c_region <| g_v rfl r_assign <| g_v rfl r_assign <| g_nil <| d_then <| c_seq <| c_seq <| c_region ?_
 refine g_v rfl r_move <| g_v rfl (r_eqlP1 Try.underlying24 rfl rfl) <| g_nil <| d_then <| c_cond0 rfl rfl <| c_skip <| d_then <| c_seq <| c_region <| g_v rfl r_move ?_
 refine g_v rfl r_move ?_
 replace hm := bnd hm
 obtain ⟨x1, hx2, hm⟩ := hm
 refine g_cnv ⟨w0, M, (1000, go0, .cells #[.slice Ao0_0 o0.fitems.length co0_0, .slice Ao0_1 o0.fconns.length co0_1, .int .i64 o0.flast, .int .i64 o0.fopens] 61 (0, 0)) :: H, (1000, ⟨.slice Ao0_0 o0.fitems.length co0_0, 40, 6, o0.fitems.length, o0.fitems.flatMap GItem.enc⟩) :: (1001, ⟨.slice Ao0_1 o0.fconns.length co0_1, 63, 3, o0.fconns.length, o0.fconns.flatMap Gnet_conn.enc⟩) :: R, φ⟩ (fun W h => (ok_front (t := 1000) (t' := 1000) (ok_frontR (t := 1000) (t' := 1000) (ok_frontR (t := 1001) (t' := 1001) h rfl) rfl) rfl)) Try.call35 rfl rfl rfl (c_net_Net_datagrams go0 o0 Ao0_0 co0_0 hco0_0 Ao0_1 co0_1 hco0_1 _ hx2) (fun ⟨A3, c4⟩ hc4 => ?_)
 refine g_sta _ (fun W h => (ok_frontR (t := 2000) (t' := 100130) (ok_frontR (t := 1000) (t' := 1000) (ok_frontR (t := 1001) (t' := 1001) (ok_front (t := 1000) (t' := 1000) h rfl) rfl) rfl) rfl)) <| g_v rfl r_assign <| g_nil <| d_then <| c_seq <| c_seq <| c_region <| g_v rfl r_move <| g_v rfl (r_lenL Try.underlying78 rfl) <| g_v rfl (r_eql rfl rfl) ?_
 refine g_nil <| d_then ?_
 refine c_flat [(2, .int .i64 p2), (8, .slice A3 x1.length c4), (16, .bool (decide ((x1.length : Int) = 0)))] ⟨rfl, rfl, rfl, trivial⟩ (fun u => ?_)
 refine c_sta ⟨w0, M, (1000, go0, .cells #[.slice Ao0_0 o0.fitems.length co0_0, .slice Ao0_1 o0.fconns.length co0_1, .int .i64 o0.flast, .int .i64 o0.fopens] 61 (0, 0)) :: H, (100130, ⟨.slice A3 x1.length c4, 3, 1, x1.length, x1.flatMap (fun x : Int => [Value.int .i64 x])⟩) :: (1000, ⟨.slice Ao0_0 o0.fitems.length co0_0, 40, 6, o0.fitems.length, o0.fitems.flatMap GItem.enc⟩) :: (1001, ⟨.slice Ao0_1 o0.fconns.length co0_1, 63, 3, o0.fconns.length, o0.fconns.flatMap Gnet_conn.enc⟩) :: R, φ⟩ (fun _ h => h) ?_
 refine c_cond rfl (fun h6 => ?_) (fun h6 => ?_)
 ·
  replace hm := ite_t hm (of_decide_eq_true h6)
  refine c_seq <| c_region <| g_v rfl r_assign <| g_v rfl r_assign <| g_nil <| d_then <| c_ret <| d_ret_then ?_
  replace hm := Option.some.inj hm
  subst hm
  refine d_retC () Try.results34 ?_ trivial (fun W h => (h.dropR (t := 100130) rfl).phi (fun W hφ => hφ)) (.inr rfl)
  refine res_tmp <| res_tmp <| res_nil ?_
  exact rfl
 ·
  replace hm := ite_f hm (of_decide_eq_false h6)
  refine c_skip <| d_then <| c_seq ?_
  refine c_cut (ι := Int) [2, 8] (fun i8 => [(2, .int .i64 i8)]) (fun i8 => ⟨w0, M, (1000, go0, .cells #[.slice Ao0_0 o0.fitems.length co0_0, .slice Ao0_1 o0.fconns.length co0_1, .int .i64 o0.flast, .int .i64 o0.fopens] 61 (0, 0)) :: H, (100130, ⟨.slice A3 x1.length c4, 3, 1, x1.length, x1.flatMap (fun x : Int => [Value.int .i64 x])⟩) :: (1000, ⟨.slice Ao0_0 o0.fitems.length co0_0, 40, 6, o0.fitems.length, o0.fitems.flatMap GItem.enc⟩) :: (1001, ⟨.slice Ao0_1 o0.fconns.length co0_1, 63, 3, o0.fconns.length, o0.fconns.flatMap Gnet_conn.enc⟩) :: R, φ⟩) (fun i8 => m_net_Net_picked_2_j1 x1 i8 = some r) ?_ (fun i8 u hm => ?_)
  ·
   refine c_seq <| c_region <| g_v rfl r_move <| g_v rfl (r_lss rfl rfl) <| g_nil <| d_then ?_
   refine c_cond rfl (fun h14 => ?_) (fun h14 => ?_)
   ·
    replace hm := ite_t hm (of_decide_eq_true h14)
    refine c_region <| g_v rfl r_move <| g_v rfl (r_add rfl rfl rfl) <| g_v rfl (r_neg rfl rfl) <| g_v rfl r_assign <| g_nil ?_
    exact d_round (w64 (0 - w64 (p2 + 1))) hm Nat.zero_lt_one ⟨rfl, rfl, trivial⟩ (fun W h => h.phi (fun W hφ => hφ))
   ·
    replace hm := ite_f hm (of_decide_eq_false h14)
    refine c_skip ?_
    exact d_round p2 hm Nat.zero_lt_one ⟨rfl, rfl, trivial⟩ (fun W h => h.phi (fun W hφ => hφ))
  ·
   unfold m_net_Net_picked_2_j1 at hm
   refine d_flat [(2, .int .i64 i8), (8, .slice A3 x1.length c4)] ⟨rfl, rfl, trivial⟩ (fun u => ?_)
   refine d_then <| c_seq <| c_region <| g_v rfl r_move <| g_v rfl r_move <| g_v rfl r_move <| g_v rfl (r_lenL Try.underlying78 rfl) ?_
   replace hm := bnd hm
   obtain ⟨u9, hu9, hm⟩ := hm
   refine g_v rfl (r_rem rfl rfl (dvd_some hu9) rfl) ?_
   replace hm := bnd hm
   obtain ⟨x10, hx10, hm⟩ := hm
   refine g_know _ (fun W hS => cl_at (p := (Sta.ok ⟨w0, M, (1000, go0, .cells #[.slice Ao0_0 o0.fitems.length co0_0, .slice Ao0_1 o0.fconns.length co0_1, .int .i64 o0.flast, .int .i64 o0.fopens] 61 (0, 0)) :: H, (100130, ⟨.slice A3 x1.length c4, 3, 1, x1.length, x1.flatMap (fun x : Int => [Value.int .i64 x])⟩) :: (1000, ⟨.slice Ao0_0 o0.fitems.length co0_0, 40, 6, o0.fitems.length, o0.fitems.flatMap GItem.enc⟩) :: (1001, ⟨.slice Ao0_1 o0.fconns.length co0_1, 63, 3, o0.fconns.length, o0.fconns.flatMap Gnet_conn.enc⟩) :: R, φ⟩)) (sz := 1) (fun _ => rfl) (by decide) hS (fun W hS => rowCl (S := ⟨w0, M, (1000, go0, .cells #[.slice Ao0_0 o0.fitems.length co0_0, .slice Ao0_1 o0.fconns.length co0_1, .int .i64 o0.flast, .int .i64 o0.fopens] 61 (0, 0)) :: H, (100130, ⟨.slice A3 x1.length c4, 3, 1, x1.length, x1.flatMap (fun x : Int => [Value.int .i64 x])⟩) :: (1000, ⟨.slice Ao0_0 o0.fitems.length co0_0, 40, 6, o0.fitems.length, o0.fitems.flatMap GItem.enc⟩) :: (1001, ⟨.slice Ao0_1 o0.fconns.length co0_1, 63, 3, o0.fconns.length, o0.fconns.flatMap Gnet_conn.enc⟩) :: R, φ⟩) (tag := 100130) rfl W hS) hx10) ?_
   rintro ⟨ad11, hA13, f12⟩
   refine g_v rfl (r_ix Try.underlying78 Try.sizeOf3 rfl hA13 rfl hx10) <| g_v rfl (r_ld rfl Try.isAgg3 (fun W hS => Cl.head (f12 W hS))) <| g_v rfl r_assign <| g_v rfl r_assign <| g_nil <| d_then ?_
   refine c_flat [(6, .int .i64 x10), (7, .bool true)] ⟨rfl, rfl, trivial⟩ (fun u => ?_)
   refine c_ret ?_
   replace hm := Option.some.inj hm
   subst hm
   refine d_retC () Try.results34 ?_ trivial (fun W h => (h.dropR (t := 100130) rfl).phi (fun W hφ => hφ)) (.inr rfl)
   refine res_tmp <| res_tmp <| res_nil ?_
   exact rfl
noncomputable def m_net_Net_Double (p1 : Int) (o0 : Gnet_Net) : Option (Bool × Gnet_Net) :=
  (m_net_Net_picked_2 p1 o0).bind fun (z4 : Int × Bool) =>
  if z4.2 = true then
    (m_net_Net_full o0).bind fun x6 =>
    if x6 = true then
      some (false, o0)
    else
      (at_ o0.fitems z4.1).bind fun x9 =>
      (m_net_Net_add x9 o0).bind fun x13 =>
      some (true, (⟨x13.fitems, o0.fconns, x13.flast, o0.fopens⟩ : Gnet_Net))
  else
    some (false, o0)
theorem c_net_Net_Double {w0 : World} {M : Nat → Prop} {H : List (Nat × Nat × Obj)} {R : List (Nat × Row)} {φ : World → Prop} (p1 : Int) (go0 : Nat) (o0 : Gnet_Net) (Ao0_0 : Option Addr) (co0_0 : Nat) (hco0_0 : o0.fitems.length ≤ co0_0) (Ao0_1 : Option Addr) (co0_1 : Nat) (hco0_1 : o0.fconns.length ≤ co0_1) (r : Bool × Gnet_Net) (hm : m_net_Net_Double p1 o0 = some r) :
    Cn Try.prog 16 #[.pointer (some ⟨go0, 0, none⟩), .int .i64 p1] ⟨w0, M, (1000, go0, .cells #[.slice Ao0_0 o0.fitems.length co0_0, .slice Ao0_1 o0.fconns.length co0_1, .int .i64 o0.flast, .int .i64 o0.fopens] 61 (0, 0)) :: H, (1000, ⟨.slice Ao0_0 o0.fitems.length co0_0, 40, 6, o0.fitems.length, o0.fitems.flatMap GItem.enc⟩) :: (1001, ⟨.slice Ao0_1 o0.fconns.length co0_1, 63, 3, o0.fconns.length, o0.fconns.flatMap Gnet_conn.enc⟩) :: R, φ⟩ (fun x : Option Addr × Nat => .bool r.1) (fun x => r.2.fitems.length ≤ x.2) (fun x => ⟨w0, M, (1000, go0, .cells #[.slice x.1 r.2.fitems.length x.2, .slice Ao0_1 o0.fconns.length co0_1, .int .i64 r.2.flast, .int .i64 o0.fopens] 61 (0, 0)) :: H, (2000, ⟨.slice x.1 r.2.fitems.length x.2, 40, 6, r.2.fitems.length, r.2.fitems.flatMap GItem.enc⟩) :: (1001, ⟨.slice Ao0_1 o0.fconns.length co0_1, 63, 3, o0.fconns.length, o0.fconns.flatMap Gnet_conn.enc⟩) :: R, φ⟩) := by
 unfold m_net_Net_Double at hm
 refine cn_intro (fn := Try.f16) (N := 28) Try.func16 rfl Try.ntmps16 rfl <| c_seq <| c_region <| g_v rfl r_assign <| g_nil <| d_then <| c_seq <| c_region <| g_v rfl r_move <| g_v rfl r_move ?_
 replace hm := bnd hm
 obtain ⟨⟨x1, x2⟩, hx3, hm⟩ := hm
 refine g_cn ⟨w0, M, (1000, go0, .cells #[.slice Ao0_0 o0.fitems.length co0_0, .slice Ao0_1 o0.fconns.length co0_1, .int .i64 o0.flast, .int .i64 o0.fopens] 61 (0, 0)) :: H, (1000, ⟨.slice Ao0_0 o0.fitems.length co0_0, 40, 6, o0.fitems.length, o0.fitems.flatMap GItem.enc⟩) :: (1001, ⟨.slice Ao0_1 o0.fconns.length co0_1, 63, 3, o0.fconns.length, o0.fconns.flatMap Gnet_conn.enc⟩) :: R, φ⟩ (fun W h => (ok_front (t := 1000) (t' := 1000) (ok_frontR (t := 1000) (t' := 1000) (ok_frontR (t := 1001) (t' := 1001) h rfl) rfl) rfl)) Try.call34 rfl rfl (c_net_Net_picked_2 p1 go0 o0 Ao0_0 co0_0 hco0_0 Ao0_1 co0_1 hco0_1 _ hx3) (fun _ _ => ?_)
 refine g_sta _ (fun W h => (ok_frontR (t := 1000) (t' := 1000) (ok_frontR (t := 1001) (t' := 1001) (ok_front (t := 1000) (t' := 1000) h rfl) rfl) rfl)) <| g_v rfl r_move <| g_v rfl (r_extract rfl rfl) <| g_v rfl (r_extract rfl rfl) <| g_v rfl r_assign <| g_v rfl r_assign <| g_nil <| d_then ?_
 refine c_flat [(0, .pointer (some ⟨go0, 0, none⟩)), (5, .int .i64 x1), (6, .bool x2)] ⟨rfl, rfl, rfl, trivial⟩ (fun u => ?_)
 refine c_sta ⟨w0, M, (1000, go0, .cells #[.slice Ao0_0 o0.fitems.length co0_0, .slice Ao0_1 o0.fconns.length co0_1, .int .i64 o0.flast, .int .i64 o0.fopens] 61 (0, 0)) :: H, (1000, ⟨.slice Ao0_0 o0.fitems.length co0_0, 40, 6, o0.fitems.length, o0.fitems.flatMap GItem.enc⟩) :: (1001, ⟨.slice Ao0_1 o0.fconns.length co0_1, 63, 3, o0.fconns.length, o0.fconns.flatMap Gnet_conn.enc⟩) :: R, φ⟩ (fun _ h => h) <| c_seq <| c_seq <| c_region <| g_v rfl r_move <| g_v rfl (r_not rfl) <| g_v rfl r_move ?_
 refine g_if rfl rfl rfl rfl rfl (fun h5 => ?_) (fun h5 => ?_)
 ·
  have h5' : x2 = true := by revert h5; cases x2 <;> simp
  replace hm := ite_t hm h5'
  refine g_v rfl r_move <| g_do rfl rfl rfl rfl rfl h5 ?_
  replace hm := bnd hm
  obtain ⟨x6, hx7, hm⟩ := hm
  refine g_cn ⟨w0, M, (1000, go0, .cells #[.slice Ao0_0 o0.fitems.length co0_0, .slice Ao0_1 o0.fconns.length co0_1, .int .i64 o0.flast, .int .i64 o0.fopens] 61 (0, 0)) :: H, (1000, ⟨.slice Ao0_0 o0.fitems.length co0_0, 40, 6, o0.fitems.length, o0.fitems.flatMap GItem.enc⟩) :: (1001, ⟨.slice Ao0_1 o0.fconns.length co0_1, 63, 3, o0.fconns.length, o0.fconns.flatMap Gnet_conn.enc⟩) :: R, φ⟩ (fun W h => (ok_front (t := 1000) (t' := 1000) (ok_frontR (t := 1000) (t' := 1000) (ok_frontR (t := 1001) (t' := 1001) h rfl) rfl) rfl)) Try.call27 rfl rfl (c_net_Net_full go0 o0 Ao0_0 co0_0 hco0_0 Ao0_1 co0_1 hco0_1 _ hx7) (fun _ _ => ?_)
  refine g_sta _ (fun W h => (ok_frontR (t := 1000) (t' := 1000) (ok_frontR (t := 1001) (t' := 1001) (ok_front (t := 1000) (t' := 1000) h rfl) rfl) rfl)) <| g_v rfl (r_pick0 rfl h5) <| g_nil <| d_then ?_
  refine c_cond rfl (fun h8 => ?_) (fun h8 => ?_)
  ·
   replace hm := ite_t hm h8
   refine c_seq <| c_region <| g_v rfl r_assign <| g_nil <| d_then <| c_ret <| d_ret_then ?_
   replace hm := Option.some.inj hm
   subst hm
   refine d_sta _ (fun W h => ok_frontR (t := 1000) (t' := 2000) h rfl) ?_
   refine d_retC (Ao0_0, co0_0) Try.results16 ?_ hco0_0 (fun W h => h.phi (fun W hφ => hφ)) (.inr rfl)
   refine res_tmp <| res_nil ?_
   exact rfl
  ·
   replace hm := ite_f hm (bool_nt h8)
   refine c_skip <| d_then <| c_seq <| c_region <| g_v rfl r_move <| g_v rfl r_move <| g_v rfl (r_nilck rfl) <| g_v rfl (r_field (n := 0) Try.underlying61 rfl Try.sizeOf52 rfl rfl) <| g_v rfl (r_load (tag := 1000) rfl rfl rfl Try.isAgg52) <| g_v rfl r_move ?_
   replace hm := bnd hm
   obtain ⟨x9, hx9, hm⟩ := hm
   refine g_know _ (fun W hS => cl_at (p := (Sta.ok ⟨w0, M, (1000, go0, .cells #[.slice Ao0_0 o0.fitems.length co0_0, .slice Ao0_1 o0.fconns.length co0_1, .int .i64 o0.flast, .int .i64 o0.fopens] 61 (0, 0)) :: H, (1000, ⟨.slice Ao0_0 o0.fitems.length co0_0, 40, 6, o0.fitems.length, o0.fitems.flatMap GItem.enc⟩) :: (1001, ⟨.slice Ao0_1 o0.fconns.length co0_1, 63, 3, o0.fconns.length, o0.fconns.flatMap Gnet_conn.enc⟩) :: R, φ⟩)) (sz := 6) (fun _ => rfl) (by decide) hS (fun W hS => rowCl (S := ⟨w0, M, (1000, go0, .cells #[.slice Ao0_0 o0.fitems.length co0_0, .slice Ao0_1 o0.fconns.length co0_1, .int .i64 o0.flast, .int .i64 o0.fopens] 61 (0, 0)) :: H, (1000, ⟨.slice Ao0_0 o0.fitems.length co0_0, 40, 6, o0.fitems.length, o0.fitems.flatMap GItem.enc⟩) :: (1001, ⟨.slice Ao0_1 o0.fconns.length co0_1, 63, 3, o0.fconns.length, o0.fconns.flatMap Gnet_conn.enc⟩) :: R, φ⟩) (tag := 1000) rfl W hS) hx9) ?_
   rintro ⟨ad10, hA12, f11⟩
   refine g_v rfl (r_ix Try.underlying52 Try.sizeOf40 rfl hA12 rfl hx9) <| g_v rfl (r_ldA rfl Try.isAgg40 Try.sizeOf40 (fun W hS => (f11 W hS).take 6) rfl) ?_
   replace hm := bnd hm
   obtain ⟨x13, hx14, hm⟩ := hm
   refine g_cn ⟨w0, M, (1000, go0, .cells #[.slice Ao0_0 o0.fitems.length co0_0, .slice Ao0_1 o0.fconns.length co0_1, .int .i64 o0.flast, .int .i64 o0.fopens] 61 (0, 0)) :: H, (1000, ⟨.slice Ao0_0 o0.fitems.length co0_0, 40, 6, o0.fitems.length, o0.fitems.flatMap GItem.enc⟩) :: (1001, ⟨.slice Ao0_1 o0.fconns.length co0_1, 63, 3, o0.fconns.length, o0.fconns.flatMap Gnet_conn.enc⟩) :: R, φ⟩ (fun W h => (ok_front (t := 1000) (t' := 1000) (ok_frontR (t := 1000) (t' := 1000) (ok_frontR (t := 1001) (t' := 1001) h rfl) rfl) rfl)) Try.call28 rfl rfl (c_net_Net_add x9 go0 o0 Ao0_0 co0_0 hco0_0 Ao0_1 co0_1 hco0_1 _ hx14) (fun ⟨A15, c16⟩ hc16 => ?_)
   refine g_sta _ (fun W h => (ok_frontR (t := 2000) (t' := 1000) (ok_frontR (t := 1001) (t' := 1001) (ok_front (t := 1000) (t' := 1000) h rfl) rfl) rfl)) <| g_nil <| d_then ?_
   refine c_flat [] trivial (fun u => ?_)
   refine c_sta ⟨w0, M, (1000, go0, .cells #[.slice A15 x13.fitems.length c16, .slice Ao0_1 o0.fconns.length co0_1, .int .i64 x13.flast, .int .i64 o0.fopens] 61 (0, 0)) :: H, (1000, ⟨.slice A15 x13.fitems.length c16, 40, 6, x13.fitems.length, x13.fitems.flatMap GItem.enc⟩) :: (1001, ⟨.slice Ao0_1 o0.fconns.length co0_1, 63, 3, o0.fconns.length, o0.fconns.flatMap Gnet_conn.enc⟩) :: R, φ⟩ (fun _ h => h) <| c_seq <| c_region <| g_v rfl r_assign <| g_nil <| d_then <| c_ret ?_
   replace hm := Option.some.inj hm
   subst hm
   refine d_sta _ (fun W h => ok_frontR (t := 1000) (t' := 2000) h rfl) ?_
   refine d_retC (A15, c16) Try.results16 ?_ hc16 (fun W h => h.phi (fun W hφ => hφ)) (.inr rfl)
   refine res_tmp <| res_nil ?_
   exact rfl
 ·
  have h5' : x2 = false := by revert h5; cases x2 <;> simp
  replace hm := ite_f hm (bool_nt h5')
  refine g_no rfl rfl rfl rfl rfl h5 <| g_v rfl (r_pick1 rfl h5) <| g_nil <| d_then <| c_cond1 rfl rfl <| c_seq <| c_region <| g_v rfl r_assign <| g_nil <| d_then ?_
  refine c_ret <| d_ret_then ?_
  replace hm := Option.some.inj hm
  subst hm
  refine d_sta _ (fun W h => ok_frontR (t := 1000) (t' := 2000) h rfl) ?_
  refine d_retC (Ao0_0, co0_0) Try.results16 ?_ hco0_0 (fun W h => h.phi (fun W hφ => hφ)) (.inr rfl)
  refine res_tmp <| res_nil ?_
  exact rfl
noncomputable def m_law08_NetStreams_j1 (x1 : Bool) : Option Bool :=
  some x1
noncomputable def m_law08_NetStreams_j3 (x1093 : Bool) (x1092 : Int) (l806 : List Int) (x1084 : Int) (x1086 : Int) (x1094 : Gnet_Net) (i805 : Int) (l807 : List Bool) (l808 : List ByteArray) (l809 : List ByteArray) : Option (((List GItem) × (List Gnet_conn) × Int × (List Int) × (List Bool) × (List ByteArray) × (List ByteArray) × Int × Int) ⊕ (Unit ⊕ Bool)) :=
  if x1093 = true then
    (aix 5 x1092).bind fun a1107 =>
    (setN l806 (0 + a1107 * 2) x1084).bind fun l1108 =>
    (setN l1108 ((0 + a1107 * 2) + 1) x1086).bind fun l1109 =>
    some (.inl (x1094.fitems, x1094.fconns, w64 (i805 + 1), l1109, l807, l808, l809, x1094.flast, x1094.fopens))
  else
    some (.inl (x1094.fitems, x1094.fconns, w64 (i805 + 1), l806, l807, l808, l809, x1094.flast, x1094.fopens))
noncomputable def m_law08_NetStreams_j5 (x1215 : GItem) (l807 : List Bool) (l806 : List Int) (l808 : List ByteArray) (l809 : List ByteArray) (x1217 : Gnet_Net) (l802 : List Gnet_conn) (i805 : Int) (i810 : Int) (i811 : Int) (i1236 : Int) : Option (((List GItem) × (List Gnet_conn) × Int × (List Int) × (List Bool) × (List ByteArray) × (List ByteArray) × Int × Int) ⊕ (Unit ⊕ Bool)) :=
  (aix 5 x1215.fConn).bind fun a1251 =>
  (aix 2 i1236).bind fun a1252 =>
  (l807[((0 + a1251 * 2) + a1252 * 1)]?).bind fun x1253 =>
  if x1253 = true then
    some (.inr (.inr false))
  else
    (aix 5 x1215.fConn).bind fun a1255 =>
    (aix 2 i1236).bind fun a1256 =>
    (l806[((0 + a1255 * 2) + a1256 * 1)]?).bind fun x1257 =>
    if x1215.fTo ≠ x1257 then
      some (.inr (.inr false))
    else
      (aix 5 x1215.fConn).bind fun a1265 =>
      (aix 2 i1236).bind fun a1266 =>
      (setN l807 ((0 + a1265 * 2) + a1266 * 1) (decide (x1215.fKind = 4))).bind fun l1267 =>
      (aix 5 x1215.fConn).bind fun a1282 =>
      (aix 2 i1236).bind fun a1283 =>
      (l808[((0 + a1282 * 2) + a1283 * 1)]?).bind fun x1284 =>
      (sadd x1284 x1215.fBody).bind fun s1285 =>
      (aix 5 x1215.fConn).bind fun a1286 =>
      (aix 2 i1236).bind fun a1287 =>
      (setN l808 ((0 + a1286 * 2) + a1287 * 1) s1285).bind fun l1288 =>
      (aix 5 x1215.fConn).bind fun a1289 =>
      (aix 2 i1236).bind fun a1290 =>
      (l809[((0 + a1289 * 2) + a1290 * 1)]?).bind fun x1291 =>
      (aix 5 x1215.fConn).bind fun a1314 =>
      (aix 2 i1236).bind fun a1315 =>
      (l1288[((0 + a1314 * 2) + a1315 * 1)]?).bind fun x1316 =>
      if (x1291.size : Int) < (x1316.size : Int) then
        some (.inr (.inr false))
      else
        (aix 5 x1215.fConn).bind fun a1318 =>
        (aix 2 i1236).bind fun a1319 =>
        (l1288[((0 + a1318 * 2) + a1319 * 1)]?).bind fun x1320 =>
        (scutHi x1291 (x1320.size : Int)).bind fun s1321 =>
        (aix 5 x1215.fConn).bind fun a1322 =>
        (aix 2 i1236).bind fun a1323 =>
        (l1288[((0 + a1322 * 2) + a1323 * 1)]?).bind fun x1324 =>
        if s1321 = x1324 then
          some (.inl (x1217.fitems, l802, w64 (i805 + 1), l806, l1267, l1288, l809, i810, i811))
        else
          some (.inr (.inr false))
noncomputable def m_law08_NetStreams_j4 (x1079 : Int) (l806 : List Int) (x1072 : Glaw08_Op) (l799 : List GItem) (l802 : List Gnet_conn) (i810 : Int) (i811 : Int) (i805 : Int) (l807 : List Bool) (l808 : List ByteArray) (l809 : List ByteArray) (x1081 : Int) (i1117 : Int) (b1118 : Bool) : Option (((List GItem) × (List Gnet_conn) × Int × (List Int) × (List Bool) × (List ByteArray) × (List ByteArray) × Int × Int) ⊕ (Unit ⊕ Bool)) :=
  if b1118 = true then
    (aix 5 i1117).bind fun a1148 =>
    (aix 2 x1079).bind fun a1149 =>
    (l806[((0 + a1148 * 2) + a1149 * 1)]?).bind fun x1150 =>
    (m_net_Net_Write i1117 x1150 x1072.fBody (⟨l799, l802, i810, i811⟩ : Gnet_Net)).bind fun (z1157 : Bool × Gnet_Net) =>
    if z1157.1 = true then
      (aix 5 i1117).bind fun a1159 =>
      (l806[(0 + a1159 * 2)]?).bind fun x1160 =>
      (l806[(0 + a1159 * 2) + 1]?).bind fun x1161 =>
      if (⟨x1160, x1161⟩ : Garray30) = (⟨0, 0⟩ : Garray30) then
        some (.inl (z1157.2.fitems, l802, w64 (i805 + 1), l806, l807, l808, l809, z1157.2.flast, i811))
      else
        (aix 5 i1117).bind fun a1177 =>
        (aix 2 (w64 (1 - x1079))).bind fun a1178 =>
        (l809[((0 + a1177 * 2) + a1178 * 1)]?).bind fun x1179 =>
        (sadd x1179 x1072.fBody).bind fun s1180 =>
        (aix 5 i1117).bind fun a1181 =>
        (aix 2 (w64 (1 - x1079))).bind fun a1182 =>
        (setN l809 ((0 + a1181 * 2) + a1182 * 1) s1180).bind fun l1183 =>
        some (.inl (z1157.2.fitems, l802, w64 (i805 + 1), l806, l807, l808, l1183, z1157.2.flast, i811))
    else
      some (.inl (z1157.2.fitems, l802, w64 (i805 + 1), l806, l807, l808, l809, z1157.2.flast, i811))
  else
    if x1081 = 4 then
      (m_net_Net_Close i1117 (⟨l799, l802, i810, i811⟩ : Gnet_Net)).bind fun (z1197 : Bool × Gnet_Net) =>
      some (.inl (z1197.2.fitems, z1197.2.fconns, w64 (i805 + 1), l806, l807, l808, l809, z1197.2.flast, i811))
    else
      if x1081 = 5 then
        (m_net_Net_Send 0 1 x1072.fBody (⟨l799, l802, i810, i811⟩ : Gnet_Net)).bind fun (z1206 : Bool × Gnet_Net) =>
        (m_net_Net_Double x1072.fB (⟨z1206.2.fitems, l802, z1206.2.flast, i811⟩ : Gnet_Net)).bind fun (z1213 : Bool × Gnet_Net) =>
        some (.inl (z1213.2.fitems, l802, w64 (i805 + 1), l806, l807, l808, l809, z1213.2.flast, i811))
      else
        (m_net_Net_Take x1072.fB (⟨l799, l802, i810, i811⟩ : Gnet_Net)).bind fun (z1222 : GItem × Bool × Gnet_Net) =>
        if z1222.2.1 = true then
          if z1222.1.fKind = 1 then
            some (.inl (z1222.2.2.fitems, l802, w64 (i805 + 1), l806, l807, l808, l809, i810, i811))
          else
            if z1222.1.fConn < 1 then
              some (.inr (.inr false))
            else
              if 4 < z1222.1.fConn then
                some (.inr (.inr false))
              else
                (aix 5 z1222.1.fConn).bind fun a1331 =>
                (l806[((0 + a1331 * 2) + 1 * 1)]?).bind fun x1332 =>
                if z1222.1.fTo = x1332 then
                  m_law08_NetStreams_j5 z1222.1 l807 l806 l808 l809 z1222.2.2 l802 i805 i810 i811 1
                else
                  m_law08_NetStreams_j5 z1222.1 l807 l806 l808 l809 z1222.2.2 l802 i805 i810 i811 0
        else
          some (.inl (z1222.2.2.fitems, l802, w64 (i805 + 1), l806, l807, l808, l809, i810, i811))
noncomputable def m_law08_NetStreams_s2 (p0 : List Glaw08_Op) (l799 : List GItem) (l802 : List Gnet_conn) (i805 : Int) (l806 : List Int) (l807 : List Bool) (l808 : List ByteArray) (l809 : List ByteArray) (i810 : Int) (i811 : Int) : Option (((List GItem) × (List Gnet_conn) × Int × (List Int) × (List Bool) × (List ByteArray) × (List ByteArray) × Int × Int) ⊕ (Unit ⊕ Bool)) :=
  if i805 < (p0.length : Int) then
    if i805 < 60 then
      (at_ p0 i805).bind fun x1072 =>
      (m_ref08_Pick x1072.fN 4).bind fun x1077 =>
      (m_ref08_Pick x1072.fA 2).bind fun x1079 =>
      (m_ref08_Pick x1072.fKind 8).bind fun x1081 =>
      if x1081 = 0 then
        (m_ref08_Pick x1072.fA 4).bind fun x1084 =>
        (m_ref08_Pick x1072.fB 4).bind fun x1086 =>
        (l806[(0 + 4 * 2)]?).bind fun x1088 =>
        (l806[(0 + 4 * 2) + 1]?).bind fun x1089 =>
        if (⟨x1088, x1089⟩ : Garray30) = (⟨0, 0⟩ : Garray30) then
          (m_net_Net_Open x1084 x1086 (⟨l799, l802, i810, i811⟩ : Gnet_Net)).bind fun (z1102 : Int × Bool × Gnet_Net) =>
          if z1102.2.1 = true then
            if z1102.1 < 1 then
              some (.inr (.inr false))
            else
              if 4 < z1102.1 then
                some (.inr (.inr false))
              else
                m_law08_NetStreams_j3 z1102.2.1 z1102.1 l806 x1084 x1086 z1102.2.2 i805 l807 l808 l809
          else
            m_law08_NetStreams_j3 z1102.2.1 z1102.1 l806 x1084 x1086 z1102.2.2 i805 l807 l808 l809
        else
          some (.inl (l799, l802, w64 (i805 + 1), l806, l807, l808, l809, i810, i811))
      else
        if x1081 = 1 then
          m_law08_NetStreams_j4 x1079 l806 x1072 l799 l802 i810 i811 i805 l807 l808 l809 x1081 (w64 (1 + x1077)) (decide (x1081 = 1))
        else
          if x1081 = 2 then
            m_law08_NetStreams_j4 x1079 l806 x1072 l799 l802 i810 i811 i805 l807 l808 l809 x1081 (w64 (1 + x1077)) (decide (x1081 = 2))
          else
            m_law08_NetStreams_j4 x1079 l806 x1072 l799 l802 i810 i811 i805 l807 l808 l809 x1081 (w64 (1 + x1077)) (decide (x1081 = 3))
    else
      some (.inr (.inl ()))
  else
    some (.inr (.inl ()))
noncomputable def m_law08_NetStreams (p0 : List Glaw08_Op) : Option Bool :=
  (m_law08_awake).bind fun x1 =>
  (m_net_New).bind fun x3 =>
  (loop (fun s => m_law08_NetStreams_s2 p0 s.1 s.2.1 s.2.2.1 s.2.2.2.1 s.2.2.2.2.1 s.2.2.2.2.2.1 s.2.2.2.2.2.2.1 s.2.2.2.2.2.2.2.1 s.2.2.2.2.2.2.2.2) (x3.fitems, x3.fconns, 0, (List.replicate 10 0), (List.replicate 10 false), (List.replicate 10 (⟨#[]⟩ : ByteArray)), (List.replicate 10 (⟨#[]⟩ : ByteArray)), x3.flast, x3.fopens)).bind fun e => Sum.elim (fun e => m_law08_NetStreams_j1 x1) (fun x => some x) e
theorem c_law08_NetStreams {w0 : World} {M : Nat → Prop} {H : List (Nat × Nat × Obj)} {R : List (Nat × Row)} {φ : World → Prop} (p0 : List Glaw08_Op) (Ap0_0 : Option Addr) (cp0_0 : Nat) (hcp0_0 : p0.length ≤ cp0_0) (fp0_0 : ∀ W, (Sta.mk w0 M H R φ).ok W → Cl W Ap0_0 (p0.flatMap Glaw08_Op.enc)) (r : Bool) (hm : m_law08_NetStreams p0 = some r) :
    Cn Try.prog 3 #[.slice Ap0_0 p0.length cp0_0] ⟨w0, M, H, R, φ⟩ (fun x : Unit => .bool r) (fun x => True) (fun x => ⟨w0, M, H, R, φ⟩) := by
 unfold m_law08_NetStreams at hm
 refine cn_intro (fn := Try.f3) (N := 237) Try.func3 rfl Try.ntmps3 rfl <| c_seq <| c_region <| g_v rfl r_assign <| g_nil <| d_then <| c_seq <| c_region ?_
 replace hm := bnd hm
 obtain ⟨x1, hx2, hm⟩ := hm
 refine g_cn ⟨w0, M, _, _, φ⟩ (fun _ h => h) Try.call9 rfl rfl (c_law08_awake  _ hx2) (fun _ _ => ?_)
 refine g_v rfl r_assign <| g_nil <| d_then <| c_seq <| c_region ?_
 replace hm := bnd hm
 obtain ⟨x3, hx4, hm⟩ := hm
 refine g_cn ⟨w0, M, _, _, φ⟩ (fun _ h => h) Try.call10 rfl rfl (c_net_New  _ hx4) (fun ⟨A5, c6, A8, c9, g11⟩ ⟨hc6, hc9⟩ => ?_)
 refine g_sta _ (fun W h => (ok_frontR (t := 2000) (t' := 100220) (ok_frontR (t := 2001) (t' := 100221) (ok_front (t := 3000) (t' := 100225) h rfl) rfl) rfl)) <| g_v rfl r_assign <| g_nil <| d_then <| c_seq <| c_seq <| c_region <| g_v rfl r_move <| g_v rfl (r_eqlP1 Try.underlying24 rfl rfl) <| g_nil ?_
 refine d_then <| c_cond0 rfl rfl <| c_skip <| d_then <| c_seq <| c_region ?_
 refine g_e rfl (e_alloc 100050 Try.zeroValue27) (fun g12 _ => ?_)
 refine g_sta ⟨w0, M, (100050, g12, .cells ((List.replicate 10 (⟨#[]⟩ : ByteArray)).map (fun x : ByteArray => Value.string x)).toArray 27 (0, 0)) :: (100225, g11, .cells #[.slice A5 x3.fitems.length c6, .slice A8 x3.fconns.length c9, .int .i64 x3.flast, .int .i64 x3.fopens] 61 (0, 0)) :: H, (100220, ⟨.slice A5 x3.fitems.length c6, 40, 6, x3.fitems.length, x3.fitems.flatMap GItem.enc⟩) :: (100221, ⟨.slice A8 x3.fconns.length c9, 63, 3, x3.fconns.length, x3.fconns.flatMap Gnet_conn.enc⟩) :: R, φ⟩ (fun _ h => blk_eq (by kernel_rfl) h) <| g_nil <| d_then <| c_seq <| c_region ?_
 refine g_e rfl (e_alloc 100060 Try.zeroValue27) (fun g13 _ => ?_)
 refine g_sta ⟨w0, M, (100060, g13, .cells ((List.replicate 10 (⟨#[]⟩ : ByteArray)).map (fun x : ByteArray => Value.string x)).toArray 27 (0, 0)) :: (100050, g12, .cells ((List.replicate 10 (⟨#[]⟩ : ByteArray)).map (fun x : ByteArray => Value.string x)).toArray 27 (0, 0)) :: (100225, g11, .cells #[.slice A5 x3.fitems.length c6, .slice A8 x3.fconns.length c9, .int .i64 x3.flast, .int .i64 x3.fopens] 61 (0, 0)) :: H, (100220, ⟨.slice A5 x3.fitems.length c6, 40, 6, x3.fitems.length, x3.fitems.flatMap GItem.enc⟩) :: (100221, ⟨.slice A8 x3.fconns.length c9, 63, 3, x3.fconns.length, x3.fconns.flatMap Gnet_conn.enc⟩) :: R, φ⟩ (fun _ h => blk_eq (by kernel_rfl) h) <| g_nil <| d_then ?_
 refine c_flat [(0, .slice Ap0_0 p0.length cp0_0), (3, .bool x1), (4, .pointer (some ⟨g11, 0, none⟩)), (5, .pointer (some ⟨g12, 0, none⟩)), (6, .pointer (some ⟨g13, 0, none⟩))] ⟨rfl, rfl, rfl, rfl, rfl, trivial⟩ (fun u => ?_)
 refine c_sta ⟨w0, M, (100060, g13, .cells ((List.replicate 10 (⟨#[]⟩ : ByteArray)).map (fun x : ByteArray => Value.string x)).toArray 27 (0, 0)) :: (100050, g12, .cells ((List.replicate 10 (⟨#[]⟩ : ByteArray)).map (fun x : ByteArray => Value.string x)).toArray 27 (0, 0)) :: (100225, g11, .cells #[.slice A5 x3.fitems.length c6, .slice A8 x3.fconns.length c9, .int .i64 x3.flast, .int .i64 x3.fopens] 61 (0, 0)) :: H, (100220, ⟨.slice A5 x3.fitems.length c6, 40, 6, x3.fitems.length, x3.fitems.flatMap GItem.enc⟩) :: (100221, ⟨.slice A8 x3.fconns.length c9, 63, 3, x3.fconns.length, x3.fconns.flatMap Gnet_conn.enc⟩) :: R, φ⟩ (fun _ h => h) <| c_seq <| c_region ?_
 refine g_e rfl (e_alloc 100070 Try.zeroValue29) (fun g14 _ => ?_)
 refine g_sta ⟨w0, M, (100070, g14, .cells ((List.replicate 10 false).map (fun x : Bool => Value.bool x)).toArray 29 (0, 0)) :: (100060, g13, .cells ((List.replicate 10 (⟨#[]⟩ : ByteArray)).map (fun x : ByteArray => Value.string x)).toArray 27 (0, 0)) :: (100050, g12, .cells ((List.replicate 10 (⟨#[]⟩ : ByteArray)).map (fun x : ByteArray => Value.string x)).toArray 27 (0, 0)) :: (100225, g11, .cells #[.slice A5 x3.fitems.length c6, .slice A8 x3.fconns.length c9, .int .i64 x3.flast, .int .i64 x3.fopens] 61 (0, 0)) :: H, (100220, ⟨.slice A5 x3.fitems.length c6, 40, 6, x3.fitems.length, x3.fitems.flatMap GItem.enc⟩) :: (100221, ⟨.slice A8 x3.fconns.length c9, 63, 3, x3.fconns.length, x3.fconns.flatMap Gnet_conn.enc⟩) :: R, φ⟩ (fun _ h => blk_eq (by kernel_rfl) h) <| g_nil <| d_then <| c_seq <| c_region ?_
 refine g_e rfl (e_alloc 100080 Try.zeroValue31) (fun g15 _ => ?_)
 refine g_sta ⟨w0, M, (100080, g15, .cells ((List.replicate 10 0).map (fun x : Int => Value.int .i64 x)).toArray 31 (0, 0)) :: (100070, g14, .cells ((List.replicate 10 false).map (fun x : Bool => Value.bool x)).toArray 29 (0, 0)) :: (100060, g13, .cells ((List.replicate 10 (⟨#[]⟩ : ByteArray)).map (fun x : ByteArray => Value.string x)).toArray 27 (0, 0)) :: (100050, g12, .cells ((List.replicate 10 (⟨#[]⟩ : ByteArray)).map (fun x : ByteArray => Value.string x)).toArray 27 (0, 0)) :: (100225, g11, .cells #[.slice A5 x3.fitems.length c6, .slice A8 x3.fconns.length c9, .int .i64 x3.flast, .int .i64 x3.fopens] 61 (0, 0)) :: H, (100220, ⟨.slice A5 x3.fitems.length c6, 40, 6, x3.fitems.length, x3.fitems.flatMap GItem.enc⟩) :: (100221, ⟨.slice A8 x3.fconns.length c9, 63, 3, x3.fconns.length, x3.fconns.flatMap Gnet_conn.enc⟩) :: R, φ⟩ (fun _ h => blk_eq (by kernel_rfl) h) <| g_nil <| d_then <| c_seq ?_
 refine c_cut (ι := Unit) [3] (fun _ => []) (fun _ => ⟨w0, M, H, R, φ⟩) (fun _ => m_law08_NetStreams_j1 x1 = some r) ?_ (fun _ u hm => ?_)
 ·
  refine c_seq <| c_region <| g_v rfl r_assign <| g_nil <| d_then <| c_block ?_
  replace hm := bnd hm
  obtain ⟨out2, hl2, hr2⟩ := hm
  obtain ⟨n1069', hl2⟩ := loop_lp hl2
  refine c_loopU (ι := Nat × (List GItem) × (List Gnet_conn) × Int × (List Int) × (List Bool) × (List ByteArray) × (List ByteArray) × Int × Int × Option Addr × Nat × Option Addr × Nat) [0, 3, 4, 5, 6, 7, 8, 9] (fun ⟨n1069, l799, l802, i805, l806, l807, l808, l809, i810, i811, A800, c801, A803, c804⟩ => [(9, .int .i64 i805)]) (fun ⟨n1069, l799, l802, i805, l806, l807, l808, l809, i810, i811, A800, c801, A803, c804⟩ => ⟨w0, M, (100080, g15, .cells (l806.map (fun x : Int => Value.int .i64 x)).toArray 31 (0, 0)) :: (100070, g14, .cells (l807.map (fun x : Bool => Value.bool x)).toArray 29 (0, 0)) :: (100060, g13, .cells (l808.map (fun x : ByteArray => Value.string x)).toArray 27 (0, 0)) :: (100050, g12, .cells (l809.map (fun x : ByteArray => Value.string x)).toArray 27 (0, 0)) :: (100225, g11, .cells #[.slice A800 l799.length c801, .slice A803 l802.length c804, .int .i64 i810, .int .i64 i811] 61 (0, 0)) :: H, (100220, ⟨.slice A800 l799.length c801, 40, 6, l799.length, l799.flatMap GItem.enc⟩) :: (100221, ⟨.slice A803 l802.length c804, 63, 3, l802.length, l802.flatMap Gnet_conn.enc⟩) :: R, φ⟩) (fun ⟨n1069, l799, l802, i805, l806, l807, l808, l809, i810, i811, A800, c801, A803, c804⟩ => Lp (fun s => m_law08_NetStreams_s2 p0 s.1 s.2.1 s.2.2.1 s.2.2.2.1 s.2.2.2.2.1 s.2.2.2.2.2.1 s.2.2.2.2.2.2.1 s.2.2.2.2.2.2.2.1 s.2.2.2.2.2.2.2.2) n1069 (l799, l802, i805, l806, l807, l808, l809, i810, i811) out2 ∧ l799.length ≤ c801 ∧ l802.length ≤ c804) (fun ⟨n1069, l799, l802, i805, l806, l807, l808, l809, i810, i811, A800, c801, A803, c804⟩ => n1069) (n1069', x3.fitems, x3.fconns, 0, (List.replicate 10 0), (List.replicate 10 false), (List.replicate 10 (⟨#[]⟩ : ByteArray)), (List.replicate 10 (⟨#[]⟩ : ByteArray)), x3.flast, x3.fopens, A5, c6, A8, c9) ⟨hl2, hc6, hc9⟩ ⟨rfl, rfl, rfl, rfl, rfl, rfl, rfl, rfl, trivial⟩ (fun W h => h.phi (fun W hφ => hφ)) (fun ⟨n1069, l799, l802, i805, l806, l807, l808, l809, i810, i811, A800, c801, A803, c804⟩ u ⟨hlp, hc801, hc804⟩ => ?_)
  obtain ⟨o2, hm, hnx2⟩ := lp_step hlp
  clear hlp
  replace hm : m_law08_NetStreams_s2 p0 l799 l802 i805 l806 l807 l808 l809 i810 i811 = some o2 := hm
  unfold m_law08_NetStreams_s2 at hm
  refine c_flat [(0, .slice Ap0_0 p0.length cp0_0), (3, .bool x1), (4, .pointer (some ⟨g11, 0, none⟩)), (5, .pointer (some ⟨g12, 0, none⟩)), (6, .pointer (some ⟨g13, 0, none⟩)), (7, .pointer (some ⟨g14, 0, none⟩)), (8, .pointer (some ⟨g15, 0, none⟩)), (9, .int .i64 i805)] ⟨rfl, rfl, rfl, rfl, rfl, rfl, rfl, rfl, trivial⟩ (fun u => ?_)
  refine c_sta ⟨w0, M, (100080, g15, .cells (l806.map (fun x : Int => Value.int .i64 x)).toArray 31 (0, 0)) :: (100070, g14, .cells (l807.map (fun x : Bool => Value.bool x)).toArray 29 (0, 0)) :: (100060, g13, .cells (l808.map (fun x : ByteArray => Value.string x)).toArray 27 (0, 0)) :: (100050, g12, .cells (l809.map (fun x : ByteArray => Value.string x)).toArray 27 (0, 0)) :: (100225, g11, .cells #[.slice A800 l799.length c801, .slice A803 l802.length c804, .int .i64 i810, .int .i64 i811] 61 (0, 0)) :: H, (100220, ⟨.slice A800 l799.length c801, 40, 6, l799.length, l799.flatMap GItem.enc⟩) :: (100221, ⟨.slice A803 l802.length c804, 63, 3, l802.length, l802.flatMap Gnet_conn.enc⟩) :: R, φ⟩ (fun _ h => h) <| c_seq <| c_seq <| c_region <| g_v rfl r_move <| g_v rfl r_move <| g_v rfl (r_lenL Try.underlying22 rfl) <| g_v rfl (r_lss rfl rfl) <| g_v rfl r_move ?_
  refine g_if rfl rfl rfl rfl rfl (fun h1070 => ?_) (fun h1070 => ?_)
  ·
   replace hm := ite_t hm (of_decide_eq_true h1070)
   refine g_v rfl r_move <| g_do rfl rfl rfl rfl rfl h1070 <| g_v rfl (r_lss rfl rfl) <| g_v rfl (r_pick1 rfl h1070) <| g_nil <| d_then ?_
   refine c_cond rfl (fun h1071 => ?_) (fun h1071 => ?_)
   ·
    replace hm := ite_t hm (of_decide_eq_true h1071)
    refine c_skip <| d_then <| c_seq <| c_block <| c_seq <| c_region <| g_v rfl r_move <| g_v rfl r_move ?_
    replace hm := bnd hm
    obtain ⟨x1072, hx1072, hm⟩ := hm
    refine g_know _ (fun W hS => cl_at (p := (Sta.mk w0 M H R φ).ok) (sz := 5) (fun _ => rfl) (by decide) (ok_pre (H1 := [_, _, _, _, _]) (R1 := [_, _]) hS (fun W h => h)) fp0_0 hx1072) ?_
    rintro ⟨ad1073, hA1075, f1074⟩
    refine g_v rfl (r_ix Try.underlying22 Try.sizeOf33 rfl hA1075 rfl hx1072) <| g_v rfl (r_ldA rfl Try.isAgg33 Try.sizeOf33 (fun W hS => (f1074 W (ok_pre (H1 := [_, _, _, _, _]) (R1 := [_, _]) hS (fun W h => h))).take 5) rfl) ?_
    refine g_e rfl (e_alloc 100100 Try.zeroValue33) (fun g1076 _ => ?_)
    refine g_storeL (tag := 100100) rfl rfl rfl rfl Try.sizeOf33 rfl rfl <| g_nil <| d_then ?_
    refine c_flat [(0, .slice Ap0_0 p0.length cp0_0), (3, .bool x1), (4, .pointer (some ⟨g11, 0, none⟩)), (5, .pointer (some ⟨g12, 0, none⟩)), (6, .pointer (some ⟨g13, 0, none⟩)), (7, .pointer (some ⟨g14, 0, none⟩)), (8, .pointer (some ⟨g15, 0, none⟩)), (9, .int .i64 i805), (10, .pointer (some ⟨g1076, 0, none⟩))] ⟨rfl, rfl, rfl, rfl, rfl, rfl, rfl, rfl, rfl, trivial⟩ (fun u => ?_)
    refine c_sta ⟨w0, M, (100100, g1076, .cells #[.int .i64 x1072.fKind, .int .i64 x1072.fA, .int .i64 x1072.fB, .int .i64 x1072.fN, .string x1072.fBody] 33 (0, 0)) :: (100080, g15, .cells (l806.map (fun x : Int => Value.int .i64 x)).toArray 31 (0, 0)) :: (100070, g14, .cells (l807.map (fun x : Bool => Value.bool x)).toArray 29 (0, 0)) :: (100060, g13, .cells (l808.map (fun x : ByteArray => Value.string x)).toArray 27 (0, 0)) :: (100050, g12, .cells (l809.map (fun x : ByteArray => Value.string x)).toArray 27 (0, 0)) :: (100225, g11, .cells #[.slice A800 l799.length c801, .slice A803 l802.length c804, .int .i64 i810, .int .i64 i811] 61 (0, 0)) :: H, (100220, ⟨.slice A800 l799.length c801, 40, 6, l799.length, l799.flatMap GItem.enc⟩) :: (100221, ⟨.slice A803 l802.length c804, 63, 3, l802.length, l802.flatMap Gnet_conn.enc⟩) :: R, φ⟩ (fun _ h => h) <| c_seq <| c_region <| g_v rfl (r_field (n := 3) Try.underlying33 rfl Try.sizeOf3 rfl rfl) <| g_v rfl (r_load (tag := 100100) rfl rfl rfl Try.isAgg3) ?_
    replace hm := bnd hm
    obtain ⟨x1077, hx1078, hm⟩ := hm
    refine g_cn ⟨w0, M, _, _, φ⟩ (fun _ h => h) Try.call11 rfl rfl (c_ref08_Pick x1072.fN 4 _ hx1078) (fun _ _ => ?_)
    refine g_v rfl (r_add rfl rfl rfl) <| g_v rfl r_assign <| g_nil <| d_then <| c_seq <| c_region <| g_v rfl (r_field (n := 1) Try.underlying33 rfl Try.sizeOf3 rfl rfl) <| g_v rfl (r_load (tag := 100100) rfl rfl rfl Try.isAgg3) ?_
    replace hm := bnd hm
    obtain ⟨x1079, hx1080, hm⟩ := hm
    refine g_cn ⟨w0, M, _, _, φ⟩ (fun _ h => h) Try.call11 rfl rfl (c_ref08_Pick x1072.fA 2 _ hx1080) (fun _ _ => ?_)
    refine g_v rfl r_assign <| g_nil <| d_then ?_
    refine c_flat [(0, .slice Ap0_0 p0.length cp0_0), (3, .bool x1), (4, .pointer (some ⟨g11, 0, none⟩)), (5, .pointer (some ⟨g12, 0, none⟩)), (6, .pointer (some ⟨g13, 0, none⟩)), (7, .pointer (some ⟨g14, 0, none⟩)), (8, .pointer (some ⟨g15, 0, none⟩)), (9, .int .i64 i805), (10, .pointer (some ⟨g1076, 0, none⟩)), (11, .int .i64 (w64 (1 + x1077))), (12, .int .i64 x1079)] ⟨rfl, rfl, rfl, rfl, rfl, rfl, rfl, rfl, rfl, rfl, rfl, trivial⟩ (fun u => ?_)
    refine c_seq <| c_region <| g_v rfl (r_field (n := 0) Try.underlying33 rfl Try.sizeOf3 rfl rfl) <| g_v rfl (r_load (tag := 100100) rfl rfl rfl Try.isAgg3) ?_
    replace hm := bnd hm
    obtain ⟨x1081, hx1082, hm⟩ := hm
    refine g_cn ⟨w0, M, _, _, φ⟩ (fun _ h => h) Try.call11 rfl rfl (c_ref08_Pick x1072.fKind 8 _ hx1082) (fun _ _ => ?_)
    refine g_nil <| d_then <| c_block <| c_seq <| c_region <| g_v rfl (r_eql rfl rfl) <| g_v rfl r_assign <| g_nil <| d_then ?_
    refine c_cond rfl (fun h1083 => ?_) (fun h1083 => ?_)
    ·
     replace hm := ite_t hm (of_decide_eq_true h1083)
     refine c_seq <| c_region <| g_v rfl (r_field (n := 1) Try.underlying33 rfl Try.sizeOf3 rfl rfl) <| g_v rfl (r_load (tag := 100100) rfl rfl rfl Try.isAgg3) ?_
     replace hm := bnd hm
     obtain ⟨x1084, hx1085, hm⟩ := hm
     refine g_cn ⟨w0, M, _, _, φ⟩ (fun _ h => h) Try.call11 rfl rfl (c_ref08_Pick x1072.fA 4 _ hx1085) (fun _ _ => ?_)
     refine g_v rfl r_assign <| g_nil <| d_then ?_
     refine c_flat [(0, .slice Ap0_0 p0.length cp0_0), (3, .bool x1), (4, .pointer (some ⟨g11, 0, none⟩)), (5, .pointer (some ⟨g12, 0, none⟩)), (6, .pointer (some ⟨g13, 0, none⟩)), (7, .pointer (some ⟨g14, 0, none⟩)), (8, .pointer (some ⟨g15, 0, none⟩)), (9, .int .i64 i805), (10, .pointer (some ⟨g1076, 0, none⟩)), (13, .int .i64 x1084)] ⟨rfl, rfl, rfl, rfl, rfl, rfl, rfl, rfl, rfl, rfl, trivial⟩ (fun u => ?_)
     refine c_seq <| c_region <| g_v rfl (r_field (n := 2) Try.underlying33 rfl Try.sizeOf3 rfl rfl) <| g_v rfl (r_load (tag := 100100) rfl rfl rfl Try.isAgg3) ?_
     replace hm := bnd hm
     obtain ⟨x1086, hx1087, hm⟩ := hm
     refine g_cn ⟨w0, M, _, _, φ⟩ (fun _ h => h) Try.call11 rfl rfl (c_ref08_Pick x1072.fB 4 _ hx1087) (fun _ _ => ?_)
     refine g_v rfl r_assign <| g_nil <| d_then <| c_seq <| c_seq <| c_region <| g_v rfl (r_aix Try.underlying31 Try.sizeOf30 rfl rfl (show aix 5 4 = some 4 from rfl) rfl) ?_
     replace hm := bnd hm
     obtain ⟨x1088, hx1088, hm⟩ := hm
     replace hm := bnd hm
     obtain ⟨x1089, hx1089, hm⟩ := hm
     refine g_v rfl (r_ldL2 (tag := 100080) (f := (fun x : Int => Value.int .i64 x)) rfl rfl Try.isAgg30 Try.sizeOf30 hx1088 hx1089) <| g_v rfl (r_build _ rfl (bld30_16)) <| g_v rfl (r_neqA rfl rfl eqg30 (eqq30 (⟨x1088, x1089⟩ : Garray30) (⟨0, 0⟩ : Garray30))) <| g_nil <| d_then ?_
     refine c_cond rfl (fun h1090 => ?_) (fun h1090 => ?_)
     ·
      have h1090' : (decide ((⟨x1088, x1089⟩ : Garray30) = (⟨0, 0⟩ : Garray30))) = false := by revert h1090; cases (decide ((⟨x1088, x1089⟩ : Garray30) = (⟨0, 0⟩ : Garray30))) <;> simp
      replace hm := ite_f hm (of_decide_eq_false h1090')
      refine c_exit <| d_exit_then <| d_exit_other rfl <| d_exit_block <| d_then <| c_region <| g_v rfl r_move <| g_v rfl (r_add rfl rfl rfl) <| g_v rfl r_assign <| g_nil ?_
      obtain ⟨n1091, hn1091, hlp⟩ := nx_inl hm hnx2
      exact d_round (n1091, l799, l802, w64 (i805 + 1), l806, l807, l808, l809, i810, i811, A800, c801, A803, c804) ⟨hlp, hc801, hc804⟩ hn1091 ⟨rfl, rfl, rfl, rfl, rfl, rfl, rfl, rfl, trivial⟩ (fun W h => (h.dropH (t := 100100) rfl).phi (fun W hφ => hφ))
     ·
      have h1090' : (decide ((⟨x1088, x1089⟩ : Garray30) = (⟨0, 0⟩ : Garray30))) = true := by revert h1090; cases (decide ((⟨x1088, x1089⟩ : Garray30) = (⟨0, 0⟩ : Garray30))) <;> simp
      replace hm := ite_t hm (of_decide_eq_true h1090')
      refine c_skip <| d_then <| c_seq <| c_region <| g_v rfl r_move <| g_v rfl r_move <| g_v rfl r_move ?_
      replace hm := bnd hm
      obtain ⟨⟨x1092, x1093, x1094⟩, hx1095, hm⟩ := hm
      refine g_cn ⟨w0, M, (1000, g11, .cells #[.slice A800 l799.length c801, .slice A803 l802.length c804, .int .i64 i810, .int .i64 i811] 61 (0, 0)) :: (100100, g1076, .cells #[.int .i64 x1072.fKind, .int .i64 x1072.fA, .int .i64 x1072.fB, .int .i64 x1072.fN, .string x1072.fBody] 33 (0, 0)) :: (100080, g15, .cells (l806.map (fun x : Int => Value.int .i64 x)).toArray 31 (0, 0)) :: (100070, g14, .cells (l807.map (fun x : Bool => Value.bool x)).toArray 29 (0, 0)) :: (100060, g13, .cells (l808.map (fun x : ByteArray => Value.string x)).toArray 27 (0, 0)) :: (100050, g12, .cells (l809.map (fun x : ByteArray => Value.string x)).toArray 27 (0, 0)) :: H, (1000, ⟨.slice A800 l799.length c801, 40, 6, l799.length, l799.flatMap GItem.enc⟩) :: (1001, ⟨.slice A803 l802.length c804, 63, 3, l802.length, l802.flatMap Gnet_conn.enc⟩) :: R, φ⟩ (fun W h => (ok_front (t := 100225) (t' := 1000) (ok_frontR (t := 100220) (t' := 1000) (ok_frontR (t := 100221) (t' := 1001) h rfl) rfl) rfl)) Try.call12 rfl rfl (c_net_Net_Open x1084 x1086 g11 (⟨l799, l802, i810, i811⟩ : Gnet_Net) A800 c801 hc801 A803 c804 hc804 _ hx1095) (fun ⟨A1096, c1097, A1099, c1100⟩ ⟨hc1097, hc1100⟩ => ?_)
      refine g_sta _ (fun W h => (ok_frontR (t := 2000) (t' := 100220) (ok_frontR (t := 2001) (t' := 100221) (ok_front (t := 1000) (t' := 100225) h rfl) rfl) rfl)) <| g_v rfl r_move <| g_v rfl (r_extract rfl rfl) <| g_v rfl (r_extract rfl rfl) <| g_v rfl r_assign <| g_v rfl r_assign <| g_nil <| d_then ?_
      refine c_flat [(0, .slice Ap0_0 p0.length cp0_0), (3, .bool x1), (4, .pointer (some ⟨g11, 0, none⟩)), (5, .pointer (some ⟨g12, 0, none⟩)), (6, .pointer (some ⟨g13, 0, none⟩)), (7, .pointer (some ⟨g14, 0, none⟩)), (8, .pointer (some ⟨g15, 0, none⟩)), (9, .int .i64 i805), (13, .int .i64 x1084), (14, .int .i64 x1086), (15, .int .i64 x1092), (16, .bool x1093)] ⟨rfl, rfl, rfl, rfl, rfl, rfl, rfl, rfl, rfl, rfl, rfl, rfl, trivial⟩ (fun u => ?_)
      refine c_sta ⟨w0, M, (100225, g11, .cells #[.slice A1096 x1094.fitems.length c1097, .slice A1099 x1094.fconns.length c1100, .int .i64 x1094.flast, .int .i64 x1094.fopens] 61 (0, 0)) :: (100100, g1076, .cells #[.int .i64 x1072.fKind, .int .i64 x1072.fA, .int .i64 x1072.fB, .int .i64 x1072.fN, .string x1072.fBody] 33 (0, 0)) :: (100080, g15, .cells (l806.map (fun x : Int => Value.int .i64 x)).toArray 31 (0, 0)) :: (100070, g14, .cells (l807.map (fun x : Bool => Value.bool x)).toArray 29 (0, 0)) :: (100060, g13, .cells (l808.map (fun x : ByteArray => Value.string x)).toArray 27 (0, 0)) :: (100050, g12, .cells (l809.map (fun x : ByteArray => Value.string x)).toArray 27 (0, 0)) :: H, (100220, ⟨.slice A1096 x1094.fitems.length c1097, 40, 6, x1094.fitems.length, x1094.fitems.flatMap GItem.enc⟩) :: (100221, ⟨.slice A1099 x1094.fconns.length c1100, 63, 3, x1094.fconns.length, x1094.fconns.flatMap Gnet_conn.enc⟩) :: R, φ⟩ (fun _ h => h) <| c_seq ?_
      refine c_cut (ι := Unit) [0, 3, 4, 5, 6, 7, 8, 9, 13, 14, 15, 16] (fun _ => []) (fun _ => ⟨w0, M, (100225, g11, .cells #[.slice A1096 x1094.fitems.length c1097, .slice A1099 x1094.fconns.length c1100, .int .i64 x1094.flast, .int .i64 x1094.fopens] 61 (0, 0)) :: (100080, g15, .cells (l806.map (fun x : Int => Value.int .i64 x)).toArray 31 (0, 0)) :: (100070, g14, .cells (l807.map (fun x : Bool => Value.bool x)).toArray 29 (0, 0)) :: (100060, g13, .cells (l808.map (fun x : ByteArray => Value.string x)).toArray 27 (0, 0)) :: (100050, g12, .cells (l809.map (fun x : ByteArray => Value.string x)).toArray 27 (0, 0)) :: H, (100220, ⟨.slice A1096 x1094.fitems.length c1097, 40, 6, x1094.fitems.length, x1094.fitems.flatMap GItem.enc⟩) :: (100221, ⟨.slice A1099 x1094.fconns.length c1100, 63, 3, x1094.fconns.length, x1094.fconns.flatMap Gnet_conn.enc⟩) :: R, φ⟩) (fun _ => m_law08_NetStreams_j3 x1093 x1092 l806 x1084 x1086 x1094 i805 l807 l808 l809 = some o2) ?_ (fun _ u hm => ?_)
      ·
       refine c_seq <| c_region <| g_v rfl r_move <| g_v rfl r_move ?_
       refine g_if rfl rfl rfl rfl rfl (fun h1112 => ?_) (fun h1112 => ?_)
       ·
        replace hm := ite_t hm h1112
        refine g_v rfl r_move <| g_do rfl rfl rfl rfl rfl h1112 <| g_v rfl (r_lss rfl rfl) <| g_do rfl rfl rfl rfl rfl h1112 <| g_v rfl r_move ?_
        refine g_if rfl rfl rfl rfl rfl (fun h1113 => ?_) (fun h1113 => ?_)
        ·
         replace hm := ite_f hm (of_decide_eq_false h1113)
         refine g_v rfl r_move <| g_do rfl rfl rfl rfl rfl h1113 <| g_v rfl (r_gtr rfl rfl) <| g_do rfl rfl rfl rfl rfl h1112 <| g_v rfl (r_pick0 rfl h1113) <| g_v rfl (r_pick1 rfl h1112) <| g_nil <| d_then ?_
         refine c_flat [(0, .slice Ap0_0 p0.length cp0_0), (3, .bool x1), (4, .pointer (some ⟨g11, 0, none⟩)), (5, .pointer (some ⟨g12, 0, none⟩)), (6, .pointer (some ⟨g13, 0, none⟩)), (7, .pointer (some ⟨g14, 0, none⟩)), (8, .pointer (some ⟨g15, 0, none⟩)), (9, .int .i64 i805), (13, .int .i64 x1084), (14, .int .i64 x1086), (15, .int .i64 x1092), (16, .bool x1093), (179, .bool (decide (4 < x1092)))] ⟨rfl, rfl, rfl, rfl, rfl, rfl, rfl, rfl, rfl, rfl, rfl, rfl, rfl, trivial⟩ (fun u => ?_)
         refine c_cond rfl (fun h1114 => ?_) (fun h1114 => ?_)
         ·
          replace hm := ite_t hm (of_decide_eq_true h1114)
          refine c_seq <| c_region <| g_v rfl r_assign <| g_nil <| d_then <| c_ret <| d_ret_then <| d_ret_then <| d_ret_block <| d_ret_block ?_
          refine d_ret_then <| d_ret_then <| d_ret_block <| d_ret_then <| d_ret_then ?_
          replace hm := nx_out (C := (fun e : Unit ⊕ Bool => Sum.elim (fun e => m_law08_NetStreams_j1 x1) (fun x => some x) e = some r)) hm hnx2 hr2
          replace hm : some false = some r := hm
          replace hm := Option.some.inj hm
          subst hm
          refine d_retC () Try.results3 ?_ trivial (fun W h => ok_pre (H1 := [_, _, _, _, _, _]) (R1 := [_, _]) h (fun W hφ => hφ)) (.inr rfl)
          refine res_tmp <| res_nil ?_
          exact rfl
         ·
          replace hm := ite_f hm (of_decide_eq_false h1114)
          refine c_skip ?_
          exact d_round () hm Nat.zero_lt_one ⟨rfl, rfl, rfl, rfl, rfl, rfl, rfl, rfl, rfl, rfl, rfl, rfl, trivial⟩ (fun W h => (h.dropH (t := 100100) rfl).phi (fun W hφ => hφ))
        ·
         replace hm := ite_t hm (of_decide_eq_true h1113)
         refine g_no rfl rfl rfl rfl rfl h1113 <| g_do rfl rfl rfl rfl rfl h1112 <| g_v rfl (r_pick1 rfl h1113) <| g_v rfl (r_pick1 rfl h1112) <| g_nil <| d_then <| c_cond1 rfl rfl <| c_seq <| c_region <| g_v rfl r_assign ?_
         refine g_nil <| d_then <| c_ret <| d_ret_then <| d_ret_then <| d_ret_block <| d_ret_block <| d_ret_then <| d_ret_then <| d_ret_block ?_
         refine d_ret_then <| d_ret_then ?_
         replace hm := nx_out (C := (fun e : Unit ⊕ Bool => Sum.elim (fun e => m_law08_NetStreams_j1 x1) (fun x => some x) e = some r)) hm hnx2 hr2
         replace hm : some false = some r := hm
         replace hm := Option.some.inj hm
         subst hm
         refine d_retC () Try.results3 ?_ trivial (fun W h => ok_pre (H1 := [_, _, _, _, _, _]) (R1 := [_, _]) h (fun W hφ => hφ)) (.inr rfl)
         refine res_tmp <| res_nil ?_
         exact rfl
       ·
        replace hm := ite_f hm (bool_nt h1112)
        refine g_no rfl rfl rfl rfl rfl h1112 <| g_no rfl rfl rfl rfl rfl h1112 <| g_nu rfl rfl rfl rfl rfl <| g_nu rfl rfl rfl rfl rfl <| g_no rfl rfl rfl rfl rfl h1112 <| g_v rfl (r_pick0 rfl h1112) <| g_nil <| d_then <| c_cond0 rfl rfl <| c_skip ?_
        exact d_round () hm Nat.zero_lt_one ⟨rfl, rfl, rfl, rfl, rfl, rfl, rfl, rfl, rfl, rfl, rfl, rfl, trivial⟩ (fun W h => (h.dropH (t := 100100) rfl).phi (fun W hφ => hφ))
      ·
       unfold m_law08_NetStreams_j3 at hm
       refine d_flat [(0, .slice Ap0_0 p0.length cp0_0), (3, .bool x1), (4, .pointer (some ⟨g11, 0, none⟩)), (5, .pointer (some ⟨g12, 0, none⟩)), (6, .pointer (some ⟨g13, 0, none⟩)), (7, .pointer (some ⟨g14, 0, none⟩)), (8, .pointer (some ⟨g15, 0, none⟩)), (9, .int .i64 i805), (13, .int .i64 x1084), (14, .int .i64 x1086), (15, .int .i64 x1092), (16, .bool x1093)] ⟨rfl, rfl, rfl, rfl, rfl, rfl, rfl, rfl, rfl, rfl, rfl, rfl, trivial⟩ (fun u => ?_)
       refine d_sta ⟨w0, M, (100225, g11, .cells #[.slice A1096 x1094.fitems.length c1097, .slice A1099 x1094.fconns.length c1100, .int .i64 x1094.flast, .int .i64 x1094.fopens] 61 (0, 0)) :: (100080, g15, .cells (l806.map (fun x : Int => Value.int .i64 x)).toArray 31 (0, 0)) :: (100070, g14, .cells (l807.map (fun x : Bool => Value.bool x)).toArray 29 (0, 0)) :: (100060, g13, .cells (l808.map (fun x : ByteArray => Value.string x)).toArray 27 (0, 0)) :: (100050, g12, .cells (l809.map (fun x : ByteArray => Value.string x)).toArray 27 (0, 0)) :: H, (100220, ⟨.slice A1096 x1094.fitems.length c1097, 40, 6, x1094.fitems.length, x1094.fitems.flatMap GItem.enc⟩) :: (100221, ⟨.slice A1099 x1094.fconns.length c1100, 63, 3, x1094.fconns.length, x1094.fconns.flatMap Gnet_conn.enc⟩) :: R, φ⟩ (fun _ h => h) <| d_then <| c_seq <| c_region <| g_v rfl r_move <| g_nil <| d_then ?_
       refine c_cond rfl (fun h1106 => ?_) (fun h1106 => ?_)
       ·
        replace hm := ite_t hm h1106
        refine c_region <| g_v rfl r_move <| g_v rfl r_move <| g_v rfl r_move <| g_v rfl (r_build _ rfl (bld30_10 _ _)) ?_
        replace hm := bnd hm
        obtain ⟨a1107, ha1107, hm⟩ := hm
        refine g_v rfl (r_aix Try.underlying31 Try.sizeOf30 rfl rfl ha1107 rfl) ?_
        replace hm := bnd hm
        obtain ⟨l1108, hl1108, hm⟩ := hm
        replace hm := bnd hm
        obtain ⟨l1109, hl1109, hm⟩ := hm
        refine g_s (e_stL2 (tag := 100080) (f := (fun x : Int => Value.int .i64 x)) (v := x1084) (u := x1086) rfl rfl rfl rfl rfl Try.sizeOf30 rfl hl1108 hl1109) <| g_nil <| d_normal_block <| d_normal_block <| d_then <| c_region <| g_v rfl r_move <| g_v rfl (r_add rfl rfl rfl) <| g_v rfl r_assign <| g_nil ?_
        obtain ⟨n1110, hn1110, hlp⟩ := nx_inl hm hnx2
        exact d_round (n1110, x1094.fitems, x1094.fconns, w64 (i805 + 1), l1109, l807, l808, l809, x1094.flast, x1094.fopens, A1096, c1097, A1099, c1100) ⟨hlp, hc1097, hc1100⟩ hn1110 ⟨rfl, rfl, rfl, rfl, rfl, rfl, rfl, rfl, trivial⟩ (fun W h => (ok_front (t := 100080) (t' := 100080) (ok_front (t := 100070) (t' := 100070) (ok_front (t := 100060) (t' := 100060) (ok_front (t := 100050) (t' := 100050) (ok_front (t := 100225) (t' := 100225) h rfl) rfl) rfl) rfl) rfl).phi (fun W hφ => hφ))
       ·
        replace hm := ite_f hm (bool_nt h1106)
        refine c_skip <| d_normal_block <| d_normal_block <| d_then <| c_region <| g_v rfl r_move <| g_v rfl (r_add rfl rfl rfl) <| g_v rfl r_assign <| g_nil ?_
        obtain ⟨n1111, hn1111, hlp⟩ := nx_inl hm hnx2
        exact d_round (n1111, x1094.fitems, x1094.fconns, w64 (i805 + 1), l806, l807, l808, l809, x1094.flast, x1094.fopens, A1096, c1097, A1099, c1100) ⟨hlp, hc1097, hc1100⟩ hn1111 ⟨rfl, rfl, rfl, rfl, rfl, rfl, rfl, rfl, trivial⟩ (fun W h => (ok_front (t := 100080) (t' := 100080) (ok_front (t := 100070) (t' := 100070) (ok_front (t := 100060) (t' := 100060) (ok_front (t := 100050) (t' := 100050) (ok_front (t := 100225) (t' := 100225) h rfl) rfl) rfl) rfl) rfl).phi (fun W hφ => hφ))
    ·
     replace hm := ite_f hm (of_decide_eq_false h1083)
     refine c_seq ?_
     refine c_cut (ι := Int × Bool) [0, 3, 4, 5, 6, 7, 8, 9, 10, 11, 12, 48, 186] (fun ⟨i1117, b1118⟩ => [(11, .int .i64 i1117), (186, .bool b1118)]) (fun ⟨i1117, b1118⟩ => ⟨w0, M, (100100, g1076, .cells #[.int .i64 x1072.fKind, .int .i64 x1072.fA, .int .i64 x1072.fB, .int .i64 x1072.fN, .string x1072.fBody] 33 (0, 0)) :: (100080, g15, .cells (l806.map (fun x : Int => Value.int .i64 x)).toArray 31 (0, 0)) :: (100070, g14, .cells (l807.map (fun x : Bool => Value.bool x)).toArray 29 (0, 0)) :: (100060, g13, .cells (l808.map (fun x : ByteArray => Value.string x)).toArray 27 (0, 0)) :: (100050, g12, .cells (l809.map (fun x : ByteArray => Value.string x)).toArray 27 (0, 0)) :: (100225, g11, .cells #[.slice A800 l799.length c801, .slice A803 l802.length c804, .int .i64 i810, .int .i64 i811] 61 (0, 0)) :: H, (100220, ⟨.slice A800 l799.length c801, 40, 6, l799.length, l799.flatMap GItem.enc⟩) :: (100221, ⟨.slice A803 l802.length c804, 63, 3, l802.length, l802.flatMap Gnet_conn.enc⟩) :: R, φ⟩) (fun ⟨i1117, b1118⟩ => m_law08_NetStreams_j4 x1079 l806 x1072 l799 l802 i810 i811 i805 l807 l808 l809 x1081 i1117 b1118 = some o2) ?_ (fun ⟨i1117, b1118⟩ u hm => ?_)
     ·
      refine c_seq <| c_region <| g_v rfl (r_eql rfl rfl) <| g_v rfl r_assign <| g_nil <| d_then ?_
      refine c_cond rfl (fun h1335 => ?_) (fun h1335 => ?_)
      ·
       replace hm := ite_t hm (of_decide_eq_true h1335)
       refine c_skip ?_
       exact d_round (w64 (1 + x1077), decide (x1081 = 1)) hm Nat.zero_lt_one ⟨rfl, rfl, rfl, rfl, rfl, rfl, rfl, rfl, rfl, rfl, rfl, rfl, rfl, trivial⟩ (fun W h => h.phi (fun W hφ => hφ))
      ·
       replace hm := ite_f hm (of_decide_eq_false h1335)
       refine c_seq <| c_region <| g_v rfl (r_eql rfl rfl) <| g_v rfl r_assign <| g_nil <| d_then ?_
       refine c_flat [(0, .slice Ap0_0 p0.length cp0_0), (3, .bool x1), (4, .pointer (some ⟨g11, 0, none⟩)), (5, .pointer (some ⟨g12, 0, none⟩)), (6, .pointer (some ⟨g13, 0, none⟩)), (7, .pointer (some ⟨g14, 0, none⟩)), (8, .pointer (some ⟨g15, 0, none⟩)), (9, .int .i64 i805), (10, .pointer (some ⟨g1076, 0, none⟩)), (11, .int .i64 (w64 (1 + x1077))), (12, .int .i64 x1079), (48, .int .i64 x1081), (186, .bool (decide (x1081 = 2)))] ⟨rfl, rfl, rfl, rfl, rfl, rfl, rfl, rfl, rfl, rfl, rfl, rfl, rfl, trivial⟩ (fun u => ?_)
       refine c_cond rfl (fun h1336 => ?_) (fun h1336 => ?_)
       ·
        replace hm := ite_t hm (of_decide_eq_true h1336)
        refine c_skip ?_
        exact d_round (w64 (1 + x1077), decide (x1081 = 2)) hm Nat.zero_lt_one ⟨rfl, rfl, rfl, rfl, rfl, rfl, rfl, rfl, rfl, rfl, rfl, rfl, rfl, trivial⟩ (fun W h => h.phi (fun W hφ => hφ))
       ·
        replace hm := ite_f hm (of_decide_eq_false h1336)
        refine c_region <| g_v rfl (r_eql rfl rfl) <| g_v rfl r_assign <| g_nil ?_
        exact d_round (w64 (1 + x1077), decide (x1081 = 3)) hm Nat.zero_lt_one ⟨rfl, rfl, rfl, rfl, rfl, rfl, rfl, rfl, rfl, rfl, rfl, rfl, rfl, trivial⟩ (fun W h => h.phi (fun W hφ => hφ))
     ·
      unfold m_law08_NetStreams_j4 at hm
      refine d_flat [(0, .slice Ap0_0 p0.length cp0_0), (3, .bool x1), (4, .pointer (some ⟨g11, 0, none⟩)), (5, .pointer (some ⟨g12, 0, none⟩)), (6, .pointer (some ⟨g13, 0, none⟩)), (7, .pointer (some ⟨g14, 0, none⟩)), (8, .pointer (some ⟨g15, 0, none⟩)), (9, .int .i64 i805), (10, .pointer (some ⟨g1076, 0, none⟩)), (11, .int .i64 i1117), (12, .int .i64 x1079), (48, .int .i64 x1081), (186, .bool b1118)] ⟨rfl, rfl, rfl, rfl, rfl, rfl, rfl, rfl, rfl, rfl, rfl, rfl, rfl, trivial⟩ (fun u => ?_)
      refine d_then ?_
      refine c_cond rfl (fun h1119 => ?_) (fun h1119 => ?_)
      ·
       replace hm := ite_t hm h1119
       refine c_seq <| ga_start (n := 17) ⟨w0, M, (100100, g1076, .cells #[.int .i64 x1072.fKind, .int .i64 x1072.fA, .int .i64 x1072.fB, .int .i64 x1072.fN, .string x1072.fBody] 33 (0, 0)) :: (100080, g15, .cells (l806.map (fun x : Int => Value.int .i64 x)).toArray 31 (0, 0)) :: (100070, g14, .cells (l807.map (fun x : Bool => Value.bool x)).toArray 29 (0, 0)) :: (100060, g13, .cells (l808.map (fun x : ByteArray => Value.string x)).toArray 27 (0, 0)) :: (100050, g12, .cells (l809.map (fun x : ByteArray => Value.string x)).toArray 27 (0, 0)) :: H, R, φ⟩ [] #[false, false, false, false, false, false, false, false, false, false, false, false, false, false, false, false, false] (fun W h => (((h.dropR (t := 100220) rfl).dropR (t := 100221) rfl).dropH (t := 100225) rfl).phi (fun W hφ => hφ)) mixed rfl rfl <| ga_v (i := 0) (bz 17 1) rfl (by kernel_rfl) (fun _ _ _ _ h => h) rfl (r_move) <| ga_v (i := 1) (bz 17 3) rfl (by kernel_rfl) (fun _ _ _ _ h => h) rfl (r_move) <| ga_v (i := 2) (bz 17 7) rfl (by kernel_rfl) (fun _ _ _ _ h => h) rfl (r_move) <| ga_v (i := 3) (bz 17 15) rfl (by kernel_rfl) (fun _ _ _ _ h => h) rfl (r_move) ?_
       replace hm := bnd hm
       obtain ⟨a1148, ha1148, hm⟩ := hm
       refine ga_v (i := 4) (bz 17 31) rfl (by kernel_rfl) (fun _ _ _ _ h => h) rfl (r_aix Try.underlying31 Try.sizeOf30 rfl rfl ha1148 rfl) ?_
       replace hm := bnd hm
       obtain ⟨a1149, ha1149, hm⟩ := hm
       refine ga_v (i := 5) (bz 17 63) rfl (by kernel_rfl) (fun _ _ _ _ h => h) rfl (r_aix Try.underlying30 Try.sizeOf3 rfl rfl ha1149 rfl) ?_
       replace hm := bnd hm
       obtain ⟨x1150, hx1150, hm⟩ := hm
       refine ga_v (i := 6) (bz 17 127) rfl (by kernel_rfl) (fun _ _ _ _ h => h) rfl (r_ldL (tag := 100080) (f := (fun x : Int => Value.int .i64 x)) rfl rfl Try.isAgg3 hx1150) <| ga_r (i := 7) (bz 17 255) rfl (by kernel_rfl) (by decide) rfl (r_field (n := 4) Try.underlying33 rfl Try.sizeOf9 rfl rfl) <| ga_r (i := 8) (bz 17 511) rfl (by kernel_rfl) (by decide) rfl (r_load (tag := 100100) rfl rfl rfl Try.isAgg9) ?_
       replace hm := bnd hm
       obtain ⟨⟨x1151, x1152⟩, hx1153, hm⟩ := hm
       refine ga_cn (first := #[]) (i := 9) (bz 17 1023) rfl (by kernel_rfl) (by decide)  ⟨w0, M, (1000, g11, .cells #[.slice A800 l799.length c801, .slice A803 l802.length c804, .int .i64 i810, .int .i64 i811] 61 (0, 0)) :: (100100, g1076, .cells #[.int .i64 x1072.fKind, .int .i64 x1072.fA, .int .i64 x1072.fB, .int .i64 x1072.fN, .string x1072.fBody] 33 (0, 0)) :: (100080, g15, .cells (l806.map (fun x : Int => Value.int .i64 x)).toArray 31 (0, 0)) :: (100070, g14, .cells (l807.map (fun x : Bool => Value.bool x)).toArray 29 (0, 0)) :: (100060, g13, .cells (l808.map (fun x : ByteArray => Value.string x)).toArray 27 (0, 0)) :: (100050, g12, .cells (l809.map (fun x : ByteArray => Value.string x)).toArray 27 (0, 0)) :: H, (1000, ⟨.slice A800 l799.length c801, 40, 6, l799.length, l799.flatMap GItem.enc⟩) :: (1001, ⟨.slice A803 l802.length c804, 63, 3, l802.length, l802.flatMap Gnet_conn.enc⟩) :: R, φ⟩ (fun W h => (ok_front (t := 100225) (t' := 1000) (ok_frontR (t := 100220) (t' := 1000) (ok_frontR (t := 100221) (t' := 1001) h rfl) rfl) rfl)) Try.call13 rfl rfl rfl (c_net_Net_Write i1117 x1150 x1072.fBody g11 (⟨l799, l802, i810, i811⟩ : Gnet_Net) A800 c801 hc801 A803 c804 hc804 _ hx1153) (fun ⟨A1154, c1155⟩ W hc1155 h => ((((ok_frontR (t := 2000) (t' := 100220) (ok_frontR (t := 1001) (t' := 100221) (ok_front (t := 1000) (t' := 100225) h rfl) rfl) rfl).dropR (t := 100220) rfl).dropR (t := 100221) rfl).dropH (t := 100225) rfl).phi (fun W hφ => hφ)) (fun ⟨A1154, c1155⟩ hc1155 => ?_)
       refine ga_sta _ (fun W h => (ok_frontR (t := 2000) (t' := 100220) (ok_frontR (t := 1001) (t' := 100221) (ok_front (t := 1000) (t' := 100225) h rfl) rfl) rfl)) <| ga_r (i := 10) (bz 17 2047) rfl (by kernel_rfl) (by decide) rfl (r_move) ?_
       refine ga_if (t := 200) rfl (fun h1158 => ?_) (fun h1158 => ?_)
       ·
        replace hm := ite_t hm h1158
        refine ga_do (i := 11) (bz 17 4095) rfl (by kernel_rfl) (fun _ _ _ _ h => h) rfl rfl rfl rfl rfl h1158 (r_move) ?_
        replace hm := bnd hm
        obtain ⟨a1159, ha1159, hm⟩ := hm
        refine ga_do (i := 12) (bz 17 8191) rfl (by kernel_rfl) (fun _ _ _ _ h => h) rfl rfl rfl rfl rfl h1158 (r_aix Try.underlying31 Try.sizeOf30 rfl rfl ha1159 rfl) ?_
        replace hm := bnd hm
        obtain ⟨x1160, hx1160, hm⟩ := hm
        replace hm := bnd hm
        obtain ⟨x1161, hx1161, hm⟩ := hm
        refine ga_do (i := 13) (bz 17 16383) rfl (by kernel_rfl) (fun _ _ _ _ h => h) rfl rfl rfl rfl rfl h1158 (r_ldL2 (tag := 100080) (f := (fun x : Int => Value.int .i64 x)) rfl rfl Try.isAgg30 Try.sizeOf30 hx1160 hx1161) <| ga_rG (i := 14) (bz 17 32767) rfl (by kernel_rfl) (by decide) rfl rfl rfl rfl rfl h1158 (r_build _ rfl (bld30_16)) <| ga_rG (i := 15) (bz 17 65535) rfl (by kernel_rfl) (by decide) rfl rfl rfl rfl rfl h1158 (r_neqA rfl rfl eqg30 (eqq30 (⟨x1160, x1161⟩ : Garray30) (⟨0, 0⟩ : Garray30))) <| ga_r (i := 16) (bz 17 131071) rfl (by kernel_rfl) (by decide) rfl (r_pick1 rfl h1158) <| ga_done (by kernel_rfl) <| d_then ?_
        refine c_flat [(0, .slice Ap0_0 p0.length cp0_0), (3, .bool x1), (4, .pointer (some ⟨g11, 0, none⟩)), (5, .pointer (some ⟨g12, 0, none⟩)), (6, .pointer (some ⟨g13, 0, none⟩)), (7, .pointer (some ⟨g14, 0, none⟩)), (8, .pointer (some ⟨g15, 0, none⟩)), (9, .int .i64 i805), (10, .pointer (some ⟨g1076, 0, none⟩)), (11, .int .i64 i1117), (12, .int .i64 x1079), (206, .bool (!(decide ((⟨x1160, x1161⟩ : Garray30) = (⟨0, 0⟩ : Garray30)))))] ⟨rfl, rfl, rfl, rfl, rfl, rfl, rfl, rfl, rfl, rfl, rfl, rfl, trivial⟩ (fun u => ?_)
        refine c_sta ⟨w0, M, (100225, g11, .cells #[.slice A1154 x1152.fitems.length c1155, .slice A803 l802.length c804, .int .i64 x1152.flast, .int .i64 i811] 61 (0, 0)) :: (100100, g1076, .cells #[.int .i64 x1072.fKind, .int .i64 x1072.fA, .int .i64 x1072.fB, .int .i64 x1072.fN, .string x1072.fBody] 33 (0, 0)) :: (100080, g15, .cells (l806.map (fun x : Int => Value.int .i64 x)).toArray 31 (0, 0)) :: (100070, g14, .cells (l807.map (fun x : Bool => Value.bool x)).toArray 29 (0, 0)) :: (100060, g13, .cells (l808.map (fun x : ByteArray => Value.string x)).toArray 27 (0, 0)) :: (100050, g12, .cells (l809.map (fun x : ByteArray => Value.string x)).toArray 27 (0, 0)) :: H, (100220, ⟨.slice A1154 x1152.fitems.length c1155, 40, 6, x1152.fitems.length, x1152.fitems.flatMap GItem.enc⟩) :: (100221, ⟨.slice A803 l802.length c804, 63, 3, l802.length, l802.flatMap Gnet_conn.enc⟩) :: R, φ⟩ (fun _ h => h) ?_
        refine c_cond rfl (fun h1162 => ?_) (fun h1162 => ?_)
        ·
         have h1162' : (decide ((⟨x1160, x1161⟩ : Garray30) = (⟨0, 0⟩ : Garray30))) = false := by revert h1162; cases (decide ((⟨x1160, x1161⟩ : Garray30) = (⟨0, 0⟩ : Garray30))) <;> simp
         replace hm := ite_f hm (of_decide_eq_false h1162')
         refine ga_start (n := 15) ⟨w0, M, (100225, g11, .cells #[.slice A1154 x1152.fitems.length c1155, .slice A803 l802.length c804, .int .i64 x1152.flast, .int .i64 i811] 61 (0, 0)) :: (100100, g1076, .cells #[.int .i64 x1072.fKind, .int .i64 x1072.fA, .int .i64 x1072.fB, .int .i64 x1072.fN, .string x1072.fBody] 33 (0, 0)) :: (100080, g15, .cells (l806.map (fun x : Int => Value.int .i64 x)).toArray 31 (0, 0)) :: (100070, g14, .cells (l807.map (fun x : Bool => Value.bool x)).toArray 29 (0, 0)) :: (100060, g13, .cells (l808.map (fun x : ByteArray => Value.string x)).toArray 27 (0, 0)) :: (100050, g12, .cells (l809.map (fun x : ByteArray => Value.string x)).toArray 27 (0, 0)) :: H, (100220, ⟨.slice A1154 x1152.fitems.length c1155, 40, 6, x1152.fitems.length, x1152.fitems.flatMap GItem.enc⟩) :: (100221, ⟨.slice A803 l802.length c804, 63, 3, l802.length, l802.flatMap Gnet_conn.enc⟩) :: R, φ⟩ [14] #[false, false, false, false, false, false, false, false, false, false, false, false, false, false, false] (fun W h => h.phi (fun W hφ => hφ)) mixed rfl rfl <| ga_v (i := 0) (bz 15 1) rfl (by kernel_rfl) (fun _ _ _ _ h => h) rfl (r_move) <| ga_v (i := 1) (bz 15 3) rfl (by kernel_rfl) (fun _ _ _ _ h => h) rfl (r_move) <| ga_v (i := 2) (bz 15 7) rfl (by kernel_rfl) (fun _ _ _ _ h => h) rfl (r_sub rfl rfl rfl) <| ga_v (i := 3) (bz 15 15) rfl (by kernel_rfl) (fun _ _ _ _ h => h) rfl (r_move) <| ga_v (i := 4) (bz 15 31) rfl (by kernel_rfl) (fun _ _ _ _ h => h) rfl (r_move) <| ga_v (i := 5) (bz 15 63) rfl (by kernel_rfl) (fun _ _ _ _ h => h) rfl (r_sub rfl rfl rfl) ?_
         replace hm := bnd hm
         obtain ⟨a1177, ha1177, hm⟩ := hm
         refine ga_v (i := 6) (bz 15 127) rfl (by kernel_rfl) (fun _ _ _ _ h => h) rfl (r_aix Try.underlying27 Try.sizeOf26 rfl rfl ha1177 rfl) ?_
         replace hm := bnd hm
         obtain ⟨a1178, ha1178, hm⟩ := hm
         refine ga_v (i := 7) (bz 15 255) rfl (by kernel_rfl) (fun _ _ _ _ h => h) rfl (r_aix Try.underlying26 Try.sizeOf9 rfl rfl ha1178 rfl) ?_
         replace hm := bnd hm
         obtain ⟨x1179, hx1179, hm⟩ := hm
         refine ga_v (i := 8) (bz 15 511) rfl (by kernel_rfl) (fun _ _ _ _ h => h) rfl (r_ldL (tag := 100050) (f := (fun x : ByteArray => Value.string x)) rfl rfl Try.isAgg9 hx1179) <| ga_v (i := 9) (bz 15 1023) rfl (by kernel_rfl) (fun _ _ _ _ h => h) rfl (r_field (n := 4) Try.underlying33 rfl Try.sizeOf9 rfl rfl) <| ga_v (i := 10) (bz 15 2047) rfl (by kernel_rfl) (fun _ _ _ _ h => h) rfl (r_load (tag := 100100) rfl rfl rfl Try.isAgg9) ?_
         replace hm := bnd hm
         obtain ⟨s1180, hs1180, hm⟩ := hm
         refine ga_v (i := 11) (bz 15 4095) rfl (by kernel_rfl) (fun _ _ _ _ h => h) rfl (r_addT rfl rfl hs1180) ?_
         replace hm := bnd hm
         obtain ⟨a1181, ha1181, hm⟩ := hm
         refine ga_r (i := 12) (bz 15 8191) rfl (by kernel_rfl) (by decide) rfl (r_aix Try.underlying27 Try.sizeOf26 rfl rfl ha1181 rfl) ?_
         replace hm := bnd hm
         obtain ⟨a1182, ha1182, hm⟩ := hm
         refine ga_r (i := 13) (bz 15 16383) rfl (by kernel_rfl) (by decide) rfl (r_aix Try.underlying26 Try.sizeOf9 rfl rfl ha1182 rfl) ?_
         replace hm := bnd hm
         obtain ⟨l1183, hl1183, hm⟩ := hm
         refine ga_sL (i := 14) (bz 15 32767) rfl (by kernel_rfl) (by decide) (e_stL (tag := 100050) (f := (fun x : ByteArray => Value.string x)) (v := s1180) rfl rfl rfl rfl rfl Try.sizeOf9 rfl hl1183) <| gz_done (by kernel_rfl) <| d_normal_block <| d_normal_block <| d_then ?_
         refine c_flat [(0, .slice Ap0_0 p0.length cp0_0), (3, .bool x1), (4, .pointer (some ⟨g11, 0, none⟩)), (5, .pointer (some ⟨g12, 0, none⟩)), (6, .pointer (some ⟨g13, 0, none⟩)), (7, .pointer (some ⟨g14, 0, none⟩)), (8, .pointer (some ⟨g15, 0, none⟩)), (9, .int .i64 i805)] ⟨rfl, rfl, rfl, rfl, rfl, rfl, rfl, rfl, trivial⟩ (fun u => ?_)
         refine c_sta ⟨w0, M, (100225, g11, .cells #[.slice A1154 x1152.fitems.length c1155, .slice A803 l802.length c804, .int .i64 x1152.flast, .int .i64 i811] 61 (0, 0)) :: (100100, g1076, .cells #[.int .i64 x1072.fKind, .int .i64 x1072.fA, .int .i64 x1072.fB, .int .i64 x1072.fN, .string x1072.fBody] 33 (0, 0)) :: (100080, g15, .cells (l806.map (fun x : Int => Value.int .i64 x)).toArray 31 (0, 0)) :: (100070, g14, .cells (l807.map (fun x : Bool => Value.bool x)).toArray 29 (0, 0)) :: (100060, g13, .cells (l808.map (fun x : ByteArray => Value.string x)).toArray 27 (0, 0)) :: (100050, g12, .cells (l1183.map (fun x : ByteArray => Value.string x)).toArray 27 (0, 0)) :: H, (100220, ⟨.slice A1154 x1152.fitems.length c1155, 40, 6, x1152.fitems.length, x1152.fitems.flatMap GItem.enc⟩) :: (100221, ⟨.slice A803 l802.length c804, 63, 3, l802.length, l802.flatMap Gnet_conn.enc⟩) :: R, φ⟩ (fun _ h => h) <| c_region <| g_v rfl r_move <| g_v rfl (r_add rfl rfl rfl) <| g_v rfl r_assign <| g_nil ?_
         obtain ⟨n1184, hn1184, hlp⟩ := nx_inl hm hnx2
         exact d_round (n1184, x1152.fitems, l802, w64 (i805 + 1), l806, l807, l808, l1183, x1152.flast, i811, A1154, c1155, A803, c804) ⟨hlp, hc1155, hc804⟩ hn1184 ⟨rfl, rfl, rfl, rfl, rfl, rfl, rfl, rfl, trivial⟩ (fun W h => (ok_front (t := 100080) (t' := 100080) (ok_front (t := 100070) (t' := 100070) (ok_front (t := 100060) (t' := 100060) (ok_front (t := 100050) (t' := 100050) (ok_front (t := 100225) (t' := 100225) (h.dropH (t := 100100) rfl) rfl) rfl) rfl) rfl) rfl).phi (fun W hφ => hφ))
        ·
         have h1162' : (decide ((⟨x1160, x1161⟩ : Garray30) = (⟨0, 0⟩ : Garray30))) = true := by revert h1162; cases (decide ((⟨x1160, x1161⟩ : Garray30) = (⟨0, 0⟩ : Garray30))) <;> simp
         replace hm := ite_t hm (of_decide_eq_true h1162')
         refine c_skip <| d_normal_block <| d_normal_block <| d_then <| c_region <| g_v rfl r_move <| g_v rfl (r_add rfl rfl rfl) <| g_v rfl r_assign <| g_nil ?_
         obtain ⟨n1185, hn1185, hlp⟩ := nx_inl hm hnx2
         exact d_round (n1185, x1152.fitems, l802, w64 (i805 + 1), l806, l807, l808, l809, x1152.flast, i811, A1154, c1155, A803, c804) ⟨hlp, hc1155, hc804⟩ hn1185 ⟨rfl, rfl, rfl, rfl, rfl, rfl, rfl, rfl, trivial⟩ (fun W h => (ok_front (t := 100080) (t' := 100080) (ok_front (t := 100070) (t' := 100070) (ok_front (t := 100060) (t' := 100060) (ok_front (t := 100050) (t' := 100050) (ok_front (t := 100225) (t' := 100225) (h.dropH (t := 100100) rfl) rfl) rfl) rfl) rfl) rfl).phi (fun W hφ => hφ))
       ·
        replace hm := ite_f hm (bool_nt h1158)
        refine ga_no (i := 11) (bz 17 4095) rfl (by kernel_rfl) (fun _ _ _ _ h => h) rfl rfl rfl rfl rfl h1158 <| ga_no (i := 12) (bz 17 8191) rfl (by kernel_rfl) (fun _ _ _ _ h => h) rfl rfl rfl rfl rfl h1158 <| ga_no (i := 13) (bz 17 16383) rfl (by kernel_rfl) (fun _ _ _ _ h => h) rfl rfl rfl rfl rfl h1158 <| ga_no (i := 14) (bz 17 32767) rfl (by kernel_rfl) (fun _ _ _ _ h => h) rfl rfl rfl rfl rfl h1158 <| ga_no (i := 15) (bz 17 65535) rfl (by kernel_rfl) (fun _ _ _ _ h => h) rfl rfl rfl rfl rfl h1158 <| ga_r (i := 16) (bz 17 131071) rfl (by kernel_rfl) (by decide) rfl (r_pick0 rfl h1158) <| ga_done (by kernel_rfl) <| d_then ?_
        refine c_flat [(0, .slice Ap0_0 p0.length cp0_0), (3, .bool x1), (4, .pointer (some ⟨g11, 0, none⟩)), (5, .pointer (some ⟨g12, 0, none⟩)), (6, .pointer (some ⟨g13, 0, none⟩)), (7, .pointer (some ⟨g14, 0, none⟩)), (8, .pointer (some ⟨g15, 0, none⟩)), (9, .int .i64 i805), (10, .pointer (some ⟨g1076, 0, none⟩)), (11, .int .i64 i1117), (12, .int .i64 x1079), (206, .bool false)] ⟨rfl, rfl, rfl, rfl, rfl, rfl, rfl, rfl, rfl, rfl, rfl, rfl, trivial⟩ (fun u => ?_)
        refine c_sta ⟨w0, M, (100225, g11, .cells #[.slice A1154 x1152.fitems.length c1155, .slice A803 l802.length c804, .int .i64 x1152.flast, .int .i64 i811] 61 (0, 0)) :: (100100, g1076, .cells #[.int .i64 x1072.fKind, .int .i64 x1072.fA, .int .i64 x1072.fB, .int .i64 x1072.fN, .string x1072.fBody] 33 (0, 0)) :: (100080, g15, .cells (l806.map (fun x : Int => Value.int .i64 x)).toArray 31 (0, 0)) :: (100070, g14, .cells (l807.map (fun x : Bool => Value.bool x)).toArray 29 (0, 0)) :: (100060, g13, .cells (l808.map (fun x : ByteArray => Value.string x)).toArray 27 (0, 0)) :: (100050, g12, .cells (l809.map (fun x : ByteArray => Value.string x)).toArray 27 (0, 0)) :: H, (100220, ⟨.slice A1154 x1152.fitems.length c1155, 40, 6, x1152.fitems.length, x1152.fitems.flatMap GItem.enc⟩) :: (100221, ⟨.slice A803 l802.length c804, 63, 3, l802.length, l802.flatMap Gnet_conn.enc⟩) :: R, φ⟩ (fun _ h => h) <| c_cond0 rfl rfl <| c_skip <| d_normal_block <| d_normal_block <| d_then <| c_region <| g_v rfl r_move <| g_v rfl (r_add rfl rfl rfl) <| g_v rfl r_assign ?_
        refine g_nil ?_
        obtain ⟨n1186, hn1186, hlp⟩ := nx_inl hm hnx2
        exact d_round (n1186, x1152.fitems, l802, w64 (i805 + 1), l806, l807, l808, l809, x1152.flast, i811, A1154, c1155, A803, c804) ⟨hlp, hc1155, hc804⟩ hn1186 ⟨rfl, rfl, rfl, rfl, rfl, rfl, rfl, rfl, trivial⟩ (fun W h => (ok_front (t := 100080) (t' := 100080) (ok_front (t := 100070) (t' := 100070) (ok_front (t := 100060) (t' := 100060) (ok_front (t := 100050) (t' := 100050) (ok_front (t := 100225) (t' := 100225) (h.dropH (t := 100100) rfl) rfl) rfl) rfl) rfl) rfl).phi (fun W hφ => hφ))
      ·
       replace hm := ite_f hm (bool_nt h1119)
       refine c_seq <| c_region <| g_v rfl (r_eql rfl rfl) <| g_v rfl r_assign <| g_nil <| d_then ?_
       refine c_cond rfl (fun h1187 => ?_) (fun h1187 => ?_)
       ·
        replace hm := ite_t hm (of_decide_eq_true h1187)
        refine c_region <| g_v rfl r_move <| g_v rfl r_move ?_
        replace hm := bnd hm
        obtain ⟨⟨x1188, x1189⟩, hx1190, hm⟩ := hm
        refine g_cn ⟨w0, M, (1000, g11, .cells #[.slice A800 l799.length c801, .slice A803 l802.length c804, .int .i64 i810, .int .i64 i811] 61 (0, 0)) :: (100100, g1076, .cells #[.int .i64 x1072.fKind, .int .i64 x1072.fA, .int .i64 x1072.fB, .int .i64 x1072.fN, .string x1072.fBody] 33 (0, 0)) :: (100080, g15, .cells (l806.map (fun x : Int => Value.int .i64 x)).toArray 31 (0, 0)) :: (100070, g14, .cells (l807.map (fun x : Bool => Value.bool x)).toArray 29 (0, 0)) :: (100060, g13, .cells (l808.map (fun x : ByteArray => Value.string x)).toArray 27 (0, 0)) :: (100050, g12, .cells (l809.map (fun x : ByteArray => Value.string x)).toArray 27 (0, 0)) :: H, (1000, ⟨.slice A800 l799.length c801, 40, 6, l799.length, l799.flatMap GItem.enc⟩) :: (1001, ⟨.slice A803 l802.length c804, 63, 3, l802.length, l802.flatMap Gnet_conn.enc⟩) :: R, φ⟩ (fun W h => (ok_front (t := 100225) (t' := 1000) (ok_frontR (t := 100220) (t' := 1000) (ok_frontR (t := 100221) (t' := 1001) h rfl) rfl) rfl)) Try.call14 rfl rfl (c_net_Net_Close i1117 g11 (⟨l799, l802, i810, i811⟩ : Gnet_Net) A800 c801 hc801 A803 c804 hc804 _ hx1190) (fun ⟨A1191, c1192, A1194, c1195⟩ ⟨hc1192, hc1195⟩ => ?_)
        refine g_sta _ (fun W h => (ok_frontR (t := 2000) (t' := 100220) (ok_frontR (t := 2001) (t' := 100221) (ok_front (t := 1000) (t' := 100225) h rfl) rfl) rfl)) <| g_nil <| d_normal_block <| d_normal_block <| d_then <| c_region <| g_v rfl r_move <| g_v rfl (r_add rfl rfl rfl) <| g_v rfl r_assign <| g_nil ?_
        obtain ⟨n1198, hn1198, hlp⟩ := nx_inl hm hnx2
        exact d_round (n1198, x1189.fitems, x1189.fconns, w64 (i805 + 1), l806, l807, l808, l809, x1189.flast, i811, A1191, c1192, A1194, c1195) ⟨hlp, hc1192, hc1195⟩ hn1198 ⟨rfl, rfl, rfl, rfl, rfl, rfl, rfl, rfl, trivial⟩ (fun W h => (ok_front (t := 100080) (t' := 100080) (ok_front (t := 100070) (t' := 100070) (ok_front (t := 100060) (t' := 100060) (ok_front (t := 100050) (t' := 100050) (ok_front (t := 100225) (t' := 100225) (h.dropH (t := 100100) rfl) rfl) rfl) rfl) rfl) rfl).phi (fun W hφ => hφ))
       ·
        replace hm := ite_f hm (of_decide_eq_false h1187)
        refine c_seq <| c_region <| g_v rfl (r_eql rfl rfl) <| g_v rfl r_assign <| g_nil <| d_then ?_
        refine c_cond rfl (fun h1199 => ?_) (fun h1199 => ?_)
        ·
         replace hm := ite_t hm (of_decide_eq_true h1199)
         refine c_seq <| c_region <| g_v rfl r_move <| g_v rfl (r_field (n := 4) Try.underlying33 rfl Try.sizeOf9 rfl rfl) <| g_v rfl (r_load (tag := 100100) rfl rfl rfl Try.isAgg9) ?_
         replace hm := bnd hm
         obtain ⟨⟨x1200, x1201⟩, hx1202, hm⟩ := hm
         refine g_cn ⟨w0, M, (1000, g11, .cells #[.slice A800 l799.length c801, .slice A803 l802.length c804, .int .i64 i810, .int .i64 i811] 61 (0, 0)) :: (100100, g1076, .cells #[.int .i64 x1072.fKind, .int .i64 x1072.fA, .int .i64 x1072.fB, .int .i64 x1072.fN, .string x1072.fBody] 33 (0, 0)) :: (100080, g15, .cells (l806.map (fun x : Int => Value.int .i64 x)).toArray 31 (0, 0)) :: (100070, g14, .cells (l807.map (fun x : Bool => Value.bool x)).toArray 29 (0, 0)) :: (100060, g13, .cells (l808.map (fun x : ByteArray => Value.string x)).toArray 27 (0, 0)) :: (100050, g12, .cells (l809.map (fun x : ByteArray => Value.string x)).toArray 27 (0, 0)) :: H, (1000, ⟨.slice A800 l799.length c801, 40, 6, l799.length, l799.flatMap GItem.enc⟩) :: (1001, ⟨.slice A803 l802.length c804, 63, 3, l802.length, l802.flatMap Gnet_conn.enc⟩) :: R, φ⟩ (fun W h => (ok_front (t := 100225) (t' := 1000) (ok_frontR (t := 100220) (t' := 1000) (ok_frontR (t := 100221) (t' := 1001) h rfl) rfl) rfl)) Try.call15 rfl rfl (c_net_Net_Send 0 1 x1072.fBody g11 (⟨l799, l802, i810, i811⟩ : Gnet_Net) A800 c801 hc801 A803 c804 hc804 _ hx1202) (fun ⟨A1203, c1204⟩ hc1204 => ?_)
         refine g_sta _ (fun W h => (ok_frontR (t := 2000) (t' := 100220) (ok_frontR (t := 1001) (t' := 100221) (ok_front (t := 1000) (t' := 100225) h rfl) rfl) rfl)) <| g_nil <| d_then <| c_region <| g_v rfl r_move <| g_v rfl (r_field (n := 2) Try.underlying33 rfl Try.sizeOf3 rfl rfl) <| g_v rfl (r_load (tag := 100100) rfl rfl rfl Try.isAgg3) ?_
         replace hm := bnd hm
         obtain ⟨⟨x1207, x1208⟩, hx1209, hm⟩ := hm
         refine g_cn ⟨w0, M, (1000, g11, .cells #[.slice A1203 x1201.fitems.length c1204, .slice A803 l802.length c804, .int .i64 x1201.flast, .int .i64 i811] 61 (0, 0)) :: (100100, g1076, .cells #[.int .i64 x1072.fKind, .int .i64 x1072.fA, .int .i64 x1072.fB, .int .i64 x1072.fN, .string x1072.fBody] 33 (0, 0)) :: (100080, g15, .cells (l806.map (fun x : Int => Value.int .i64 x)).toArray 31 (0, 0)) :: (100070, g14, .cells (l807.map (fun x : Bool => Value.bool x)).toArray 29 (0, 0)) :: (100060, g13, .cells (l808.map (fun x : ByteArray => Value.string x)).toArray 27 (0, 0)) :: (100050, g12, .cells (l809.map (fun x : ByteArray => Value.string x)).toArray 27 (0, 0)) :: H, (1000, ⟨.slice A1203 x1201.fitems.length c1204, 40, 6, x1201.fitems.length, x1201.fitems.flatMap GItem.enc⟩) :: (1001, ⟨.slice A803 l802.length c804, 63, 3, l802.length, l802.flatMap Gnet_conn.enc⟩) :: R, φ⟩ (fun W h => (ok_front (t := 100225) (t' := 1000) (ok_frontR (t := 100220) (t' := 1000) (ok_frontR (t := 100221) (t' := 1001) h rfl) rfl) rfl)) Try.call16 rfl rfl (c_net_Net_Double x1072.fB g11 (⟨x1201.fitems, l802, x1201.flast, i811⟩ : Gnet_Net) A1203 c1204 hc1204 A803 c804 hc804 _ hx1209) (fun ⟨A1210, c1211⟩ hc1211 => ?_)
         refine g_sta _ (fun W h => (ok_frontR (t := 2000) (t' := 100220) (ok_frontR (t := 1001) (t' := 100221) (ok_front (t := 1000) (t' := 100225) h rfl) rfl) rfl)) <| g_nil <| d_normal_block <| d_normal_block <| d_then ?_
         refine c_flat [(0, .slice Ap0_0 p0.length cp0_0), (3, .bool x1), (4, .pointer (some ⟨g11, 0, none⟩)), (5, .pointer (some ⟨g12, 0, none⟩)), (6, .pointer (some ⟨g13, 0, none⟩)), (7, .pointer (some ⟨g14, 0, none⟩)), (8, .pointer (some ⟨g15, 0, none⟩)), (9, .int .i64 i805)] ⟨rfl, rfl, rfl, rfl, rfl, rfl, rfl, rfl, trivial⟩ (fun u => ?_)
         refine c_sta ⟨w0, M, (100225, g11, .cells #[.slice A1210 x1208.fitems.length c1211, .slice A803 l802.length c804, .int .i64 x1208.flast, .int .i64 i811] 61 (0, 0)) :: (100100, g1076, .cells #[.int .i64 x1072.fKind, .int .i64 x1072.fA, .int .i64 x1072.fB, .int .i64 x1072.fN, .string x1072.fBody] 33 (0, 0)) :: (100080, g15, .cells (l806.map (fun x : Int => Value.int .i64 x)).toArray 31 (0, 0)) :: (100070, g14, .cells (l807.map (fun x : Bool => Value.bool x)).toArray 29 (0, 0)) :: (100060, g13, .cells (l808.map (fun x : ByteArray => Value.string x)).toArray 27 (0, 0)) :: (100050, g12, .cells (l809.map (fun x : ByteArray => Value.string x)).toArray 27 (0, 0)) :: H, (100220, ⟨.slice A1210 x1208.fitems.length c1211, 40, 6, x1208.fitems.length, x1208.fitems.flatMap GItem.enc⟩) :: (100221, ⟨.slice A803 l802.length c804, 63, 3, l802.length, l802.flatMap Gnet_conn.enc⟩) :: R, φ⟩ (fun _ h => h) <| c_region <| g_v rfl r_move <| g_v rfl (r_add rfl rfl rfl) <| g_v rfl r_assign <| g_nil ?_
         obtain ⟨n1214, hn1214, hlp⟩ := nx_inl hm hnx2
         exact d_round (n1214, x1208.fitems, l802, w64 (i805 + 1), l806, l807, l808, l809, x1208.flast, i811, A1210, c1211, A803, c804) ⟨hlp, hc1211, hc804⟩ hn1214 ⟨rfl, rfl, rfl, rfl, rfl, rfl, rfl, rfl, trivial⟩ (fun W h => (ok_front (t := 100080) (t' := 100080) (ok_front (t := 100070) (t' := 100070) (ok_front (t := 100060) (t' := 100060) (ok_front (t := 100050) (t' := 100050) (ok_front (t := 100225) (t' := 100225) (h.dropH (t := 100100) rfl) rfl) rfl) rfl) rfl) rfl).phi (fun W hφ => hφ))
        ·
         replace hm := ite_f hm (of_decide_eq_false h1199)
         refine c_seq <| c_region <| g_v rfl r_move <| g_v rfl (r_field (n := 2) Try.underlying33 rfl Try.sizeOf3 rfl rfl) <| g_v rfl (r_load (tag := 100100) rfl rfl rfl Try.isAgg3) ?_
         replace hm := bnd hm
         obtain ⟨⟨x1215, x1216, x1217⟩, hx1218, hm⟩ := hm
         refine g_cn ⟨w0, M, (1000, g11, .cells #[.slice A800 l799.length c801, .slice A803 l802.length c804, .int .i64 i810, .int .i64 i811] 61 (0, 0)) :: (100100, g1076, .cells #[.int .i64 x1072.fKind, .int .i64 x1072.fA, .int .i64 x1072.fB, .int .i64 x1072.fN, .string x1072.fBody] 33 (0, 0)) :: (100080, g15, .cells (l806.map (fun x : Int => Value.int .i64 x)).toArray 31 (0, 0)) :: (100070, g14, .cells (l807.map (fun x : Bool => Value.bool x)).toArray 29 (0, 0)) :: (100060, g13, .cells (l808.map (fun x : ByteArray => Value.string x)).toArray 27 (0, 0)) :: (100050, g12, .cells (l809.map (fun x : ByteArray => Value.string x)).toArray 27 (0, 0)) :: H, (1000, ⟨.slice A800 l799.length c801, 40, 6, l799.length, l799.flatMap GItem.enc⟩) :: (1001, ⟨.slice A803 l802.length c804, 63, 3, l802.length, l802.flatMap Gnet_conn.enc⟩) :: R, φ⟩ (fun W h => (ok_front (t := 100225) (t' := 1000) (ok_frontR (t := 100220) (t' := 1000) (ok_frontR (t := 100221) (t' := 1001) h rfl) rfl) rfl)) Try.call17 rfl rfl (c_net_Net_Take x1072.fB g11 (⟨l799, l802, i810, i811⟩ : Gnet_Net) A800 c801 hc801 A803 c804 hc804 _ hx1218) (fun ⟨A1219, c1220⟩ hc1220 => ?_)
         refine g_sta _ (fun W h => (ok_frontR (t := 2000) (t' := 100220) (ok_frontR (t := 1001) (t' := 100221) (ok_front (t := 1000) (t' := 100225) h rfl) rfl) rfl)) <| g_v rfl r_move <| g_v rfl (r_extract rfl rfl) <| g_v rfl (r_extract rfl rfl) ?_
         refine g_e rfl (e_alloc 100170 Try.zeroValue40) (fun g1223 _ => ?_)
         refine g_storeL (tag := 100170) rfl rfl rfl rfl Try.sizeOf40 rfl rfl <| g_v rfl r_assign <| g_nil <| d_then ?_
         refine c_flat [(0, .slice Ap0_0 p0.length cp0_0), (3, .bool x1), (4, .pointer (some ⟨g11, 0, none⟩)), (5, .pointer (some ⟨g12, 0, none⟩)), (6, .pointer (some ⟨g13, 0, none⟩)), (7, .pointer (some ⟨g14, 0, none⟩)), (8, .pointer (some ⟨g15, 0, none⟩)), (9, .int .i64 i805), (17, .pointer (some ⟨g1223, 0, none⟩)), (18, .bool x1216)] ⟨rfl, rfl, rfl, rfl, rfl, rfl, rfl, rfl, rfl, rfl, trivial⟩ (fun u => ?_)
         refine c_sta ⟨w0, M, (100170, g1223, .cells #[.int .i64 x1215.fNumber, .int .i64 x1215.fKind, .int .i64 x1215.fFrom, .int .i64 x1215.fTo, .int .i64 x1215.fConn, .string x1215.fBody] 40 (0, 0)) :: (100225, g11, .cells #[.slice A1219 x1217.fitems.length c1220, .slice A803 l802.length c804, .int .i64 i810, .int .i64 i811] 61 (0, 0)) :: (100100, g1076, .cells #[.int .i64 x1072.fKind, .int .i64 x1072.fA, .int .i64 x1072.fB, .int .i64 x1072.fN, .string x1072.fBody] 33 (0, 0)) :: (100080, g15, .cells (l806.map (fun x : Int => Value.int .i64 x)).toArray 31 (0, 0)) :: (100070, g14, .cells (l807.map (fun x : Bool => Value.bool x)).toArray 29 (0, 0)) :: (100060, g13, .cells (l808.map (fun x : ByteArray => Value.string x)).toArray 27 (0, 0)) :: (100050, g12, .cells (l809.map (fun x : ByteArray => Value.string x)).toArray 27 (0, 0)) :: H, (100220, ⟨.slice A1219 x1217.fitems.length c1220, 40, 6, x1217.fitems.length, x1217.fitems.flatMap GItem.enc⟩) :: (100221, ⟨.slice A803 l802.length c804, 63, 3, l802.length, l802.flatMap Gnet_conn.enc⟩) :: R, φ⟩ (fun _ h => h) <| c_seq <| c_seq <| c_region <| g_v rfl r_move <| g_v rfl (r_not rfl) <| g_v rfl r_move ?_
         refine g_if rfl rfl rfl rfl rfl (fun h1224 => ?_) (fun h1224 => ?_)
         ·
          have h1224' : x1216 = true := by revert h1224; cases x1216 <;> simp
          replace hm := ite_t hm h1224'
          refine g_v rfl (r_field (n := 1) Try.underlying40 rfl Try.sizeOf3 rfl rfl) <| g_do rfl rfl rfl rfl rfl h1224 <| g_v rfl (r_load (tag := 100170) rfl rfl rfl Try.isAgg3) <| g_do rfl rfl rfl rfl rfl h1224 <| g_v rfl (r_eql rfl rfl) <| g_v rfl (r_pick0 rfl h1224) <| g_nil <| d_then ?_
          refine c_cond rfl (fun h1225 => ?_) (fun h1225 => ?_)
          ·
           replace hm := ite_t hm (of_decide_eq_true h1225)
           refine c_exit <| d_exit_then <| d_exit_other rfl <| d_exit_block <| d_then <| c_region <| g_v rfl r_move <| g_v rfl (r_add rfl rfl rfl) <| g_v rfl r_assign <| g_nil ?_
           obtain ⟨n1226, hn1226, hlp⟩ := nx_inl hm hnx2
           exact d_round (n1226, x1217.fitems, l802, w64 (i805 + 1), l806, l807, l808, l809, i810, i811, A1219, c1220, A803, c804) ⟨hlp, hc1220, hc804⟩ hn1226 ⟨rfl, rfl, rfl, rfl, rfl, rfl, rfl, rfl, trivial⟩ (fun W h => (ok_front (t := 100080) (t' := 100080) (ok_front (t := 100070) (t' := 100070) (ok_front (t := 100060) (t' := 100060) (ok_front (t := 100050) (t' := 100050) (ok_front (t := 100225) (t' := 100225) ((h.dropH (t := 100170) rfl).dropH (t := 100100) rfl) rfl) rfl) rfl) rfl) rfl).phi (fun W hφ => hφ))
          ·
           replace hm := ite_f hm (of_decide_eq_false h1225)
           refine c_skip <| d_then <| c_seq <| c_seq <| c_region <| g_v rfl (r_field (n := 4) Try.underlying40 rfl Try.sizeOf3 rfl rfl) <| g_v rfl (r_load (tag := 100170) rfl rfl rfl Try.isAgg3) <| g_v rfl (r_lss rfl rfl) <| g_v rfl r_move ?_
           refine g_if rfl rfl rfl rfl rfl (fun h1227 => ?_) (fun h1227 => ?_)
           ·
            replace hm := ite_f hm (of_decide_eq_false h1227)
            refine g_v rfl (r_field (n := 4) Try.underlying40 rfl Try.sizeOf3 rfl rfl) <| g_do rfl rfl rfl rfl rfl h1227 <| g_v rfl (r_load (tag := 100170) rfl rfl rfl Try.isAgg3) <| g_do rfl rfl rfl rfl rfl h1227 <| g_v rfl (r_gtr rfl rfl) <| g_v rfl (r_pick0 rfl h1227) <| g_nil <| d_then ?_
            refine c_flat [(0, .slice Ap0_0 p0.length cp0_0), (3, .bool x1), (4, .pointer (some ⟨g11, 0, none⟩)), (5, .pointer (some ⟨g12, 0, none⟩)), (6, .pointer (some ⟨g13, 0, none⟩)), (7, .pointer (some ⟨g14, 0, none⟩)), (8, .pointer (some ⟨g15, 0, none⟩)), (9, .int .i64 i805), (17, .pointer (some ⟨g1223, 0, none⟩)), (70, .bool (decide (4 < x1215.fConn)))] ⟨rfl, rfl, rfl, rfl, rfl, rfl, rfl, rfl, rfl, rfl, trivial⟩ (fun u => ?_)
            refine c_cond rfl (fun h1228 => ?_) (fun h1228 => ?_)
            ·
             replace hm := ite_t hm (of_decide_eq_true h1228)
             refine c_seq <| c_region <| g_v rfl r_assign <| g_nil <| d_then <| c_ret <| d_ret_then <| d_ret_block <| d_ret_block <| d_ret_then ?_
             refine d_ret_then <| d_ret_block <| d_ret_then <| d_ret_then ?_
             replace hm := nx_out (C := (fun e : Unit ⊕ Bool => Sum.elim (fun e => m_law08_NetStreams_j1 x1) (fun x => some x) e = some r)) hm hnx2 hr2
             replace hm : some false = some r := hm
             replace hm := Option.some.inj hm
             subst hm
             refine d_retC () Try.results3 ?_ trivial (fun W h => ok_pre (H1 := [_, _, _, _, _, _, _]) (R1 := [_, _]) h (fun W hφ => hφ)) (.inr rfl)
             refine res_tmp <| res_nil ?_
             exact rfl
            ·
             replace hm := ite_f hm (of_decide_eq_false h1228)
             refine c_skip <| d_then <| c_seq <| c_region <| g_v rfl r_assign <| g_nil <| d_then <| c_seq ?_
             refine c_cut (ι := Int) [0, 3, 4, 5, 6, 7, 8, 9, 17, 19] (fun i1236 => [(19, .int .i64 i1236)]) (fun i1236 => ⟨w0, M, (100170, g1223, .cells #[.int .i64 x1215.fNumber, .int .i64 x1215.fKind, .int .i64 x1215.fFrom, .int .i64 x1215.fTo, .int .i64 x1215.fConn, .string x1215.fBody] 40 (0, 0)) :: (100225, g11, .cells #[.slice A1219 x1217.fitems.length c1220, .slice A803 l802.length c804, .int .i64 i810, .int .i64 i811] 61 (0, 0)) :: (100080, g15, .cells (l806.map (fun x : Int => Value.int .i64 x)).toArray 31 (0, 0)) :: (100070, g14, .cells (l807.map (fun x : Bool => Value.bool x)).toArray 29 (0, 0)) :: (100060, g13, .cells (l808.map (fun x : ByteArray => Value.string x)).toArray 27 (0, 0)) :: (100050, g12, .cells (l809.map (fun x : ByteArray => Value.string x)).toArray 27 (0, 0)) :: H, (100220, ⟨.slice A1219 x1217.fitems.length c1220, 40, 6, x1217.fitems.length, x1217.fitems.flatMap GItem.enc⟩) :: (100221, ⟨.slice A803 l802.length c804, 63, 3, l802.length, l802.flatMap Gnet_conn.enc⟩) :: R, φ⟩) (fun i1236 => m_law08_NetStreams_j5 x1215 l807 l806 l808 l809 x1217 l802 i805 i810 i811 i1236 = some o2) ?_ (fun i1236 u hm => ?_)
             ·
              refine c_seq <| ga_start (n := 8) ⟨w0, M, (100170, g1223, .cells #[.int .i64 x1215.fNumber, .int .i64 x1215.fKind, .int .i64 x1215.fFrom, .int .i64 x1215.fTo, .int .i64 x1215.fConn, .string x1215.fBody] 40 (0, 0)) :: (100225, g11, .cells #[.slice A1219 x1217.fitems.length c1220, .slice A803 l802.length c804, .int .i64 i810, .int .i64 i811] 61 (0, 0)) :: (100100, g1076, .cells #[.int .i64 x1072.fKind, .int .i64 x1072.fA, .int .i64 x1072.fB, .int .i64 x1072.fN, .string x1072.fBody] 33 (0, 0)) :: (100080, g15, .cells (l806.map (fun x : Int => Value.int .i64 x)).toArray 31 (0, 0)) :: (100070, g14, .cells (l807.map (fun x : Bool => Value.bool x)).toArray 29 (0, 0)) :: (100060, g13, .cells (l808.map (fun x : ByteArray => Value.string x)).toArray 27 (0, 0)) :: (100050, g12, .cells (l809.map (fun x : ByteArray => Value.string x)).toArray 27 (0, 0)) :: H, (100220, ⟨.slice A1219 x1217.fitems.length c1220, 40, 6, x1217.fitems.length, x1217.fitems.flatMap GItem.enc⟩) :: (100221, ⟨.slice A803 l802.length c804, 63, 3, l802.length, l802.flatMap Gnet_conn.enc⟩) :: R, φ⟩ [] #[false, false, false, false, false, false, false, false] (fun W h => h.phi (fun W hφ => hφ)) mixed rfl rfl <| ga_v (i := 0) (bz 8 1) rfl (by kernel_rfl) (fun _ _ _ _ h => h) rfl (r_field (n := 3) Try.underlying40 rfl Try.sizeOf3 rfl rfl) <| ga_v (i := 1) (bz 8 3) rfl (by kernel_rfl) (fun _ _ _ _ h => h) rfl (r_load (tag := 100170) rfl rfl rfl Try.isAgg3) <| ga_r (i := 2) (bz 8 7) rfl (by kernel_rfl) (by decide) rfl (r_field (n := 4) Try.underlying40 rfl Try.sizeOf3 rfl rfl) <| ga_r (i := 3) (bz 8 15) rfl (by kernel_rfl) (by decide) rfl (r_load (tag := 100170) rfl rfl rfl Try.isAgg3) ?_
              replace hm := bnd hm
              obtain ⟨a1331, ha1331, hm⟩ := hm
              refine ga_r (i := 4) (bz 8 31) rfl (by kernel_rfl) (by decide) rfl (r_aix Try.underlying31 Try.sizeOf30 rfl rfl ha1331 rfl) <| ga_r (i := 5) (bz 8 63) rfl (by kernel_rfl) (by decide) rfl (r_aix Try.underlying30 Try.sizeOf3 rfl rfl (show aix 2 1 = some 1 from rfl) rfl) ?_
              replace hm := bnd hm
              obtain ⟨x1332, hx1332, hm⟩ := hm
              refine ga_r (i := 6) (bz 8 127) rfl (by kernel_rfl) (by decide) rfl (r_ldL (tag := 100080) (f := (fun x : Int => Value.int .i64 x)) rfl rfl Try.isAgg3 hx1332) <| ga_r (i := 7) (bz 8 255) rfl (by kernel_rfl) (by decide) rfl (r_eql rfl rfl) <| ga_done (by kernel_rfl) <| d_then ?_
              refine c_flat [(0, .slice Ap0_0 p0.length cp0_0), (3, .bool x1), (4, .pointer (some ⟨g11, 0, none⟩)), (5, .pointer (some ⟨g12, 0, none⟩)), (6, .pointer (some ⟨g13, 0, none⟩)), (7, .pointer (some ⟨g14, 0, none⟩)), (8, .pointer (some ⟨g15, 0, none⟩)), (9, .int .i64 i805), (17, .pointer (some ⟨g1223, 0, none⟩)), (19, .int .i64 0), (78, .bool (decide (x1215.fTo = x1332)))] ⟨rfl, rfl, rfl, rfl, rfl, rfl, rfl, rfl, rfl, rfl, rfl, trivial⟩ (fun u => ?_)
              refine c_cond rfl (fun h1333 => ?_) (fun h1333 => ?_)
              ·
               replace hm := ite_t hm (of_decide_eq_true h1333)
               refine c_region <| g_v rfl r_assign <| g_nil ?_
               exact d_round 1 hm Nat.zero_lt_one ⟨rfl, rfl, rfl, rfl, rfl, rfl, rfl, rfl, rfl, rfl, trivial⟩ (fun W h => (h.dropH (t := 100100) rfl).phi (fun W hφ => hφ))
              ·
               replace hm := ite_f hm (of_decide_eq_false h1333)
               refine c_skip ?_
               exact d_round 0 hm Nat.zero_lt_one ⟨rfl, rfl, rfl, rfl, rfl, rfl, rfl, rfl, rfl, rfl, trivial⟩ (fun W h => (h.dropH (t := 100100) rfl).phi (fun W hφ => hφ))
             ·
              unfold m_law08_NetStreams_j5 at hm
              refine d_flat [(0, .slice Ap0_0 p0.length cp0_0), (3, .bool x1), (4, .pointer (some ⟨g11, 0, none⟩)), (5, .pointer (some ⟨g12, 0, none⟩)), (6, .pointer (some ⟨g13, 0, none⟩)), (7, .pointer (some ⟨g14, 0, none⟩)), (8, .pointer (some ⟨g15, 0, none⟩)), (9, .int .i64 i805), (17, .pointer (some ⟨g1223, 0, none⟩)), (19, .int .i64 i1236)] ⟨rfl, rfl, rfl, rfl, rfl, rfl, rfl, rfl, rfl, rfl, trivial⟩ (fun u => ?_)
              refine d_sta ⟨w0, M, (100170, g1223, .cells #[.int .i64 x1215.fNumber, .int .i64 x1215.fKind, .int .i64 x1215.fFrom, .int .i64 x1215.fTo, .int .i64 x1215.fConn, .string x1215.fBody] 40 (0, 0)) :: (100225, g11, .cells #[.slice A1219 x1217.fitems.length c1220, .slice A803 l802.length c804, .int .i64 i810, .int .i64 i811] 61 (0, 0)) :: (100080, g15, .cells (l806.map (fun x : Int => Value.int .i64 x)).toArray 31 (0, 0)) :: (100070, g14, .cells (l807.map (fun x : Bool => Value.bool x)).toArray 29 (0, 0)) :: (100060, g13, .cells (l808.map (fun x : ByteArray => Value.string x)).toArray 27 (0, 0)) :: (100050, g12, .cells (l809.map (fun x : ByteArray => Value.string x)).toArray 27 (0, 0)) :: H, (100220, ⟨.slice A1219 x1217.fitems.length c1220, 40, 6, x1217.fitems.length, x1217.fitems.flatMap GItem.enc⟩) :: (100221, ⟨.slice A803 l802.length c804, 63, 3, l802.length, l802.flatMap Gnet_conn.enc⟩) :: R, φ⟩ (fun _ h => h) <| d_then <| c_seq <| c_seq <| ga_start (n := 17) ⟨w0, M, (100170, g1223, .cells #[.int .i64 x1215.fNumber, .int .i64 x1215.fKind, .int .i64 x1215.fFrom, .int .i64 x1215.fTo, .int .i64 x1215.fConn, .string x1215.fBody] 40 (0, 0)) :: (100225, g11, .cells #[.slice A1219 x1217.fitems.length c1220, .slice A803 l802.length c804, .int .i64 i810, .int .i64 i811] 61 (0, 0)) :: (100080, g15, .cells (l806.map (fun x : Int => Value.int .i64 x)).toArray 31 (0, 0)) :: (100070, g14, .cells (l807.map (fun x : Bool => Value.bool x)).toArray 29 (0, 0)) :: (100060, g13, .cells (l808.map (fun x : ByteArray => Value.string x)).toArray 27 (0, 0)) :: (100050, g12, .cells (l809.map (fun x : ByteArray => Value.string x)).toArray 27 (0, 0)) :: H, (100220, ⟨.slice A1219 x1217.fitems.length c1220, 40, 6, x1217.fitems.length, x1217.fitems.flatMap GItem.enc⟩) :: (100221, ⟨.slice A803 l802.length c804, 63, 3, l802.length, l802.flatMap Gnet_conn.enc⟩) :: R, φ⟩ [] #[false, false, false, false, false, false, false, false, false, false, false, false, false, false, false, false, false] (fun W h => h.phi (fun W hφ => hφ)) mixed rfl rfl <| ga_v (i := 0) (bz 17 1) rfl (by kernel_rfl) (fun _ _ _ _ h => h) rfl (r_field (n := 4) Try.underlying40 rfl Try.sizeOf3 rfl rfl) <| ga_v (i := 1) (bz 17 3) rfl (by kernel_rfl) (fun _ _ _ _ h => h) rfl (r_load (tag := 100170) rfl rfl rfl Try.isAgg3) <| ga_v (i := 2) (bz 17 7) rfl (by kernel_rfl) (fun _ _ _ _ h => h) rfl (r_move) ?_
              replace hm := bnd hm
              obtain ⟨a1251, ha1251, hm⟩ := hm
              refine ga_r (i := 3) (bz 17 15) rfl (by kernel_rfl) (by decide) rfl (r_aix Try.underlying29 Try.sizeOf28 rfl rfl ha1251 rfl) ?_
              replace hm := bnd hm
              obtain ⟨a1252, ha1252, hm⟩ := hm
              refine ga_r (i := 4) (bz 17 31) rfl (by kernel_rfl) (by decide) rfl (r_aix Try.underlying28 Try.sizeOf4 rfl rfl ha1252 rfl) ?_
              replace hm := bnd hm
              obtain ⟨x1253, hx1253, hm⟩ := hm
              refine ga_r (i := 5) (bz 17 63) rfl (by kernel_rfl) (by decide) rfl (r_ldL (tag := 100070) (f := (fun x : Bool => Value.bool x)) rfl rfl Try.isAgg4 hx1253) <| ga_r (i := 6) (bz 17 127) rfl (by kernel_rfl) (by decide) rfl (r_move) ?_
              refine ga_if (t := 85) rfl (fun h1254 => ?_) (fun h1254 => ?_)
              ·
               replace hm := ite_t hm h1254
               refine ga_no (i := 7) (bz 17 255) rfl (by kernel_rfl) (fun _ _ _ _ h => h) rfl rfl rfl rfl rfl h1254 <| ga_no (i := 8) (bz 17 511) rfl (by kernel_rfl) (fun _ _ _ _ h => h) rfl rfl rfl rfl rfl h1254 <| ga_no (i := 9) (bz 17 1023) rfl (by kernel_rfl) (fun _ _ _ _ h => h) rfl rfl rfl rfl rfl h1254 <| ga_no (i := 10) (bz 17 2047) rfl (by kernel_rfl) (fun _ _ _ _ h => h) rfl rfl rfl rfl rfl h1254 <| ga_no (i := 11) (bz 17 4095) rfl (by kernel_rfl) (fun _ _ _ _ h => h) rfl rfl rfl rfl rfl h1254 <| ga_no (i := 12) (bz 17 8191) rfl (by kernel_rfl) (fun _ _ _ _ h => h) rfl rfl rfl rfl rfl h1254 <| ga_no (i := 13) (bz 17 16383) rfl (by kernel_rfl) (fun _ _ _ _ h => h) rfl rfl rfl rfl rfl h1254 <| ga_no (i := 14) (bz 17 32767) rfl (by kernel_rfl) (fun _ _ _ _ h => h) rfl rfl rfl rfl rfl h1254 <| ga_no (i := 15) (bz 17 65535) rfl (by kernel_rfl) (fun _ _ _ _ h => h) rfl rfl rfl rfl rfl h1254 <| ga_r (i := 16) (bz 17 131071) rfl (by kernel_rfl) (by decide) rfl (r_pick1 rfl h1254) ?_
               refine ga_done (by kernel_rfl) <| d_then <| c_cond1 rfl rfl <| c_seq <| c_region <| g_v rfl r_assign <| g_nil <| d_then ?_
               refine c_flat [(2, .bool false)] ⟨rfl, trivial⟩ (fun u => ?_)
               refine c_ret <| d_ret_then <| d_ret_block <| d_ret_block <| d_ret_then <| d_ret_then <| d_ret_block <| d_ret_then <| d_ret_then ?_
               replace hm := nx_out (C := (fun e : Unit ⊕ Bool => Sum.elim (fun e => m_law08_NetStreams_j1 x1) (fun x => some x) e = some r)) hm hnx2 hr2
               replace hm : some false = some r := hm
               replace hm := Option.some.inj hm
               subst hm
               refine d_retC () Try.results3 ?_ trivial (fun W h => ok_pre (H1 := [_, _, _, _, _, _]) (R1 := [_, _]) h (fun W hφ => hφ)) (.inr rfl)
               refine res_tmp <| res_nil ?_
               exact rfl
              ·
               replace hm := ite_f hm (bool_nt h1254)
               refine ga_do (i := 7) (bz 17 255) rfl (by kernel_rfl) (fun _ _ _ _ h => h) rfl rfl rfl rfl rfl h1254 (r_field (n := 3) Try.underlying40 rfl Try.sizeOf3 rfl rfl) <| ga_do (i := 8) (bz 17 511) rfl (by kernel_rfl) (fun _ _ _ _ h => h) rfl rfl rfl rfl rfl h1254 (r_load (tag := 100170) rfl rfl rfl Try.isAgg3) <| ga_do (i := 9) (bz 17 1023) rfl (by kernel_rfl) (fun _ _ _ _ h => h) rfl rfl rfl rfl rfl h1254 (r_field (n := 4) Try.underlying40 rfl Try.sizeOf3 rfl rfl) <| ga_do (i := 10) (bz 17 2047) rfl (by kernel_rfl) (fun _ _ _ _ h => h) rfl rfl rfl rfl rfl h1254 (r_load (tag := 100170) rfl rfl rfl Try.isAgg3) <| ga_do (i := 11) (bz 17 4095) rfl (by kernel_rfl) (fun _ _ _ _ h => h) rfl rfl rfl rfl rfl h1254 (r_move) ?_
               replace hm := bnd hm
               obtain ⟨a1255, ha1255, hm⟩ := hm
               refine ga_rG (i := 12) (bz 17 8191) rfl (by kernel_rfl) (by decide) rfl rfl rfl rfl rfl h1254 (r_aix Try.underlying31 Try.sizeOf30 rfl rfl ha1255 rfl) ?_
               replace hm := bnd hm
               obtain ⟨a1256, ha1256, hm⟩ := hm
               refine ga_rG (i := 13) (bz 17 16383) rfl (by kernel_rfl) (by decide) rfl rfl rfl rfl rfl h1254 (r_aix Try.underlying30 Try.sizeOf3 rfl rfl ha1256 rfl) ?_
               replace hm := bnd hm
               obtain ⟨x1257, hx1257, hm⟩ := hm
               refine ga_rG (i := 14) (bz 17 32767) rfl (by kernel_rfl) (by decide) rfl rfl rfl rfl rfl h1254 (r_ldL (tag := 100080) (f := (fun x : Int => Value.int .i64 x)) rfl rfl Try.isAgg3 hx1257) <| ga_rG (i := 15) (bz 17 65535) rfl (by kernel_rfl) (by decide) rfl rfl rfl rfl rfl h1254 (r_neq rfl rfl) <| ga_r (i := 16) (bz 17 131071) rfl (by kernel_rfl) (by decide) rfl (r_pick0 rfl h1254) <| ga_done (by kernel_rfl) <| d_then ?_
               refine c_flat [(0, .slice Ap0_0 p0.length cp0_0), (3, .bool x1), (4, .pointer (some ⟨g11, 0, none⟩)), (5, .pointer (some ⟨g12, 0, none⟩)), (6, .pointer (some ⟨g13, 0, none⟩)), (7, .pointer (some ⟨g14, 0, none⟩)), (8, .pointer (some ⟨g15, 0, none⟩)), (9, .int .i64 i805), (17, .pointer (some ⟨g1223, 0, none⟩)), (19, .int .i64 i1236), (95, .bool (decide (x1215.fTo ≠ x1257)))] ⟨rfl, rfl, rfl, rfl, rfl, rfl, rfl, rfl, rfl, rfl, rfl, trivial⟩ (fun u => ?_)
               refine c_cond rfl (fun h1258 => ?_) (fun h1258 => ?_)
               ·
                replace hm := ite_t hm (of_decide_eq_true h1258)
                refine c_seq <| c_region <| g_v rfl r_assign <| g_nil <| d_then <| c_ret <| d_ret_then <| d_ret_block <| d_ret_block <| d_ret_then ?_
                refine d_ret_then <| d_ret_block <| d_ret_then <| d_ret_then ?_
                replace hm := nx_out (C := (fun e : Unit ⊕ Bool => Sum.elim (fun e => m_law08_NetStreams_j1 x1) (fun x => some x) e = some r)) hm hnx2 hr2
                replace hm : some false = some r := hm
                replace hm := Option.some.inj hm
                subst hm
                refine d_retC () Try.results3 ?_ trivial (fun W h => ok_pre (H1 := [_, _, _, _, _, _]) (R1 := [_, _]) h (fun W hφ => hφ)) (.inr rfl)
                refine res_tmp <| res_nil ?_
                exact rfl
               ·
                replace hm := ite_f hm (of_decide_eq_false h1258)
                refine c_skip <| d_then <| c_seq <| ga_start (n := 9) ⟨w0, M, (100170, g1223, .cells #[.int .i64 x1215.fNumber, .int .i64 x1215.fKind, .int .i64 x1215.fFrom, .int .i64 x1215.fTo, .int .i64 x1215.fConn, .string x1215.fBody] 40 (0, 0)) :: (100225, g11, .cells #[.slice A1219 x1217.fitems.length c1220, .slice A803 l802.length c804, .int .i64 i810, .int .i64 i811] 61 (0, 0)) :: (100080, g15, .cells (l806.map (fun x : Int => Value.int .i64 x)).toArray 31 (0, 0)) :: (100070, g14, .cells (l807.map (fun x : Bool => Value.bool x)).toArray 29 (0, 0)) :: (100060, g13, .cells (l808.map (fun x : ByteArray => Value.string x)).toArray 27 (0, 0)) :: (100050, g12, .cells (l809.map (fun x : ByteArray => Value.string x)).toArray 27 (0, 0)) :: H, (100220, ⟨.slice A1219 x1217.fitems.length c1220, 40, 6, x1217.fitems.length, x1217.fitems.flatMap GItem.enc⟩) :: (100221, ⟨.slice A803 l802.length c804, 63, 3, l802.length, l802.flatMap Gnet_conn.enc⟩) :: R, φ⟩ [8] #[false, false, false, false, false, false, false, false, false] (fun W h => h.phi (fun W hφ => hφ)) mixed rfl rfl <| ga_v (i := 0) (bz 9 1) rfl (by kernel_rfl) (fun _ _ _ _ h => h) rfl (r_field (n := 4) Try.underlying40 rfl Try.sizeOf3 rfl rfl) <| ga_v (i := 1) (bz 9 3) rfl (by kernel_rfl) (fun _ _ _ _ h => h) rfl (r_load (tag := 100170) rfl rfl rfl Try.isAgg3) <| ga_v (i := 2) (bz 9 7) rfl (by kernel_rfl) (fun _ _ _ _ h => h) rfl (r_move) <| ga_v (i := 3) (bz 9 15) rfl (by kernel_rfl) (fun _ _ _ _ h => h) rfl (r_field (n := 1) Try.underlying40 rfl Try.sizeOf3 rfl rfl) <| ga_v (i := 4) (bz 9 31) rfl (by kernel_rfl) (fun _ _ _ _ h => h) rfl (r_load (tag := 100170) rfl rfl rfl Try.isAgg3) <| ga_v (i := 5) (bz 9 63) rfl (by kernel_rfl) (fun _ _ _ _ h => h) rfl (r_eql rfl rfl) ?_
                replace hm := bnd hm
                obtain ⟨a1265, ha1265, hm⟩ := hm
                refine ga_r (i := 6) (bz 9 127) rfl (by kernel_rfl) (by decide) rfl (r_aix Try.underlying29 Try.sizeOf28 rfl rfl ha1265 rfl) ?_
                replace hm := bnd hm
                obtain ⟨a1266, ha1266, hm⟩ := hm
                refine ga_r (i := 7) (bz 9 255) rfl (by kernel_rfl) (by decide) rfl (r_aix Try.underlying28 Try.sizeOf4 rfl rfl ha1266 rfl) ?_
                replace hm := bnd hm
                obtain ⟨l1267, hl1267, hm⟩ := hm
                refine ga_sL (i := 8) (bz 9 511) rfl (by kernel_rfl) (by decide) (e_stL (tag := 100070) (f := (fun x : Bool => Value.bool x)) (v := decide (x1215.fKind = 4)) rfl rfl rfl rfl rfl Try.sizeOf4 rfl hl1267) <| gz_done (by kernel_rfl) <| d_then ?_
                refine c_flat [(0, .slice Ap0_0 p0.length cp0_0), (3, .bool x1), (4, .pointer (some ⟨g11, 0, none⟩)), (5, .pointer (some ⟨g12, 0, none⟩)), (6, .pointer (some ⟨g13, 0, none⟩)), (7, .pointer (some ⟨g14, 0, none⟩)), (8, .pointer (some ⟨g15, 0, none⟩)), (9, .int .i64 i805), (17, .pointer (some ⟨g1223, 0, none⟩)), (19, .int .i64 i1236)] ⟨rfl, rfl, rfl, rfl, rfl, rfl, rfl, rfl, rfl, rfl, trivial⟩ (fun u => ?_)
                refine c_sta ⟨w0, M, (100170, g1223, .cells #[.int .i64 x1215.fNumber, .int .i64 x1215.fKind, .int .i64 x1215.fFrom, .int .i64 x1215.fTo, .int .i64 x1215.fConn, .string x1215.fBody] 40 (0, 0)) :: (100225, g11, .cells #[.slice A1219 x1217.fitems.length c1220, .slice A803 l802.length c804, .int .i64 i810, .int .i64 i811] 61 (0, 0)) :: (100080, g15, .cells (l806.map (fun x : Int => Value.int .i64 x)).toArray 31 (0, 0)) :: (100070, g14, .cells (l1267.map (fun x : Bool => Value.bool x)).toArray 29 (0, 0)) :: (100060, g13, .cells (l808.map (fun x : ByteArray => Value.string x)).toArray 27 (0, 0)) :: (100050, g12, .cells (l809.map (fun x : ByteArray => Value.string x)).toArray 27 (0, 0)) :: H, (100220, ⟨.slice A1219 x1217.fitems.length c1220, 40, 6, x1217.fitems.length, x1217.fitems.flatMap GItem.enc⟩) :: (100221, ⟨.slice A803 l802.length c804, 63, 3, l802.length, l802.flatMap Gnet_conn.enc⟩) :: R, φ⟩ (fun _ h => h) <| c_seq <| ga_start (n := 15) ⟨w0, M, (100170, g1223, .cells #[.int .i64 x1215.fNumber, .int .i64 x1215.fKind, .int .i64 x1215.fFrom, .int .i64 x1215.fTo, .int .i64 x1215.fConn, .string x1215.fBody] 40 (0, 0)) :: (100225, g11, .cells #[.slice A1219 x1217.fitems.length c1220, .slice A803 l802.length c804, .int .i64 i810, .int .i64 i811] 61 (0, 0)) :: (100080, g15, .cells (l806.map (fun x : Int => Value.int .i64 x)).toArray 31 (0, 0)) :: (100070, g14, .cells (l1267.map (fun x : Bool => Value.bool x)).toArray 29 (0, 0)) :: (100060, g13, .cells (l808.map (fun x : ByteArray => Value.string x)).toArray 27 (0, 0)) :: (100050, g12, .cells (l809.map (fun x : ByteArray => Value.string x)).toArray 27 (0, 0)) :: H, (100220, ⟨.slice A1219 x1217.fitems.length c1220, 40, 6, x1217.fitems.length, x1217.fitems.flatMap GItem.enc⟩) :: (100221, ⟨.slice A803 l802.length c804, 63, 3, l802.length, l802.flatMap Gnet_conn.enc⟩) :: R, φ⟩ [14] #[false, false, false, false, false, false, false, false, false, false, false, false, false, false, false] (fun W h => h.phi (fun W hφ => hφ)) mixed rfl rfl <| ga_v (i := 0) (bz 15 1) rfl (by kernel_rfl) (fun _ _ _ _ h => h) rfl (r_field (n := 4) Try.underlying40 rfl Try.sizeOf3 rfl rfl) <| ga_v (i := 1) (bz 15 3) rfl (by kernel_rfl) (fun _ _ _ _ h => h) rfl (r_load (tag := 100170) rfl rfl rfl Try.isAgg3) <| ga_v (i := 2) (bz 15 7) rfl (by kernel_rfl) (fun _ _ _ _ h => h) rfl (r_move) <| ga_v (i := 3) (bz 15 15) rfl (by kernel_rfl) (fun _ _ _ _ h => h) rfl (r_field (n := 4) Try.underlying40 rfl Try.sizeOf3 rfl rfl) <| ga_v (i := 4) (bz 15 31) rfl (by kernel_rfl) (fun _ _ _ _ h => h) rfl (r_load (tag := 100170) rfl rfl rfl Try.isAgg3) <| ga_v (i := 5) (bz 15 63) rfl (by kernel_rfl) (fun _ _ _ _ h => h) rfl (r_move) ?_
                replace hm := bnd hm
                obtain ⟨a1282, ha1282, hm⟩ := hm
                refine ga_v (i := 6) (bz 15 127) rfl (by kernel_rfl) (fun _ _ _ _ h => h) rfl (r_aix Try.underlying27 Try.sizeOf26 rfl rfl ha1282 rfl) ?_
                replace hm := bnd hm
                obtain ⟨a1283, ha1283, hm⟩ := hm
                refine ga_v (i := 7) (bz 15 255) rfl (by kernel_rfl) (fun _ _ _ _ h => h) rfl (r_aix Try.underlying26 Try.sizeOf9 rfl rfl ha1283 rfl) ?_
                replace hm := bnd hm
                obtain ⟨x1284, hx1284, hm⟩ := hm
                refine ga_v (i := 8) (bz 15 511) rfl (by kernel_rfl) (fun _ _ _ _ h => h) rfl (r_ldL (tag := 100060) (f := (fun x : ByteArray => Value.string x)) rfl rfl Try.isAgg9 hx1284) <| ga_v (i := 9) (bz 15 1023) rfl (by kernel_rfl) (fun _ _ _ _ h => h) rfl (r_field (n := 5) Try.underlying40 rfl Try.sizeOf9 rfl rfl) <| ga_v (i := 10) (bz 15 2047) rfl (by kernel_rfl) (fun _ _ _ _ h => h) rfl (r_load (tag := 100170) rfl rfl rfl Try.isAgg9) ?_
                replace hm := bnd hm
                obtain ⟨s1285, hs1285, hm⟩ := hm
                refine ga_v (i := 11) (bz 15 4095) rfl (by kernel_rfl) (fun _ _ _ _ h => h) rfl (r_addT rfl rfl hs1285) ?_
                replace hm := bnd hm
                obtain ⟨a1286, ha1286, hm⟩ := hm
                refine ga_r (i := 12) (bz 15 8191) rfl (by kernel_rfl) (by decide) rfl (r_aix Try.underlying27 Try.sizeOf26 rfl rfl ha1286 rfl) ?_
                replace hm := bnd hm
                obtain ⟨a1287, ha1287, hm⟩ := hm
                refine ga_r (i := 13) (bz 15 16383) rfl (by kernel_rfl) (by decide) rfl (r_aix Try.underlying26 Try.sizeOf9 rfl rfl ha1287 rfl) ?_
                replace hm := bnd hm
                obtain ⟨l1288, hl1288, hm⟩ := hm
                refine ga_sL (i := 14) (bz 15 32767) rfl (by kernel_rfl) (by decide) (e_stL (tag := 100060) (f := (fun x : ByteArray => Value.string x)) (v := s1285) rfl rfl rfl rfl rfl Try.sizeOf9 rfl hl1288) <| gz_done (by kernel_rfl) <| d_then ?_
                refine c_flat [(0, .slice Ap0_0 p0.length cp0_0), (3, .bool x1), (4, .pointer (some ⟨g11, 0, none⟩)), (5, .pointer (some ⟨g12, 0, none⟩)), (6, .pointer (some ⟨g13, 0, none⟩)), (7, .pointer (some ⟨g14, 0, none⟩)), (8, .pointer (some ⟨g15, 0, none⟩)), (9, .int .i64 i805), (17, .pointer (some ⟨g1223, 0, none⟩)), (19, .int .i64 i1236)] ⟨rfl, rfl, rfl, rfl, rfl, rfl, rfl, rfl, rfl, rfl, trivial⟩ (fun u => ?_)
                refine c_sta ⟨w0, M, (100170, g1223, .cells #[.int .i64 x1215.fNumber, .int .i64 x1215.fKind, .int .i64 x1215.fFrom, .int .i64 x1215.fTo, .int .i64 x1215.fConn, .string x1215.fBody] 40 (0, 0)) :: (100225, g11, .cells #[.slice A1219 x1217.fitems.length c1220, .slice A803 l802.length c804, .int .i64 i810, .int .i64 i811] 61 (0, 0)) :: (100080, g15, .cells (l806.map (fun x : Int => Value.int .i64 x)).toArray 31 (0, 0)) :: (100070, g14, .cells (l1267.map (fun x : Bool => Value.bool x)).toArray 29 (0, 0)) :: (100060, g13, .cells (l1288.map (fun x : ByteArray => Value.string x)).toArray 27 (0, 0)) :: (100050, g12, .cells (l809.map (fun x : ByteArray => Value.string x)).toArray 27 (0, 0)) :: H, (100220, ⟨.slice A1219 x1217.fitems.length c1220, 40, 6, x1217.fitems.length, x1217.fitems.flatMap GItem.enc⟩) :: (100221, ⟨.slice A803 l802.length c804, 63, 3, l802.length, l802.flatMap Gnet_conn.enc⟩) :: R, φ⟩ (fun _ h => h) <| c_seq <| c_region <| g_v rfl (r_field (n := 4) Try.underlying40 rfl Try.sizeOf3 rfl rfl) <| g_v rfl (r_load (tag := 100170) rfl rfl rfl Try.isAgg3) <| g_v rfl r_move ?_
                replace hm := bnd hm
                obtain ⟨a1289, ha1289, hm⟩ := hm
                refine g_v rfl (r_aix Try.underlying27 Try.sizeOf26 rfl rfl ha1289 rfl) ?_
                replace hm := bnd hm
                obtain ⟨a1290, ha1290, hm⟩ := hm
                refine g_v rfl (r_aix Try.underlying26 Try.sizeOf9 rfl rfl ha1290 rfl) ?_
                replace hm := bnd hm
                obtain ⟨x1291, hx1291, hm⟩ := hm
                refine g_v rfl (r_ldL (tag := 100050) (f := (fun x : ByteArray => Value.string x)) rfl rfl Try.isAgg9 hx1291) <| g_v rfl r_assign <| g_nil <| d_then <| c_seq <| ga_start (n := 28) ⟨w0, M, (100170, g1223, .cells #[.int .i64 x1215.fNumber, .int .i64 x1215.fKind, .int .i64 x1215.fFrom, .int .i64 x1215.fTo, .int .i64 x1215.fConn, .string x1215.fBody] 40 (0, 0)) :: (100225, g11, .cells #[.slice A1219 x1217.fitems.length c1220, .slice A803 l802.length c804, .int .i64 i810, .int .i64 i811] 61 (0, 0)) :: (100080, g15, .cells (l806.map (fun x : Int => Value.int .i64 x)).toArray 31 (0, 0)) :: (100070, g14, .cells (l1267.map (fun x : Bool => Value.bool x)).toArray 29 (0, 0)) :: (100060, g13, .cells (l1288.map (fun x : ByteArray => Value.string x)).toArray 27 (0, 0)) :: (100050, g12, .cells (l809.map (fun x : ByteArray => Value.string x)).toArray 27 (0, 0)) :: H, (100220, ⟨.slice A1219 x1217.fitems.length c1220, 40, 6, x1217.fitems.length, x1217.fitems.flatMap GItem.enc⟩) :: (100221, ⟨.slice A803 l802.length c804, 63, 3, l802.length, l802.flatMap Gnet_conn.enc⟩) :: R, φ⟩ [] #[false, false, false, false, false, false, false, false, false, false, false, false, false, false, false, false, false, false, false, false, false, false, false, false, false, false, false, false] (fun W h => h.phi (fun W hφ => hφ)) mixed rfl rfl <| ga_v (i := 0) (bz 28 1) rfl (by kernel_rfl) (fun _ _ _ _ h => h) rfl (r_field (n := 4) Try.underlying40 rfl Try.sizeOf3 rfl rfl) <| ga_v (i := 1) (bz 28 3) rfl (by kernel_rfl) (fun _ _ _ _ h => h) rfl (r_load (tag := 100170) rfl rfl rfl Try.isAgg3) <| ga_v (i := 2) (bz 28 7) rfl (by kernel_rfl) (fun _ _ _ _ h => h) rfl (r_move) ?_
                replace hm := bnd hm
                obtain ⟨a1314, ha1314, hm⟩ := hm
                refine ga_v (i := 3) (bz 28 15) rfl (by kernel_rfl) (fun _ _ _ _ h => h) rfl (r_aix Try.underlying27 Try.sizeOf26 rfl rfl ha1314 rfl) ?_
                replace hm := bnd hm
                obtain ⟨a1315, ha1315, hm⟩ := hm
                refine ga_v (i := 4) (bz 28 31) rfl (by kernel_rfl) (fun _ _ _ _ h => h) rfl (r_aix Try.underlying26 Try.sizeOf9 rfl rfl ha1315 rfl) ?_
                replace hm := bnd hm
                obtain ⟨x1316, hx1316, hm⟩ := hm
                refine ga_v (i := 5) (bz 28 63) rfl (by kernel_rfl) (fun _ _ _ _ h => h) rfl (r_ldL (tag := 100060) (f := (fun x : ByteArray => Value.string x)) rfl rfl Try.isAgg9 hx1316) <| ga_v (i := 6) (bz 28 127) rfl (by kernel_rfl) (fun _ _ _ _ h => h) rfl (r_len Try.underlying9 rfl) <| ga_r (i := 7) (bz 28 255) rfl (by kernel_rfl) (by decide) rfl (r_move) <| ga_r (i := 8) (bz 28 511) rfl (by kernel_rfl) (by decide) rfl (r_len Try.underlying9 rfl) <| ga_r (i := 9) (bz 28 1023) rfl (by kernel_rfl) (by decide) rfl (r_gtr rfl rfl) <| ga_r (i := 10) (bz 28 2047) rfl (by kernel_rfl) (by decide) rfl (r_move) ?_
                refine ga_if (t := 134) rfl (fun h1317 => ?_) (fun h1317 => ?_)
                ·
                 replace hm := ite_t hm (of_decide_eq_true h1317)
                 refine ga_no (i := 11) (bz 28 4095) rfl (by kernel_rfl) (fun _ _ _ _ h => h) rfl rfl rfl rfl rfl h1317 <| ga_no (i := 12) (bz 28 8191) rfl (by kernel_rfl) (fun _ _ _ _ h => h) rfl rfl rfl rfl rfl h1317 <| ga_no (i := 13) (bz 28 16383) rfl (by kernel_rfl) (fun _ _ _ _ h => h) rfl rfl rfl rfl rfl h1317 <| ga_no (i := 14) (bz 28 32767) rfl (by kernel_rfl) (fun _ _ _ _ h => h) rfl rfl rfl rfl rfl h1317 <| ga_no (i := 15) (bz 28 65535) rfl (by kernel_rfl) (fun _ _ _ _ h => h) rfl rfl rfl rfl rfl h1317 <| ga_no (i := 16) (bz 28 131071) rfl (by kernel_rfl) (fun _ _ _ _ h => h) rfl rfl rfl rfl rfl h1317 <| ga_no (i := 17) (bz 28 262143) rfl (by kernel_rfl) (fun _ _ _ _ h => h) rfl rfl rfl rfl rfl h1317 <| ga_no (i := 18) (bz 28 524287) rfl (by kernel_rfl) (fun _ _ _ _ h => h) rfl rfl rfl rfl rfl h1317 <| ga_no (i := 19) (bz 28 1048575) rfl (by kernel_rfl) (fun _ _ _ _ h => h) rfl rfl rfl rfl rfl h1317 <| ga_no (i := 20) (bz 28 2097151) rfl (by kernel_rfl) (fun _ _ _ _ h => h) rfl rfl rfl rfl rfl h1317 ?_
                 refine ga_no (i := 21) (bz 28 4194303) rfl (by kernel_rfl) (fun _ _ _ _ h => h) rfl rfl rfl rfl rfl h1317 <| ga_no (i := 22) (bz 28 8388607) rfl (by kernel_rfl) (fun _ _ _ _ h => h) rfl rfl rfl rfl rfl h1317 <| ga_no (i := 23) (bz 28 16777215) rfl (by kernel_rfl) (fun _ _ _ _ h => h) rfl rfl rfl rfl rfl h1317 <| ga_no (i := 24) (bz 28 33554431) rfl (by kernel_rfl) (fun _ _ _ _ h => h) rfl rfl rfl rfl rfl h1317 <| ga_no (i := 25) (bz 28 67108863) rfl (by kernel_rfl) (fun _ _ _ _ h => h) rfl rfl rfl rfl rfl h1317 <| ga_no (i := 26) (bz 28 134217727) rfl (by kernel_rfl) (fun _ _ _ _ h => h) rfl rfl rfl rfl rfl h1317 <| ga_r (i := 27) (bz 28 268435455) rfl (by kernel_rfl) (by decide) rfl (r_pick1 rfl h1317) <| ga_done (by kernel_rfl) <| d_then ?_
                 refine c_flat [(0, .slice Ap0_0 p0.length cp0_0), (3, .bool x1), (4, .pointer (some ⟨g11, 0, none⟩)), (5, .pointer (some ⟨g12, 0, none⟩)), (6, .pointer (some ⟨g13, 0, none⟩)), (7, .pointer (some ⟨g14, 0, none⟩)), (8, .pointer (some ⟨g15, 0, none⟩)), (9, .int .i64 i805), (151, .bool true)] ⟨rfl, rfl, rfl, rfl, rfl, rfl, rfl, rfl, rfl, trivial⟩ (fun u => ?_)
                 refine c_cond1 rfl rfl <| c_seq <| c_region <| g_v rfl r_assign <| g_nil <| d_then <| c_ret <| d_ret_block <| d_ret_block <| d_ret_then ?_
                 refine d_ret_then <| d_ret_block <| d_ret_then <| d_ret_then ?_
                 replace hm := nx_out (C := (fun e : Unit ⊕ Bool => Sum.elim (fun e => m_law08_NetStreams_j1 x1) (fun x => some x) e = some r)) hm hnx2 hr2
                 replace hm : some false = some r := hm
                 replace hm := Option.some.inj hm
                 subst hm
                 refine d_retC () Try.results3 ?_ trivial (fun W h => ok_pre (H1 := [_, _, _, _, _, _]) (R1 := [_, _]) h (fun W hφ => hφ)) (.inr rfl)
                 refine res_tmp <| res_nil ?_
                 exact rfl
                ·
                 replace hm := ite_f hm (of_decide_eq_false h1317)
                 refine ga_do (i := 11) (bz 28 4095) rfl (by kernel_rfl) (fun _ _ _ _ h => h) rfl rfl rfl rfl rfl h1317 (r_move) <| ga_do (i := 12) (bz 28 8191) rfl (by kernel_rfl) (fun _ _ _ _ h => h) rfl rfl rfl rfl rfl h1317 (r_field (n := 4) Try.underlying40 rfl Try.sizeOf3 rfl rfl) <| ga_do (i := 13) (bz 28 16383) rfl (by kernel_rfl) (fun _ _ _ _ h => h) rfl rfl rfl rfl rfl h1317 (r_load (tag := 100170) rfl rfl rfl Try.isAgg3) <| ga_do (i := 14) (bz 28 32767) rfl (by kernel_rfl) (fun _ _ _ _ h => h) rfl rfl rfl rfl rfl h1317 (r_move) ?_
                 replace hm := bnd hm
                 obtain ⟨a1318, ha1318, hm⟩ := hm
                 refine ga_do (i := 15) (bz 28 65535) rfl (by kernel_rfl) (fun _ _ _ _ h => h) rfl rfl rfl rfl rfl h1317 (r_aix Try.underlying27 Try.sizeOf26 rfl rfl ha1318 rfl) ?_
                 replace hm := bnd hm
                 obtain ⟨a1319, ha1319, hm⟩ := hm
                 refine ga_do (i := 16) (bz 28 131071) rfl (by kernel_rfl) (fun _ _ _ _ h => h) rfl rfl rfl rfl rfl h1317 (r_aix Try.underlying26 Try.sizeOf9 rfl rfl ha1319 rfl) ?_
                 replace hm := bnd hm
                 obtain ⟨x1320, hx1320, hm⟩ := hm
                 refine ga_do (i := 17) (bz 28 262143) rfl (by kernel_rfl) (fun _ _ _ _ h => h) rfl rfl rfl rfl rfl h1317 (r_ldL (tag := 100060) (f := (fun x : ByteArray => Value.string x)) rfl rfl Try.isAgg9 hx1320) <| ga_do (i := 18) (bz 28 524287) rfl (by kernel_rfl) (fun _ _ _ _ h => h) rfl rfl rfl rfl rfl h1317 (r_len Try.underlying9 rfl) ?_
                 replace hm := bnd hm
                 obtain ⟨s1321, hs1321, hm⟩ := hm
                 refine ga_do (i := 19) (bz 28 1048575) rfl (by kernel_rfl) (fun _ _ _ _ h => h) rfl rfl rfl rfl rfl h1317 (r_scutHi Try.underlying9 rfl rfl hs1321) <| ga_do (i := 20) (bz 28 2097151) rfl (by kernel_rfl) (fun _ _ _ _ h => h) rfl rfl rfl rfl rfl h1317 (r_field (n := 4) Try.underlying40 rfl Try.sizeOf3 rfl rfl) <| ga_do (i := 21) (bz 28 4194303) rfl (by kernel_rfl) (fun _ _ _ _ h => h) rfl rfl rfl rfl rfl h1317 (r_load (tag := 100170) rfl rfl rfl Try.isAgg3) <| ga_do (i := 22) (bz 28 8388607) rfl (by kernel_rfl) (fun _ _ _ _ h => h) rfl rfl rfl rfl rfl h1317 (r_move) ?_
                 replace hm := bnd hm
                 obtain ⟨a1322, ha1322, hm⟩ := hm
                 refine ga_rG (i := 23) (bz 28 16777215) rfl (by kernel_rfl) (by decide) rfl rfl rfl rfl rfl h1317 (r_aix Try.underlying27 Try.sizeOf26 rfl rfl ha1322 rfl) ?_
                 replace hm := bnd hm
                 obtain ⟨a1323, ha1323, hm⟩ := hm
                 refine ga_rG (i := 24) (bz 28 33554431) rfl (by kernel_rfl) (by decide) rfl rfl rfl rfl rfl h1317 (r_aix Try.underlying26 Try.sizeOf9 rfl rfl ha1323 rfl) ?_
                 replace hm := bnd hm
                 obtain ⟨x1324, hx1324, hm⟩ := hm
                 refine ga_rG (i := 25) (bz 28 67108863) rfl (by kernel_rfl) (by decide) rfl rfl rfl rfl rfl h1317 (r_ldL (tag := 100060) (f := (fun x : ByteArray => Value.string x)) rfl rfl Try.isAgg9 hx1324) <| ga_rG (i := 26) (bz 28 134217727) rfl (by kernel_rfl) (by decide) rfl rfl rfl rfl rfl h1317 (r_neqT rfl rfl) <| ga_r (i := 27) (bz 28 268435455) rfl (by kernel_rfl) (by decide) rfl (r_pick0 rfl h1317) <| ga_done (by kernel_rfl) <| d_then ?_
                 refine c_flat [(0, .slice Ap0_0 p0.length cp0_0), (3, .bool x1), (4, .pointer (some ⟨g11, 0, none⟩)), (5, .pointer (some ⟨g12, 0, none⟩)), (6, .pointer (some ⟨g13, 0, none⟩)), (7, .pointer (some ⟨g14, 0, none⟩)), (8, .pointer (some ⟨g15, 0, none⟩)), (9, .int .i64 i805), (151, .bool (!(decide (s1321 = x1324))))] ⟨rfl, rfl, rfl, rfl, rfl, rfl, rfl, rfl, rfl, trivial⟩ (fun u => ?_)
                 refine c_cond rfl (fun h1325 => ?_) (fun h1325 => ?_)
                 ·
                  have h1325' : (decide (s1321 = x1324)) = false := by revert h1325; cases (decide (s1321 = x1324)) <;> simp
                  replace hm := ite_f hm (of_decide_eq_false h1325')
                  refine c_seq <| c_region <| g_v rfl r_assign <| g_nil <| d_then <| c_ret <| d_ret_block <| d_ret_block <| d_ret_then <| d_ret_then ?_
                  refine d_ret_block <| d_ret_then <| d_ret_then ?_
                  replace hm := nx_out (C := (fun e : Unit ⊕ Bool => Sum.elim (fun e => m_law08_NetStreams_j1 x1) (fun x => some x) e = some r)) hm hnx2 hr2
                  replace hm : some false = some r := hm
                  replace hm := Option.some.inj hm
                  subst hm
                  refine d_retC () Try.results3 ?_ trivial (fun W h => ok_pre (H1 := [_, _, _, _, _, _]) (R1 := [_, _]) h (fun W hφ => hφ)) (.inr rfl)
                  refine res_tmp <| res_nil ?_
                  exact rfl
                 ·
                  have h1325' : (decide (s1321 = x1324)) = true := by revert h1325; cases (decide (s1321 = x1324)) <;> simp
                  replace hm := ite_t hm (of_decide_eq_true h1325')
                  refine c_skip <| d_normal_block <| d_normal_block <| d_then <| c_region <| g_v rfl r_move <| g_v rfl (r_add rfl rfl rfl) <| g_v rfl r_assign <| g_nil ?_
                  obtain ⟨n1326, hn1326, hlp⟩ := nx_inl hm hnx2
                  exact d_round (n1326, x1217.fitems, l802, w64 (i805 + 1), l806, l1267, l1288, l809, i810, i811, A1219, c1220, A803, c804) ⟨hlp, hc1220, hc804⟩ hn1326 ⟨rfl, rfl, rfl, rfl, rfl, rfl, rfl, rfl, trivial⟩ (fun W h => (ok_front (t := 100080) (t' := 100080) (ok_front (t := 100070) (t' := 100070) (ok_front (t := 100060) (t' := 100060) (ok_front (t := 100050) (t' := 100050) (ok_front (t := 100225) (t' := 100225) (h.dropH (t := 100170) rfl) rfl) rfl) rfl) rfl) rfl).phi (fun W hφ => hφ))
           ·
            replace hm := ite_t hm (of_decide_eq_true h1227)
            refine g_no rfl rfl rfl rfl rfl h1227 <| g_no rfl rfl rfl rfl rfl h1227 <| g_v rfl (r_pick1 rfl h1227) <| g_nil <| d_then ?_
            refine c_flat [(0, .slice Ap0_0 p0.length cp0_0), (3, .bool x1), (4, .pointer (some ⟨g11, 0, none⟩)), (5, .pointer (some ⟨g12, 0, none⟩)), (6, .pointer (some ⟨g13, 0, none⟩)), (7, .pointer (some ⟨g14, 0, none⟩)), (8, .pointer (some ⟨g15, 0, none⟩)), (9, .int .i64 i805), (17, .pointer (some ⟨g1223, 0, none⟩)), (70, .bool true)] ⟨rfl, rfl, rfl, rfl, rfl, rfl, rfl, rfl, rfl, rfl, trivial⟩ (fun u => ?_)
            refine c_cond1 rfl rfl <| c_seq <| c_region <| g_v rfl r_assign <| g_nil <| d_then <| c_ret <| d_ret_then <| d_ret_block <| d_ret_block ?_
            refine d_ret_then <| d_ret_then <| d_ret_block <| d_ret_then <| d_ret_then ?_
            replace hm := nx_out (C := (fun e : Unit ⊕ Bool => Sum.elim (fun e => m_law08_NetStreams_j1 x1) (fun x => some x) e = some r)) hm hnx2 hr2
            replace hm : some false = some r := hm
            replace hm := Option.some.inj hm
            subst hm
            refine d_retC () Try.results3 ?_ trivial (fun W h => ok_pre (H1 := [_, _, _, _, _, _, _]) (R1 := [_, _]) h (fun W hφ => hφ)) (.inr rfl)
            refine res_tmp <| res_nil ?_
            exact rfl
         ·
          have h1224' : x1216 = false := by revert h1224; cases x1216 <;> simp
          replace hm := ite_f hm (bool_nt h1224')
          refine g_no rfl rfl rfl rfl rfl h1224 <| g_no rfl rfl rfl rfl rfl h1224 <| g_v rfl (r_pick1 rfl h1224) <| g_nil <| d_then <| c_cond1 rfl rfl <| c_exit <| d_exit_then <| d_exit_other rfl <| d_exit_block ?_
          refine d_then <| c_region <| g_v rfl r_move <| g_v rfl (r_add rfl rfl rfl) <| g_v rfl r_assign <| g_nil ?_
          obtain ⟨n1334, hn1334, hlp⟩ := nx_inl hm hnx2
          exact d_round (n1334, x1217.fitems, l802, w64 (i805 + 1), l806, l807, l808, l809, i810, i811, A1219, c1220, A803, c804) ⟨hlp, hc1220, hc804⟩ hn1334 ⟨rfl, rfl, rfl, rfl, rfl, rfl, rfl, rfl, trivial⟩ (fun W h => (ok_front (t := 100080) (t' := 100080) (ok_front (t := 100070) (t' := 100070) (ok_front (t := 100060) (t' := 100060) (ok_front (t := 100050) (t' := 100050) (ok_front (t := 100225) (t' := 100225) ((h.dropH (t := 100170) rfl).dropH (t := 100100) rfl) rfl) rfl) rfl) rfl) rfl).phi (fun W hφ => hφ))
   ·
    replace hm := ite_f hm (of_decide_eq_false h1071)
    refine c_exit <| d_exit_then <| d_exit_then <| d_exit_block ?_
    replace hm := nx_out (C := (fun e : Unit ⊕ Bool => Sum.elim (fun e => m_law08_NetStreams_j1 x1) (fun x => some x) e = some r)) hm hnx2 hr2
    exact d_round () hm Nat.zero_lt_one ⟨rfl, trivial⟩ (fun W h => (((((((h.dropR (t := 100220) rfl).dropR (t := 100221) rfl).dropH (t := 100080) rfl).dropH (t := 100070) rfl).dropH (t := 100060) rfl).dropH (t := 100050) rfl).dropH (t := 100225) rfl).phi (fun W hφ => hφ))
  ·
   replace hm := ite_f hm (of_decide_eq_false h1070)
   refine g_no rfl rfl rfl rfl rfl h1070 <| g_v rfl (r_pick0 rfl h1070) <| g_nil <| d_then <| c_cond0 rfl rfl <| c_exit <| d_exit_then <| d_exit_then <| d_exit_block ?_
   replace hm := nx_out (C := (fun e : Unit ⊕ Bool => Sum.elim (fun e => m_law08_NetStreams_j1 x1) (fun x => some x) e = some r)) hm hnx2 hr2
   exact d_round () hm Nat.zero_lt_one ⟨rfl, trivial⟩ (fun W h => (((((((h.dropR (t := 100220) rfl).dropR (t := 100221) rfl).dropH (t := 100080) rfl).dropH (t := 100070) rfl).dropH (t := 100060) rfl).dropH (t := 100050) rfl).dropH (t := 100225) rfl).phi (fun W hφ => hφ))
 ·
  unfold m_law08_NetStreams_j1 at hm
  refine d_flat [(3, .bool x1)] ⟨rfl, trivial⟩ (fun u => ?_)
  refine d_sta ⟨w0, M, H, R, φ⟩ (fun _ h => h) <| d_then <| c_seq <| c_region <| g_v rfl r_move <| g_v rfl r_assign <| g_nil <| d_then <| c_ret ?_
  replace hm := Option.some.inj hm
  subst hm
  refine d_retC () Try.results3 ?_ trivial (fun W h => ok_pre (H1 := []) (R1 := []) h (fun W hφ => hφ)) (.inr rfl)
  refine res_tmp <| res_nil ?_
  exact rfl
end Go.Proofs.Ythajfodilodhaaa
