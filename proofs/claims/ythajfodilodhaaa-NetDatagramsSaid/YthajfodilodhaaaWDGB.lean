import Derived.Test.YthajfodilodhaaaWDGA
set_option maxRecDepth 100000
set_option maxHeartbeats 4000000
set_option linter.unusedVariables false
set_option linter.unusedSimpArgs false
namespace Go.Proofs.Ythajfodilodhaaa
open Go.RowKit Go.Proofs.YthajfodilodhaaaW.PrintLast
noncomputable def m_net_Net_datagrams_j1  (l82 : List Int) : Option (List Int) :=
  some l82
noncomputable def m_net_Net_datagrams_s2 (o0 : Gnet_Net) (l100 : List Int) (i103 : Int) : Option (((List Int) × Int) ⊕ (List Int)) :=
  if i103 < (o0.fitems.length : Int) then
    (at_ o0.fitems i103).bind fun x121 =>
    if x121.fKind = 1 then
      (app 8 l100 [i103]).bind fun l128 =>
      some (.inl (l128, w64 (i103 + 1)))
    else
      some (.inl (l100, w64 (i103 + 1)))
  else
    some (.inr l100)
noncomputable def m_net_Net_datagrams (o0 : Gnet_Net) : Option (List Int) :=
  (loop (fun s => m_net_Net_datagrams_s2 o0 s.1 s.2) (([] : List Int), 0)).bind fun e => m_net_Net_datagrams_j1 e
theorem c_net_Net_datagrams {w0 : World} {M : Nat → Prop} {H : List (Nat × Nat × Obj)} {R : List (Nat × Row)} {φ : World → Prop} (go0 : Nat) (o0 : Gnet_Net) (Ao0_0 : Option Addr) (co0_0 : Nat) (hco0_0 : o0.fitems.length ≤ co0_0) (Ao0_1 : Option Addr) (co0_1 : Nat) (hco0_1 : o0.fconns.length ≤ co0_1) (r : (List Int)) (hm : m_net_Net_datagrams o0 = some r) :
    Cn Try.prog 35 #[.pointer (some ⟨go0, 0, none⟩)] ⟨w0, M, (1000, go0, .cells #[.slice Ao0_0 o0.fitems.length co0_0, .slice Ao0_1 o0.fconns.length co0_1, .int .i64 o0.flast, .int .i64 o0.fopens] 61 (0, 0)) :: H, (1000, ⟨.slice Ao0_0 o0.fitems.length co0_0, 40, 6, o0.fitems.length, o0.fitems.flatMap GItem.enc⟩) :: (1001, ⟨.slice Ao0_1 o0.fconns.length co0_1, 63, 3, o0.fconns.length, o0.fconns.flatMap Gnet_conn.enc⟩) :: R, φ⟩ (fun x : Option Addr × Nat => .slice x.1 r.length x.2) (fun x => r.length ≤ x.2) (fun x => ⟨w0, M, (1000, go0, .cells #[.slice Ao0_0 o0.fitems.length co0_0, .slice Ao0_1 o0.fconns.length co0_1, .int .i64 o0.flast, .int .i64 o0.fopens] 61 (0, 0)) :: H, (2000, ⟨.slice x.1 r.length x.2, 3, 1, r.length, r.flatMap (fun x : Int => [Value.int .i64 x])⟩) :: (1000, ⟨.slice Ao0_0 o0.fitems.length co0_0, 40, 6, o0.fitems.length, o0.fitems.flatMap GItem.enc⟩) :: (1001, ⟨.slice Ao0_1 o0.fconns.length co0_1, 63, 3, o0.fconns.length, o0.fconns.flatMap Gnet_conn.enc⟩) :: R, φ⟩) := by
 unfold m_net_Net_datagrams at hm
 refine cn_intro (fn := Try.f35) (N := 25) Try.func35 rfl Try.ntmps35 rfl <| c_seq <| c_region <| g_v rfl r_assign <| g_nil <| d_then <| c_seq <| c_region <| g_v rfl r_assign <| g_nil ?_
 refine d_then <| c_seq <| c_seq <| c_region <| g_v rfl r_move <| g_v rfl (r_nilck rfl) <| g_v rfl (r_field (n := 0) Try.underlying61 rfl Try.sizeOf52 rfl rfl) <| g_v rfl (r_load (tag := 1000) rfl rfl rfl Try.isAgg52) <| g_v rfl (r_lenL Try.underlying52 rfl) <| g_v rfl r_move ?_
 refine g_nil <| d_then <| c_sta _ (fun W h => nilR h 13 3 1) ?_
 refine c_cut (ι := (List Int) × Option Addr × Nat) [3] (fun ⟨l82, A83, c84⟩ => [(3, .slice A83 l82.length c84)]) (fun ⟨l82, A83, c84⟩ => ⟨w0, M, (1000, go0, .cells #[.slice Ao0_0 o0.fitems.length co0_0, .slice Ao0_1 o0.fconns.length co0_1, .int .i64 o0.flast, .int .i64 o0.fopens] 61 (0, 0)) :: H, (13, ⟨.slice A83 l82.length c84, 3, 1, l82.length, l82.flatMap (fun x : Int => [Value.int .i64 x])⟩) :: (1000, ⟨.slice Ao0_0 o0.fitems.length co0_0, 40, 6, o0.fitems.length, o0.fitems.flatMap GItem.enc⟩) :: (1001, ⟨.slice Ao0_1 o0.fconns.length co0_1, 63, 3, o0.fconns.length, o0.fconns.flatMap Gnet_conn.enc⟩) :: R, φ⟩) (fun ⟨l82, A83, c84⟩ => m_net_Net_datagrams_j1 l82 = some r ∧ l82.length ≤ c84) ?_ (fun ⟨l82, A83, c84⟩ u ⟨hm, hc84⟩ => ?_)
 ·
  refine c_block ?_
  replace hm := bnd hm
  obtain ⟨out2, hl2, hr2⟩ := hm
  obtain ⟨n119', hl2⟩ := loop_lp hl2
  refine c_loopU (ι := Nat × (List Int) × Int × Option Addr × Nat) [3, 9, 10, 11] (fun ⟨n119, l100, i103, A101, c102⟩ => [(3, .slice A101 l100.length c102), (11, .int .i64 i103)]) (fun ⟨n119, l100, i103, A101, c102⟩ => ⟨w0, M, (1000, go0, .cells #[.slice Ao0_0 o0.fitems.length co0_0, .slice Ao0_1 o0.fconns.length co0_1, .int .i64 o0.flast, .int .i64 o0.fopens] 61 (0, 0)) :: H, (13, ⟨.slice A101 l100.length c102, 3, 1, l100.length, l100.flatMap (fun x : Int => [Value.int .i64 x])⟩) :: (1000, ⟨.slice Ao0_0 o0.fitems.length co0_0, 40, 6, o0.fitems.length, o0.fitems.flatMap GItem.enc⟩) :: (1001, ⟨.slice Ao0_1 o0.fconns.length co0_1, 63, 3, o0.fconns.length, o0.fconns.flatMap Gnet_conn.enc⟩) :: R, φ⟩) (fun ⟨n119, l100, i103, A101, c102⟩ => Lp (fun s => m_net_Net_datagrams_s2 o0 s.1 s.2) n119 (l100, i103) out2 ∧ l100.length ≤ c102) (fun ⟨n119, l100, i103, A101, c102⟩ => n119) (n119', ([] : List Int), 0, none, 0) ⟨hl2, (Nat.le_refl 0)⟩ ⟨rfl, rfl, rfl, rfl, trivial⟩ (fun W h => h.phi (fun W hφ => hφ)) (fun ⟨n119, l100, i103, A101, c102⟩ u ⟨hlp, hc102⟩ => ?_)
  obtain ⟨o2, hm, hnx2⟩ := lp_step hlp
  clear hlp
  replace hm : m_net_Net_datagrams_s2 o0 l100 i103 = some o2 := hm
  unfold m_net_Net_datagrams_s2 at hm
  refine c_flat [(3, .slice A101 l100.length c102), (9, .slice Ao0_0 o0.fitems.length co0_0), (10, .int .i64 (o0.fitems.length : Int)), (11, .int .i64 i103)] ⟨rfl, rfl, rfl, rfl, trivial⟩ (fun u => ?_)
  refine c_sta ⟨w0, M, (1000, go0, .cells #[.slice Ao0_0 o0.fitems.length co0_0, .slice Ao0_1 o0.fconns.length co0_1, .int .i64 o0.flast, .int .i64 o0.fopens] 61 (0, 0)) :: H, (13, ⟨.slice A101 l100.length c102, 3, 1, l100.length, l100.flatMap (fun x : Int => [Value.int .i64 x])⟩) :: (1000, ⟨.slice Ao0_0 o0.fitems.length co0_0, 40, 6, o0.fitems.length, o0.fitems.flatMap GItem.enc⟩) :: (1001, ⟨.slice Ao0_1 o0.fconns.length co0_1, 63, 3, o0.fconns.length, o0.fconns.flatMap Gnet_conn.enc⟩) :: R, φ⟩ (fun _ h => h) <| c_seq <| c_region <| g_v rfl (r_lss rfl rfl) <| g_nil <| d_then <| c_seq ?_
  refine c_cond rfl (fun h120 => ?_) (fun h120 => ?_)
  ·
   replace hm := ite_t hm (of_decide_eq_true h120)
   refine c_skip <| d_then <| c_seq <| c_block <| c_seq <| c_region <| g_v rfl r_move ?_
   replace hm := bnd hm
   obtain ⟨x121, hx121, hm⟩ := hm
   refine g_know _ (fun W hS => cl_at (p := (Sta.ok ⟨w0, M, (1000, go0, .cells #[.slice Ao0_0 o0.fitems.length co0_0, .slice Ao0_1 o0.fconns.length co0_1, .int .i64 o0.flast, .int .i64 o0.fopens] 61 (0, 0)) :: H, (13, ⟨.slice A101 l100.length c102, 3, 1, l100.length, l100.flatMap (fun x : Int => [Value.int .i64 x])⟩) :: (1000, ⟨.slice Ao0_0 o0.fitems.length co0_0, 40, 6, o0.fitems.length, o0.fitems.flatMap GItem.enc⟩) :: (1001, ⟨.slice Ao0_1 o0.fconns.length co0_1, 63, 3, o0.fconns.length, o0.fconns.flatMap Gnet_conn.enc⟩) :: R, φ⟩)) (sz := 6) (fun _ => rfl) (by decide) hS (fun W hS => rowCl (S := ⟨w0, M, (1000, go0, .cells #[.slice Ao0_0 o0.fitems.length co0_0, .slice Ao0_1 o0.fconns.length co0_1, .int .i64 o0.flast, .int .i64 o0.fopens] 61 (0, 0)) :: H, (13, ⟨.slice A101 l100.length c102, 3, 1, l100.length, l100.flatMap (fun x : Int => [Value.int .i64 x])⟩) :: (1000, ⟨.slice Ao0_0 o0.fitems.length co0_0, 40, 6, o0.fitems.length, o0.fitems.flatMap GItem.enc⟩) :: (1001, ⟨.slice Ao0_1 o0.fconns.length co0_1, 63, 3, o0.fconns.length, o0.fconns.flatMap Gnet_conn.enc⟩) :: R, φ⟩) (tag := 1000) rfl W hS) hx121) ?_
   rintro ⟨ad122, hA124, f123⟩
   refine g_v rfl (r_ix Try.underlying52 Try.sizeOf40 rfl hA124 rfl hx121) <| g_v rfl (r_ldA rfl Try.isAgg40 Try.sizeOf40 (fun W hS => (f123 W hS).take 6) rfl) ?_
   refine g_e rfl (e_alloc 100050 Try.zeroValue40) (fun g125 _ => ?_)
   refine g_v rfl r_assign <| g_storeL (tag := 100050) rfl rfl rfl rfl Try.sizeOf40 rfl rfl <| g_nil <| d_then <| c_seq <| c_region <| g_v rfl (r_field (n := 1) Try.underlying40 rfl Try.sizeOf3 rfl rfl) <| g_v rfl (r_load (tag := 100050) rfl rfl rfl Try.isAgg3) <| g_v rfl (r_eql rfl rfl) <| g_nil ?_
   refine d_then ?_
   refine c_flat [(3, .slice A101 l100.length c102), (4, .int .i64 i103), (9, .slice Ao0_0 o0.fitems.length co0_0), (10, .int .i64 (o0.fitems.length : Int)), (11, .int .i64 i103), (18, .bool (decide (x121.fKind = 1)))] ⟨rfl, rfl, rfl, rfl, rfl, rfl, trivial⟩ (fun u => ?_)
   refine c_sta ⟨w0, M, (100050, g125, .cells #[.int .i64 x121.fNumber, .int .i64 x121.fKind, .int .i64 x121.fFrom, .int .i64 x121.fTo, .int .i64 x121.fConn, .string x121.fBody] 40 (0, 0)) :: (1000, go0, .cells #[.slice Ao0_0 o0.fitems.length co0_0, .slice Ao0_1 o0.fconns.length co0_1, .int .i64 o0.flast, .int .i64 o0.fopens] 61 (0, 0)) :: H, (13, ⟨.slice A101 l100.length c102, 3, 1, l100.length, l100.flatMap (fun x : Int => [Value.int .i64 x])⟩) :: (1000, ⟨.slice Ao0_0 o0.fitems.length co0_0, 40, 6, o0.fitems.length, o0.fitems.flatMap GItem.enc⟩) :: (1001, ⟨.slice Ao0_1 o0.fconns.length co0_1, 63, 3, o0.fconns.length, o0.fconns.flatMap Gnet_conn.enc⟩) :: R, φ⟩ (fun _ h => h) ?_
   refine c_cond rfl (fun h126 => ?_) (fun h126 => ?_)
   ·
    replace hm := ite_t hm (of_decide_eq_true h126)
    refine c_region <| g_v rfl r_move <| g_v rfl r_move ?_
    refine g_e rfl (e_lit (tag := 100210) (l := [i103]) (enc := (fun x : Int => [Value.int .i64 x])) (sz := 1) rfl Try.underlying78 (lit3_7 _) rfl rfl (fun _ => rfl)) (fun g127 _ => ?_)
    replace hm := bnd hm
    obtain ⟨l128, hl128, hm⟩ := hm
    refine g_e rfl (e_appR (enc := (fun x : Int => [Value.int .i64 x])) (l := l100) (l1 := [i103]) (l2 := l128) (tag := 13) Try.underlying78 inf3_8 rfl (by decide) (by decide) (fun _ => rfl) (fun _ => rfl) rfl hc102 rfl rfl (fun W hS => rowCl (tag := 100210) rfl W hS) hl128) (fun ⟨A129, c130⟩ hc130 => ?_)
    refine g_v rfl r_assign <| g_nil <| d_normal_block <| d_then <| c_region <| g_v rfl (r_add rfl rfl rfl) <| g_v rfl r_move <| g_nil ?_
    obtain ⟨n131, hn131, hlp⟩ := nx_inl hm hnx2
    exact d_round (n131, l128, w64 (i103 + 1), A129, c130) ⟨hlp, hc130⟩ hn131 ⟨rfl, rfl, rfl, rfl, trivial⟩ (fun W h => ((h.dropR (t := 100210) rfl).dropH (t := 100050) rfl).phi (fun W hφ => hφ))
   ·
    replace hm := ite_f hm (of_decide_eq_false h126)
    refine c_skip <| d_normal_block <| d_then <| c_region <| g_v rfl (r_add rfl rfl rfl) <| g_v rfl r_move <| g_nil ?_
    obtain ⟨n132, hn132, hlp⟩ := nx_inl hm hnx2
    exact d_round (n132, l100, w64 (i103 + 1), A101, c102) ⟨hlp, hc102⟩ hn132 ⟨rfl, rfl, rfl, rfl, trivial⟩ (fun W h => (h.dropH (t := 100050) rfl).phi (fun W hφ => hφ))
  ·
   replace hm := ite_f hm (of_decide_eq_false h120)
   refine c_exit <| d_exit_then <| d_exit_then <| d_exit_block ?_
   replace hm := nx_out (C := (fun e : (List Int) => m_net_Net_datagrams_j1 e = some r)) hm hnx2 hr2
   exact d_round (l100, A101, c102) ⟨hm, hc102⟩ Nat.zero_lt_one ⟨rfl, trivial⟩ (fun W h => h.phi (fun W hφ => hφ))
 ·
  unfold m_net_Net_datagrams_j1 at hm
  refine d_flat [(3, .slice A83 l82.length c84)] ⟨rfl, trivial⟩ (fun u => ?_)
  refine d_sta ⟨w0, M, (1000, go0, .cells #[.slice Ao0_0 o0.fitems.length co0_0, .slice Ao0_1 o0.fconns.length co0_1, .int .i64 o0.flast, .int .i64 o0.fopens] 61 (0, 0)) :: H, (13, ⟨.slice A83 l82.length c84, 3, 1, l82.length, l82.flatMap (fun x : Int => [Value.int .i64 x])⟩) :: (1000, ⟨.slice Ao0_0 o0.fitems.length co0_0, 40, 6, o0.fitems.length, o0.fitems.flatMap GItem.enc⟩) :: (1001, ⟨.slice Ao0_1 o0.fconns.length co0_1, 63, 3, o0.fconns.length, o0.fconns.flatMap Gnet_conn.enc⟩) :: R, φ⟩ (fun _ h => h) <| d_then <| c_seq <| c_region <| g_v rfl r_move <| g_v rfl r_assign <| g_nil <| d_then <| c_ret ?_
  replace hm := Option.some.inj hm
  subst hm
  refine d_sta _ (fun W h => ok_frontR (t := 13) (t' := 2000) h rfl) ?_
  refine d_retC (A83, c84) Try.results35 ?_ hc84 (fun W h => h.phi (fun W hφ => hφ)) (.inr rfl)
  refine res_tmp <| res_nil ?_
  exact rfl
noncomputable def m_net_Net_picked_2_j1 (x1 : List Int) (i8 : Int) : Option (Int × Bool) :=
  (dvd (x1.length : Int)).bind fun u9 =>
  (at_ x1 (i8.tmod (x1.length : Int))).bind fun x10 =>
  some (x10, true)
noncomputable def m_net_Net_picked_2 (p2 : Int) (o0 : Gnet_Net) : Option (Int × Bool) :=
  (m_net_Net_datagrams o0).bind fun x1 =>
  if (x1.length : Int) = 0 then
    some (0, false)
  else
    if p2 < 0 then
      m_net_Net_picked_2_j1 x1 (w64 (0 - w64 (p2 + 1)))
    else
      m_net_Net_picked_2_j1 x1 p2
theorem c_net_Net_picked_2 {w0 : World} {M : Nat → Prop} {H : List (Nat × Nat × Obj)} {R : List (Nat × Row)} {φ : World → Prop} (p2 : Int) (go0 : Nat) (o0 : Gnet_Net) (Ao0_0 : Option Addr) (co0_0 : Nat) (hco0_0 : o0.fitems.length ≤ co0_0) (Ao0_1 : Option Addr) (co0_1 : Nat) (hco0_1 : o0.fconns.length ≤ co0_1) (r : Int × Bool) (hm : m_net_Net_picked_2 p2 o0 = some r) :
    Cn Try.prog 34 #[.pointer (some ⟨go0, 0, none⟩), .func (.func 35) #[] #[], .int .i64 p2] ⟨w0, M, (1000, go0, .cells #[.slice Ao0_0 o0.fitems.length co0_0, .slice Ao0_1 o0.fconns.length co0_1, .int .i64 o0.flast, .int .i64 o0.fopens] 61 (0, 0)) :: H, (1000, ⟨.slice Ao0_0 o0.fitems.length co0_0, 40, 6, o0.fitems.length, o0.fitems.flatMap GItem.enc⟩) :: (1001, ⟨.slice Ao0_1 o0.fconns.length co0_1, 63, 3, o0.fconns.length, o0.fconns.flatMap Gnet_conn.enc⟩) :: R, φ⟩ (fun x : Unit => .tuple #[.int .i64 r.1, .bool r.2]) (fun x => True) (fun x => ⟨w0, M, (1000, go0, .cells #[.slice Ao0_0 o0.fitems.length co0_0, .slice Ao0_1 o0.fconns.length co0_1, .int .i64 o0.flast, .int .i64 o0.fopens] 61 (0, 0)) :: H, (1000, ⟨.slice Ao0_0 o0.fitems.length co0_0, 40, 6, o0.fitems.length, o0.fitems.flatMap GItem.enc⟩) :: (1001, ⟨.slice Ao0_1 o0.fconns.length co0_1, 63, 3, o0.fconns.length, o0.fconns.flatMap Gnet_conn.enc⟩) :: R, φ⟩) := by
 unfold m_net_Net_picked_2 at hm
 refine cn_intro (fn := Try.f34) (N := 29) Try.func34 rfl Try.ntmps34 rfl <| c_seq <| c_region <| g_v rfl r_assign <| g_v rfl r_assign <| g_nil <| d_then <| c_seq <| c_seq <| c_region ?_
 refine g_v rfl r_move <| g_v rfl (r_eqlP1 Try.underlying24 rfl rfl) <| g_nil <| d_then <| c_cond0 rfl rfl <| c_skip <| d_then <| c_seq <| c_region <| g_v rfl r_move ?_
 refine g_v rfl r_move ?_
 replace hm := bnd hm
 obtain ⟨x1, hx2, hm⟩ := hm
 refine g_cnv ⟨w0, M, (1000, go0, .cells #[.slice Ao0_0 o0.fitems.length co0_0, .slice Ao0_1 o0.fconns.length co0_1, .int .i64 o0.flast, .int .i64 o0.fopens] 61 (0, 0)) :: H, (1000, ⟨.slice Ao0_0 o0.fitems.length co0_0, 40, 6, o0.fitems.length, o0.fitems.flatMap GItem.enc⟩) :: (1001, ⟨.slice Ao0_1 o0.fconns.length co0_1, 63, 3, o0.fconns.length, o0.fconns.flatMap Gnet_conn.enc⟩) :: R, φ⟩ (fun W h => (ok_front (t := 1000) (t' := 1000) (ok_frontR (t := 1000) (t' := 1000) (ok_frontR (t := 1001) (t' := 1001) h rfl) rfl) rfl)) Try.call35 rfl rfl rfl (c_net_Net_datagrams go0 o0 Ao0_0 co0_0 hco0_0 Ao0_1 co0_1 hco0_1 _ hx2) (fun ⟨A3, c4⟩ hc4 => ?_)
 refine g_sta _ (fun W h => (ok_frontR (t := 2000) (t' := 100130) (ok_frontR (t := 1000) (t' := 1000) (ok_frontR (t := 1001) (t' := 1001) (ok_front (t := 1000) (t' := 1000) h rfl) rfl) rfl) rfl)) <| g_v rfl r_assign <| g_nil <| d_then <| c_seq <| c_seq <| c_region <| g_v rfl r_move <| g_v rfl (r_lenL Try.underlying78 rfl) <| g_v rfl (r_eql rfl rfl) ?_
 refine g_nil <| d_then ?_
 refine c_flat [(2, .int .i64 p2), (8, .slice A3 x1.length c4), (16, .bool (decide ((x1.length : Int) = 0)))] ⟨rfl, rfl, rfl, trivial⟩ (fun u => ?_)
 refine c_sta ⟨w0, M, (1000, go0, .cells #[.slice Ao0_0 o0.fitems.length co0_0, .slice Ao0_1 o0.fconns.length co0_1, .int .i64 o0.flast, .int .i64 o0.fopens] 61 (0, 0)) :: H, (100130, ⟨.slice A3 x1.length c4, 3, 1, x1.length, x1.flatMap (fun x : Int => [Value.int .i64 x])⟩) :: (1000, ⟨.slice Ao0_0 o0.fitems.length co0_0, 40, 6, o0.fitems.length, o0.fitems.flatMap GItem.enc⟩) :: (1001, ⟨.slice Ao0_1 o0.fconns.length co0_1, 63, 3, o0.fconns.length, o0.fconns.flatMap Gnet_conn.enc⟩) :: R, φ⟩ (fun _ h => h) ?_
 refine c_cond rfl (fun h6 => ?_) (fun h6 => ?_)
 ·
  replace hm := ite_t hm (of_decide_eq_true h6)
  refine c_seq <| c_region <| g_v rfl r_assign <| g_v rfl r_assign <| g_nil <| d_then <| c_ret <| d_ret_then ?_
  replace hm := Option.some.inj hm
  subst hm
  refine d_retC () Try.results34 ?_ trivial (fun W h => (h.dropR (t := 100130) rfl).phi (fun W hφ => hφ)) (.inr rfl)
  refine res_tmp <| res_tmp <| res_nil ?_
  exact rfl
 ·
  replace hm := ite_f hm (of_decide_eq_false h6)
  refine c_skip <| d_then <| c_seq ?_
  refine c_cut (ι := Int) [2, 8] (fun i8 => [(2, .int .i64 i8)]) (fun i8 => ⟨w0, M, (1000, go0, .cells #[.slice Ao0_0 o0.fitems.length co0_0, .slice Ao0_1 o0.fconns.length co0_1, .int .i64 o0.flast, .int .i64 o0.fopens] 61 (0, 0)) :: H, (100130, ⟨.slice A3 x1.length c4, 3, 1, x1.length, x1.flatMap (fun x : Int => [Value.int .i64 x])⟩) :: (1000, ⟨.slice Ao0_0 o0.fitems.length co0_0, 40, 6, o0.fitems.length, o0.fitems.flatMap GItem.enc⟩) :: (1001, ⟨.slice Ao0_1 o0.fconns.length co0_1, 63, 3, o0.fconns.length, o0.fconns.flatMap Gnet_conn.enc⟩) :: R, φ⟩) (fun i8 => m_net_Net_picked_2_j1 x1 i8 = some r) ?_ (fun i8 u hm => ?_)
  ·
   refine c_seq <| c_region <| g_v rfl r_move <| g_v rfl (r_lss rfl rfl) <| g_nil <| d_then ?_
   refine c_cond rfl (fun h14 => ?_) (fun h14 => ?_)
   ·
    replace hm := ite_t hm (of_decide_eq_true h14)
    refine c_region <| g_v rfl r_move <| g_v rfl (r_add rfl rfl rfl) <| g_v rfl (r_neg rfl rfl) <| g_v rfl r_assign <| g_nil ?_
    exact d_round (w64 (0 - w64 (p2 + 1))) hm Nat.zero_lt_one ⟨rfl, rfl, trivial⟩ (fun W h => h.phi (fun W hφ => hφ))
   ·
    replace hm := ite_f hm (of_decide_eq_false h14)
    refine c_skip ?_
    exact d_round p2 hm Nat.zero_lt_one ⟨rfl, rfl, trivial⟩ (fun W h => h.phi (fun W hφ => hφ))
  ·
   unfold m_net_Net_picked_2_j1 at hm
   refine d_flat [(2, .int .i64 i8), (8, .slice A3 x1.length c4)] ⟨rfl, rfl, trivial⟩ (fun u => ?_)
   refine d_then <| c_seq <| c_region <| g_v rfl r_move <| g_v rfl r_move <| g_v rfl r_move <| g_v rfl (r_lenL Try.underlying78 rfl) ?_
   replace hm := bnd hm
   obtain ⟨u9, hu9, hm⟩ := hm
   refine g_v rfl (r_rem rfl rfl (dvd_some hu9) rfl) ?_
   replace hm := bnd hm
   obtain ⟨x10, hx10, hm⟩ := hm
   refine g_know _ (fun W hS => cl_at (p := (Sta.ok ⟨w0, M, (1000, go0, .cells #[.slice Ao0_0 o0.fitems.length co0_0, .slice Ao0_1 o0.fconns.length co0_1, .int .i64 o0.flast, .int .i64 o0.fopens] 61 (0, 0)) :: H, (100130, ⟨.slice A3 x1.length c4, 3, 1, x1.length, x1.flatMap (fun x : Int => [Value.int .i64 x])⟩) :: (1000, ⟨.slice Ao0_0 o0.fitems.length co0_0, 40, 6, o0.fitems.length, o0.fitems.flatMap GItem.enc⟩) :: (1001, ⟨.slice Ao0_1 o0.fconns.length co0_1, 63, 3, o0.fconns.length, o0.fconns.flatMap Gnet_conn.enc⟩) :: R, φ⟩)) (sz := 1) (fun _ => rfl) (by decide) hS (fun W hS => rowCl (S := ⟨w0, M, (1000, go0, .cells #[.slice Ao0_0 o0.fitems.length co0_0, .slice Ao0_1 o0.fconns.length co0_1, .int .i64 o0.flast, .int .i64 o0.fopens] 61 (0, 0)) :: H, (100130, ⟨.slice A3 x1.length c4, 3, 1, x1.length, x1.flatMap (fun x : Int => [Value.int .i64 x])⟩) :: (1000, ⟨.slice Ao0_0 o0.fitems.length co0_0, 40, 6, o0.fitems.length, o0.fitems.flatMap GItem.enc⟩) :: (1001, ⟨.slice Ao0_1 o0.fconns.length co0_1, 63, 3, o0.fconns.length, o0.fconns.flatMap Gnet_conn.enc⟩) :: R, φ⟩) (tag := 100130) rfl W hS) hx10) ?_
   rintro ⟨ad11, hA13, f12⟩
   refine g_v rfl (r_ix Try.underlying78 Try.sizeOf3 rfl hA13 rfl hx10) <| g_v rfl (r_ld rfl Try.isAgg3 (fun W hS => Cl.head (f12 W hS))) <| g_v rfl r_assign <| g_v rfl r_assign <| g_nil <| d_then ?_
   refine c_flat [(6, .int .i64 x10), (7, .bool true)] ⟨rfl, rfl, trivial⟩ (fun u => ?_)
   refine c_ret ?_
   replace hm := Option.some.inj hm
   subst hm
   refine d_retC () Try.results34 ?_ trivial (fun W h => (h.dropR (t := 100130) rfl).phi (fun W hφ => hφ)) (.inr rfl)
   refine res_tmp <| res_tmp <| res_nil ?_
   exact rfl
noncomputable def m_net_Net_Double (p1 : Int) (o0 : Gnet_Net) : Option (Bool × Gnet_Net) :=
  (m_net_Net_picked_2 p1 o0).bind fun (z4 : Int × Bool) =>
  if z4.2 = true then
    (m_net_Net_full o0).bind fun x6 =>
    if x6 = true then
      some (false, o0)
    else
      (at_ o0.fitems z4.1).bind fun x9 =>
      (m_net_Net_add x9 o0).bind fun x13 =>
      some (true, (⟨x13.fitems, o0.fconns, x13.flast, o0.fopens⟩ : Gnet_Net))
  else
    some (false, o0)
theorem c_net_Net_Double {w0 : World} {M : Nat → Prop} {H : List (Nat × Nat × Obj)} {R : List (Nat × Row)} {φ : World → Prop} (p1 : Int) (go0 : Nat) (o0 : Gnet_Net) (Ao0_0 : Option Addr) (co0_0 : Nat) (hco0_0 : o0.fitems.length ≤ co0_0) (Ao0_1 : Option Addr) (co0_1 : Nat) (hco0_1 : o0.fconns.length ≤ co0_1) (r : Bool × Gnet_Net) (hm : m_net_Net_Double p1 o0 = some r) :
    Cn Try.prog 16 #[.pointer (some ⟨go0, 0, none⟩), .int .i64 p1] ⟨w0, M, (1000, go0, .cells #[.slice Ao0_0 o0.fitems.length co0_0, .slice Ao0_1 o0.fconns.length co0_1, .int .i64 o0.flast, .int .i64 o0.fopens] 61 (0, 0)) :: H, (1000, ⟨.slice Ao0_0 o0.fitems.length co0_0, 40, 6, o0.fitems.length, o0.fitems.flatMap GItem.enc⟩) :: (1001, ⟨.slice Ao0_1 o0.fconns.length co0_1, 63, 3, o0.fconns.length, o0.fconns.flatMap Gnet_conn.enc⟩) :: R, φ⟩ (fun x : Option Addr × Nat => .bool r.1) (fun x => r.2.fitems.length ≤ x.2) (fun x => ⟨w0, M, (1000, go0, .cells #[.slice x.1 r.2.fitems.length x.2, .slice Ao0_1 o0.fconns.length co0_1, .int .i64 r.2.flast, .int .i64 o0.fopens] 61 (0, 0)) :: H, (2000, ⟨.slice x.1 r.2.fitems.length x.2, 40, 6, r.2.fitems.length, r.2.fitems.flatMap GItem.enc⟩) :: (1001, ⟨.slice Ao0_1 o0.fconns.length co0_1, 63, 3, o0.fconns.length, o0.fconns.flatMap Gnet_conn.enc⟩) :: R, φ⟩) := by
 unfold m_net_Net_Double at hm
 refine cn_intro (fn := Try.f16) (N := 28) Try.func16 rfl Try.ntmps16 rfl <| c_seq <| c_region <| g_v rfl r_assign <| g_nil <| d_then <| c_seq <| c_region <| g_v rfl r_move <| g_v rfl r_move ?_
 replace hm := bnd hm
 obtain ⟨⟨x1, x2⟩, hx3, hm⟩ := hm
 refine g_cn ⟨w0, M, (1000, go0, .cells #[.slice Ao0_0 o0.fitems.length co0_0, .slice Ao0_1 o0.fconns.length co0_1, .int .i64 o0.flast, .int .i64 o0.fopens] 61 (0, 0)) :: H, (1000, ⟨.slice Ao0_0 o0.fitems.length co0_0, 40, 6, o0.fitems.length, o0.fitems.flatMap GItem.enc⟩) :: (1001, ⟨.slice Ao0_1 o0.fconns.length co0_1, 63, 3, o0.fconns.length, o0.fconns.flatMap Gnet_conn.enc⟩) :: R, φ⟩ (fun W h => (ok_front (t := 1000) (t' := 1000) (ok_frontR (t := 1000) (t' := 1000) (ok_frontR (t := 1001) (t' := 1001) h rfl) rfl) rfl)) Try.call34 rfl rfl (c_net_Net_picked_2 p1 go0 o0 Ao0_0 co0_0 hco0_0 Ao0_1 co0_1 hco0_1 _ hx3) (fun _ _ => ?_)
 refine g_sta _ (fun W h => (ok_frontR (t := 1000) (t' := 1000) (ok_frontR (t := 1001) (t' := 1001) (ok_front (t := 1000) (t' := 1000) h rfl) rfl) rfl)) <| g_v rfl r_move <| g_v rfl (r_extract rfl rfl) <| g_v rfl (r_extract rfl rfl) <| g_v rfl r_assign <| g_v rfl r_assign <| g_nil <| d_then ?_
 refine c_flat [(0, .pointer (some ⟨go0, 0, none⟩)), (5, .int .i64 x1), (6, .bool x2)] ⟨rfl, rfl, rfl, trivial⟩ (fun u => ?_)
 refine c_sta ⟨w0, M, (1000, go0, .cells #[.slice Ao0_0 o0.fitems.length co0_0, .slice Ao0_1 o0.fconns.length co0_1, .int .i64 o0.flast, .int .i64 o0.fopens] 61 (0, 0)) :: H, (1000, ⟨.slice Ao0_0 o0.fitems.length co0_0, 40, 6, o0.fitems.length, o0.fitems.flatMap GItem.enc⟩) :: (1001, ⟨.slice Ao0_1 o0.fconns.length co0_1, 63, 3, o0.fconns.length, o0.fconns.flatMap Gnet_conn.enc⟩) :: R, φ⟩ (fun _ h => h) <| c_seq <| c_seq <| c_region <| g_v rfl r_move <| g_v rfl (r_not rfl) <| g_v rfl r_move ?_
 refine g_if rfl rfl rfl rfl rfl (fun h5 => ?_) (fun h5 => ?_)
 ·
  have h5' : x2 = true := by revert h5; cases x2 <;> simp
  replace hm := ite_t hm h5'
  refine g_v rfl r_move <| g_do rfl rfl rfl rfl rfl h5 ?_
  replace hm := bnd hm
  obtain ⟨x6, hx7, hm⟩ := hm
  refine g_cn ⟨w0, M, (1000, go0, .cells #[.slice Ao0_0 o0.fitems.length co0_0, .slice Ao0_1 o0.fconns.length co0_1, .int .i64 o0.flast, .int .i64 o0.fopens] 61 (0, 0)) :: H, (1000, ⟨.slice Ao0_0 o0.fitems.length co0_0, 40, 6, o0.fitems.length, o0.fitems.flatMap GItem.enc⟩) :: (1001, ⟨.slice Ao0_1 o0.fconns.length co0_1, 63, 3, o0.fconns.length, o0.fconns.flatMap Gnet_conn.enc⟩) :: R, φ⟩ (fun W h => (ok_front (t := 1000) (t' := 1000) (ok_frontR (t := 1000) (t' := 1000) (ok_frontR (t := 1001) (t' := 1001) h rfl) rfl) rfl)) Try.call27 rfl rfl (c_net_Net_full go0 o0 Ao0_0 co0_0 hco0_0 Ao0_1 co0_1 hco0_1 _ hx7) (fun _ _ => ?_)
  refine g_sta _ (fun W h => (ok_frontR (t := 1000) (t' := 1000) (ok_frontR (t := 1001) (t' := 1001) (ok_front (t := 1000) (t' := 1000) h rfl) rfl) rfl)) <| g_v rfl (r_pick0 rfl h5) <| g_nil <| d_then ?_
  refine c_cond rfl (fun h8 => ?_) (fun h8 => ?_)
  ·
   replace hm := ite_t hm h8
   refine c_seq <| c_region <| g_v rfl r_assign <| g_nil <| d_then <| c_ret <| d_ret_then ?_
   replace hm := Option.some.inj hm
   subst hm
   refine d_sta _ (fun W h => ok_frontR (t := 1000) (t' := 2000) h rfl) ?_
   refine d_retC (Ao0_0, co0_0) Try.results16 ?_ hco0_0 (fun W h => h.phi (fun W hφ => hφ)) (.inr rfl)
   refine res_tmp <| res_nil ?_
   exact rfl
  ·
   replace hm := ite_f hm (bool_nt h8)
   refine c_skip <| d_then <| c_seq <| c_region <| g_v rfl r_move <| g_v rfl r_move <| g_v rfl (r_nilck rfl) <| g_v rfl (r_field (n := 0) Try.underlying61 rfl Try.sizeOf52 rfl rfl) <| g_v rfl (r_load (tag := 1000) rfl rfl rfl Try.isAgg52) <| g_v rfl r_move ?_
   replace hm := bnd hm
   obtain ⟨x9, hx9, hm⟩ := hm
   refine g_know _ (fun W hS => cl_at (p := (Sta.ok ⟨w0, M, (1000, go0, .cells #[.slice Ao0_0 o0.fitems.length co0_0, .slice Ao0_1 o0.fconns.length co0_1, .int .i64 o0.flast, .int .i64 o0.fopens] 61 (0, 0)) :: H, (1000, ⟨.slice Ao0_0 o0.fitems.length co0_0, 40, 6, o0.fitems.length, o0.fitems.flatMap GItem.enc⟩) :: (1001, ⟨.slice Ao0_1 o0.fconns.length co0_1, 63, 3, o0.fconns.length, o0.fconns.flatMap Gnet_conn.enc⟩) :: R, φ⟩)) (sz := 6) (fun _ => rfl) (by decide) hS (fun W hS => rowCl (S := ⟨w0, M, (1000, go0, .cells #[.slice Ao0_0 o0.fitems.length co0_0, .slice Ao0_1 o0.fconns.length co0_1, .int .i64 o0.flast, .int .i64 o0.fopens] 61 (0, 0)) :: H, (1000, ⟨.slice Ao0_0 o0.fitems.length co0_0, 40, 6, o0.fitems.length, o0.fitems.flatMap GItem.enc⟩) :: (1001, ⟨.slice Ao0_1 o0.fconns.length co0_1, 63, 3, o0.fconns.length, o0.fconns.flatMap Gnet_conn.enc⟩) :: R, φ⟩) (tag := 1000) rfl W hS) hx9) ?_
   rintro ⟨ad10, hA12, f11⟩
   refine g_v rfl (r_ix Try.underlying52 Try.sizeOf40 rfl hA12 rfl hx9) <| g_v rfl (r_ldA rfl Try.isAgg40 Try.sizeOf40 (fun W hS => (f11 W hS).take 6) rfl) ?_
   replace hm := bnd hm
   obtain ⟨x13, hx14, hm⟩ := hm
   refine g_cn ⟨w0, M, (1000, go0, .cells #[.slice Ao0_0 o0.fitems.length co0_0, .slice Ao0_1 o0.fconns.length co0_1, .int .i64 o0.flast, .int .i64 o0.fopens] 61 (0, 0)) :: H, (1000, ⟨.slice Ao0_0 o0.fitems.length co0_0, 40, 6, o0.fitems.length, o0.fitems.flatMap GItem.enc⟩) :: (1001, ⟨.slice Ao0_1 o0.fconns.length co0_1, 63, 3, o0.fconns.length, o0.fconns.flatMap Gnet_conn.enc⟩) :: R, φ⟩ (fun W h => (ok_front (t := 1000) (t' := 1000) (ok_frontR (t := 1000) (t' := 1000) (ok_frontR (t := 1001) (t' := 1001) h rfl) rfl) rfl)) Try.call28 rfl rfl (c_net_Net_add x9 go0 o0 Ao0_0 co0_0 hco0_0 Ao0_1 co0_1 hco0_1 _ hx14) (fun ⟨A15, c16⟩ hc16 => ?_)
   refine g_sta _ (fun W h => (ok_frontR (t := 2000) (t' := 1000) (ok_frontR (t := 1001) (t' := 1001) (ok_front (t := 1000) (t' := 1000) h rfl) rfl) rfl)) <| g_nil <| d_then ?_
   refine c_flat [] trivial (fun u => ?_)
   refine c_sta ⟨w0, M, (1000, go0, .cells #[.slice A15 x13.fitems.length c16, .slice Ao0_1 o0.fconns.length co0_1, .int .i64 x13.flast, .int .i64 o0.fopens] 61 (0, 0)) :: H, (1000, ⟨.slice A15 x13.fitems.length c16, 40, 6, x13.fitems.length, x13.fitems.flatMap GItem.enc⟩) :: (1001, ⟨.slice Ao0_1 o0.fconns.length co0_1, 63, 3, o0.fconns.length, o0.fconns.flatMap Gnet_conn.enc⟩) :: R, φ⟩ (fun _ h => h) <| c_seq <| c_region <| g_v rfl r_assign <| g_nil <| d_then <| c_ret ?_
   replace hm := Option.some.inj hm
   subst hm
   refine d_sta _ (fun W h => ok_frontR (t := 1000) (t' := 2000) h rfl) ?_
   refine d_retC (A15, c16) Try.results16 ?_ hc16 (fun W h => h.phi (fun W hφ => hφ)) (.inr rfl)
   refine res_tmp <| res_nil ?_
   exact rfl
 ·
  have h5' : x2 = false := by revert h5; cases x2 <;> simp
  replace hm := ite_f hm (bool_nt h5')
  refine g_no rfl rfl rfl rfl rfl h5 <| g_v rfl (r_pick1 rfl h5) <| g_nil <| d_then <| c_cond1 rfl rfl <| c_seq <| c_region <| g_v rfl r_assign <| g_nil <| d_then ?_
  refine c_ret <| d_ret_then ?_
  replace hm := Option.some.inj hm
  subst hm
  refine d_sta _ (fun W h => ok_frontR (t := 1000) (t' := 2000) h rfl) ?_
  refine d_retC (Ao0_0, co0_0) Try.results16 ?_ hco0_0 (fun W h => h.phi (fun W hφ => hφ)) (.inr rfl)
  refine res_tmp <| res_nil ?_
  exact rfl
noncomputable def m_net_Net_Drop_j1 (x2 : Bool) (o0 : Gnet_Net) (l11 : List GItem) : Option (Bool × Gnet_Net) :=
  some (x2, (⟨l11, o0.fconns, o0.flast, o0.fopens⟩ : Gnet_Net))
noncomputable def m_net_Net_Drop (p1 : Int) (o0 : Gnet_Net) : Option (Bool × Gnet_Net) :=
  (m_net_Net_picked_2 p1 o0).bind fun (z4 : Int × Bool) =>
  if z4.2 = true then
    (m_slices_Delete_37 o0.fitems z4.1 (w64 (z4.1 + 1))).bind fun x15 =>
    m_net_Net_Drop_j1 z4.2 o0 x15
  else
    m_net_Net_Drop_j1 z4.2 o0 o0.fitems
theorem c_net_Net_Drop {w0 : World} {M : Nat → Prop} {H : List (Nat × Nat × Obj)} {R : List (Nat × Row)} {φ : World → Prop} (p1 : Int) (go0 : Nat) (o0 : Gnet_Net) (Ao0_0 : Option Addr) (co0_0 : Nat) (hco0_0 : o0.fitems.length ≤ co0_0) (Ao0_1 : Option Addr) (co0_1 : Nat) (hco0_1 : o0.fconns.length ≤ co0_1) (r : Bool × Gnet_Net) (hm : m_net_Net_Drop p1 o0 = some r) :
    Cn Try.prog 20 #[.pointer (some ⟨go0, 0, none⟩), .int .i64 p1] ⟨w0, M, (1000, go0, .cells #[.slice Ao0_0 o0.fitems.length co0_0, .slice Ao0_1 o0.fconns.length co0_1, .int .i64 o0.flast, .int .i64 o0.fopens] 61 (0, 0)) :: H, (1000, ⟨.slice Ao0_0 o0.fitems.length co0_0, 40, 6, o0.fitems.length, o0.fitems.flatMap GItem.enc⟩) :: (1001, ⟨.slice Ao0_1 o0.fconns.length co0_1, 63, 3, o0.fconns.length, o0.fconns.flatMap Gnet_conn.enc⟩) :: R, φ⟩ (fun x : Option Addr × Nat => .bool r.1) (fun x => r.2.fitems.length ≤ x.2) (fun x => ⟨w0, M, (1000, go0, .cells #[.slice x.1 r.2.fitems.length x.2, .slice Ao0_1 o0.fconns.length co0_1, .int .i64 o0.flast, .int .i64 o0.fopens] 61 (0, 0)) :: H, (2000, ⟨.slice x.1 r.2.fitems.length x.2, 40, 6, r.2.fitems.length, r.2.fitems.flatMap GItem.enc⟩) :: (1001, ⟨.slice Ao0_1 o0.fconns.length co0_1, 63, 3, o0.fconns.length, o0.fconns.flatMap Gnet_conn.enc⟩) :: R, φ⟩) := by
 unfold m_net_Net_Drop at hm
 refine cn_intro (fn := Try.f20) (N := 26) Try.func20 rfl Try.ntmps20 rfl <| c_seq <| c_region <| g_v rfl r_assign <| g_nil <| d_then <| c_seq <| c_region <| g_v rfl r_move <| g_v rfl r_move ?_
 replace hm := bnd hm
 obtain ⟨⟨x1, x2⟩, hx3, hm⟩ := hm
 refine g_cn ⟨w0, M, (1000, go0, .cells #[.slice Ao0_0 o0.fitems.length co0_0, .slice Ao0_1 o0.fconns.length co0_1, .int .i64 o0.flast, .int .i64 o0.fopens] 61 (0, 0)) :: H, (1000, ⟨.slice Ao0_0 o0.fitems.length co0_0, 40, 6, o0.fitems.length, o0.fitems.flatMap GItem.enc⟩) :: (1001, ⟨.slice Ao0_1 o0.fconns.length co0_1, 63, 3, o0.fconns.length, o0.fconns.flatMap Gnet_conn.enc⟩) :: R, φ⟩ (fun W h => (ok_front (t := 1000) (t' := 1000) (ok_frontR (t := 1000) (t' := 1000) (ok_frontR (t := 1001) (t' := 1001) h rfl) rfl) rfl)) Try.call34 rfl rfl (c_net_Net_picked_2 p1 go0 o0 Ao0_0 co0_0 hco0_0 Ao0_1 co0_1 hco0_1 _ hx3) (fun _ _ => ?_)
 refine g_sta _ (fun W h => (ok_frontR (t := 1000) (t' := 1000) (ok_frontR (t := 1001) (t' := 1001) (ok_front (t := 1000) (t' := 1000) h rfl) rfl) rfl)) <| g_v rfl r_move <| g_v rfl (r_extract rfl rfl) <| g_v rfl (r_extract rfl rfl) <| g_v rfl r_assign <| g_v rfl r_assign <| g_nil <| d_then ?_
 refine c_flat [(0, .pointer (some ⟨go0, 0, none⟩)), (5, .int .i64 x1), (6, .bool x2)] ⟨rfl, rfl, rfl, trivial⟩ (fun u => ?_)
 refine c_sta ⟨w0, M, (1000, go0, .cells #[.slice Ao0_0 o0.fitems.length co0_0, .slice Ao0_1 o0.fconns.length co0_1, .int .i64 o0.flast, .int .i64 o0.fopens] 61 (0, 0)) :: H, (1000, ⟨.slice Ao0_0 o0.fitems.length co0_0, 40, 6, o0.fitems.length, o0.fitems.flatMap GItem.enc⟩) :: (1001, ⟨.slice Ao0_1 o0.fconns.length co0_1, 63, 3, o0.fconns.length, o0.fconns.flatMap Gnet_conn.enc⟩) :: R, φ⟩ (fun _ h => h) <| c_seq ?_
 refine c_cut (ι := (List GItem) × Option Addr × Nat) [6] (fun ⟨l11, A12, c13⟩ => []) (fun ⟨l11, A12, c13⟩ => ⟨w0, M, (1000, go0, .cells #[.slice A12 l11.length c13, .slice Ao0_1 o0.fconns.length co0_1, .int .i64 o0.flast, .int .i64 o0.fopens] 61 (0, 0)) :: H, (1000, ⟨.slice A12 l11.length c13, 40, 6, l11.length, l11.flatMap GItem.enc⟩) :: (1001, ⟨.slice Ao0_1 o0.fconns.length co0_1, 63, 3, o0.fconns.length, o0.fconns.flatMap Gnet_conn.enc⟩) :: R, φ⟩) (fun ⟨l11, A12, c13⟩ => m_net_Net_Drop_j1 x2 o0 l11 = some r ∧ l11.length ≤ c13) ?_ (fun ⟨l11, A12, c13⟩ u ⟨hm, hc13⟩ => ?_)
 ·
  refine c_seq <| c_region <| g_v rfl r_move <| g_nil <| d_then ?_
  refine c_cond rfl (fun h14 => ?_) (fun h14 => ?_)
  ·
   replace hm := ite_t hm h14
   refine c_region <| g_v rfl r_move <| g_v rfl r_move <| g_v rfl (r_nilck rfl) <| g_v rfl (r_field (n := 0) Try.underlying61 rfl Try.sizeOf52 rfl rfl) <| g_v rfl (r_load (tag := 1000) rfl rfl rfl Try.isAgg52) <| g_v rfl r_move <| g_v rfl r_move <| g_v rfl (r_add rfl rfl rfl) ?_
   replace hm := bnd hm
   obtain ⟨x15, hx16, hm⟩ := hm
   refine g_cn ⟨w0, M, (1000, go0, .cells #[.slice Ao0_0 o0.fitems.length co0_0, .slice Ao0_1 o0.fconns.length co0_1, .int .i64 o0.flast, .int .i64 o0.fopens] 61 (0, 0)) :: H, (1000, ⟨.slice Ao0_0 o0.fitems.length co0_0, 40, 6, o0.fitems.length, o0.fitems.flatMap GItem.enc⟩) :: (1001, ⟨.slice Ao0_1 o0.fconns.length co0_1, 63, 3, o0.fconns.length, o0.fconns.flatMap Gnet_conn.enc⟩) :: R, φ⟩ (fun W h => (ok_frontR (t := 1000) (t' := 1000) h rfl)) Try.call37 rfl rfl (c_slices_Delete_37 o0.fitems Ao0_0 co0_0 hco0_0 x1 (w64 (x1 + 1)) _ hx16) (fun ⟨A17, c18⟩ hc18 => ?_)
   refine g_sta _ (fun W h => (ok_frontR (t := 2000) (t' := 1000) h rfl)) <| g_v rfl (r_nilck rfl) <| g_v rfl (r_field (n := 0) Try.underlying61 rfl Try.sizeOf52 rfl rfl) <| g_storeL (tag := 1000) rfl rfl rfl rfl Try.sizeOf52 rfl rfl <| g_nil ?_
   exact d_round (x15, A17, c18) ⟨hm, hc18⟩ Nat.zero_lt_one ⟨rfl, trivial⟩ (fun W h => h.phi (fun W hφ => hφ))
  ·
   replace hm := ite_f hm (bool_nt h14)
   refine c_skip ?_
   exact d_round (o0.fitems, Ao0_0, co0_0) ⟨hm, hco0_0⟩ Nat.zero_lt_one ⟨rfl, trivial⟩ (fun W h => h.phi (fun W hφ => hφ))
 ·
  unfold m_net_Net_Drop_j1 at hm
  refine d_flat [(6, .bool x2)] ⟨rfl, trivial⟩ (fun u => ?_)
  refine d_sta ⟨w0, M, (1000, go0, .cells #[.slice A12 l11.length c13, .slice Ao0_1 o0.fconns.length co0_1, .int .i64 o0.flast, .int .i64 o0.fopens] 61 (0, 0)) :: H, (1000, ⟨.slice A12 l11.length c13, 40, 6, l11.length, l11.flatMap GItem.enc⟩) :: (1001, ⟨.slice Ao0_1 o0.fconns.length co0_1, 63, 3, o0.fconns.length, o0.fconns.flatMap Gnet_conn.enc⟩) :: R, φ⟩ (fun _ h => h) <| d_then <| c_seq <| c_region <| g_v rfl r_move <| g_v rfl r_assign <| g_nil <| d_then <| c_ret ?_
  replace hm := Option.some.inj hm
  subst hm
  refine d_sta _ (fun W h => ok_frontR (t := 1000) (t' := 2000) h rfl) ?_
  refine d_retC (A12, c13) Try.results20 ?_ hc13 (fun W h => h.phi (fun W hφ => hφ)) (.inr rfl)
  refine res_tmp <| res_nil ?_
  exact rfl
noncomputable def m_net_Net_Waits (o0 : Gnet_Net) : Option Int :=
  some (o0.fitems.length : Int)
theorem c_net_Net_Waits {w0 : World} {M : Nat → Prop} {H : List (Nat × Nat × Obj)} {R : List (Nat × Row)} {φ : World → Prop} (go0 : Nat) (o0 : Gnet_Net) (Ao0_0 : Option Addr) (co0_0 : Nat) (hco0_0 : o0.fitems.length ≤ co0_0) (Ao0_1 : Option Addr) (co0_1 : Nat) (hco0_1 : o0.fconns.length ≤ co0_1) (r : Int) (hm : m_net_Net_Waits o0 = some r) :
    Cn Try.prog 18 #[.pointer (some ⟨go0, 0, none⟩)] ⟨w0, M, (1000, go0, .cells #[.slice Ao0_0 o0.fitems.length co0_0, .slice Ao0_1 o0.fconns.length co0_1, .int .i64 o0.flast, .int .i64 o0.fopens] 61 (0, 0)) :: H, (1000, ⟨.slice Ao0_0 o0.fitems.length co0_0, 40, 6, o0.fitems.length, o0.fitems.flatMap GItem.enc⟩) :: (1001, ⟨.slice Ao0_1 o0.fconns.length co0_1, 63, 3, o0.fconns.length, o0.fconns.flatMap Gnet_conn.enc⟩) :: R, φ⟩ (fun x : Unit => .int .i64 r) (fun x => True) (fun x => ⟨w0, M, (1000, go0, .cells #[.slice Ao0_0 o0.fitems.length co0_0, .slice Ao0_1 o0.fconns.length co0_1, .int .i64 o0.flast, .int .i64 o0.fopens] 61 (0, 0)) :: H, (1000, ⟨.slice Ao0_0 o0.fitems.length co0_0, 40, 6, o0.fitems.length, o0.fitems.flatMap GItem.enc⟩) :: (1001, ⟨.slice Ao0_1 o0.fconns.length co0_1, 63, 3, o0.fconns.length, o0.fconns.flatMap Gnet_conn.enc⟩) :: R, φ⟩) := by
 unfold m_net_Net_Waits at hm
 refine cn_intro (fn := Try.f18) (N := 10) Try.func18 rfl Try.ntmps18 rfl <| c_seq <| c_region <| g_v rfl r_assign <| g_nil <| d_then <| c_seq <| c_seq <| c_region <| g_v rfl r_move ?_
 refine g_v rfl (r_eqlP1 Try.underlying24 rfl rfl) <| g_nil <| d_then <| c_cond0 rfl rfl <| c_skip <| d_then <| c_seq <| c_region <| g_v rfl r_move <| g_v rfl (r_nilck rfl) ?_
 refine g_v rfl (r_field (n := 0) Try.underlying61 rfl Try.sizeOf52 rfl rfl) <| g_v rfl (r_load (tag := 1000) rfl rfl rfl Try.isAgg52) <| g_v rfl (r_lenL Try.underlying52 rfl) <| g_v rfl r_assign <| g_nil <| d_then ?_
 refine c_flat [(2, .int .i64 (o0.fitems.length : Int))] ⟨rfl, trivial⟩ (fun u => ?_)
 refine c_sta ⟨w0, M, (1000, go0, .cells #[.slice Ao0_0 o0.fitems.length co0_0, .slice Ao0_1 o0.fconns.length co0_1, .int .i64 o0.flast, .int .i64 o0.fopens] 61 (0, 0)) :: H, (1000, ⟨.slice Ao0_0 o0.fitems.length co0_0, 40, 6, o0.fitems.length, o0.fitems.flatMap GItem.enc⟩) :: (1001, ⟨.slice Ao0_1 o0.fconns.length co0_1, 63, 3, o0.fconns.length, o0.fconns.flatMap Gnet_conn.enc⟩) :: R, φ⟩ (fun _ h => h) <| c_ret ?_
 replace hm := Option.some.inj hm
 subst hm
 refine d_retC () Try.results18 ?_ trivial (fun W h => h.phi (fun W hφ => hφ)) (.inr rfl)
 refine res_tmp <| res_nil ?_
 exact rfl
noncomputable def m_law08_NetDatagrams_j4 (x1 : Bool) (i304 : Int) (i62 : Int) (i245 : Int) (i244 : Int) (l301 : List GItem) (x3 : Gnet_Net) (i248 : Int) : Option Bool :=
  if x1 = true then
    if i304 = w64 ((w64 (i62 + i245)) - i244) then
      (m_net_Net_Waits (⟨l301, x3.fconns, i248, x3.fopens⟩ : Gnet_Net)).bind fun x334 =>
      some (decide (x334 = 0))
    else
      some false
  else
    some false
noncomputable def m_law08_NetDatagrams_s5 (i62 : Int) (l305 : List Int) (l63 : List Int) (i245 : Int) (i345 : Int) : Option (Int ⊕ (Unit ⊕ Bool)) :=
  if i345 ≤ i62 then
    (aix 41 i345).bind fun a371 =>
    (l305[(0 + a371 * 1)]?).bind fun x372 =>
    (aix 41 i345).bind fun a373 =>
    (l63[(0 + a373 * 1)]?).bind fun x374 =>
    if w64 (x374 + i245) < x372 then
      some (.inr (.inr false))
    else
      some (.inl (w64 (i345 + 1)))
  else
    some (.inr (.inl ()))
noncomputable def m_law08_NetDatagrams_j3 (i62 : Int) (l63 : List Int) (i245 : Int) (x1 : Bool) (i244 : Int) (x3 : Gnet_Net) (i248 : Int) (l301 : List GItem) (i304 : Int) (l305 : List Int) : Option Bool :=
  (loop (fun s => m_law08_NetDatagrams_s5 i62 l305 l63 i245 s) 1).bind fun e => Sum.elim (fun e => m_law08_NetDatagrams_j4 x1 i304 i62 i245 i244 l301 x3 i248) (fun x => some x) e
noncomputable def m_law08_NetDatagrams_s6 (x3 : Gnet_Net) (i248 : Int) (i62 : Int) (l399 : List GItem) (i402 : Int) (i403 : Int) (l404 : List Int) : Option (((List GItem) × Int × Int × (List Int)) ⊕ (((List GItem) × Int × (List Int)) ⊕ Bool)) :=
  if i403 < 2000 then
    (m_net_Net_Take i403 (⟨l399, x3.fconns, i248, x3.fopens⟩ : Gnet_Net)).bind fun (z437 : GItem × Bool × Gnet_Net) =>
    if z437.2.1 = true then
      if z437.1.fFrom < 1 then
        some (.inr (.inr false))
      else
        if i62 < z437.1.fFrom then
          some (.inr (.inr false))
        else
          (aix 41 z437.1.fFrom).bind fun a442 =>
          (l404[(0 + a442 * 1)]?).bind fun x443 =>
          (aix 41 z437.1.fFrom).bind fun a444 =>
          (setN l404 (0 + a444 * 1) (w64 (x443 + 1))).bind fun l445 =>
          some (.inl (z437.2.2.fitems, w64 (i402 + 1), w64 (i403 + 1), l445))
    else
      some (.inr (.inl (z437.2.2.fitems, i402, l404)))
  else
    some (.inr (.inl (l399, i402, l404)))
noncomputable def m_law08_NetDatagrams_j2 (x3 : Gnet_Net) (i62 : Int) (l63 : List Int) (x1 : Bool) (l241 : List GItem) (i244 : Int) (i245 : Int) (i246 : Int) (l247 : List Int) (i248 : Int) : Option Bool :=
  (loop (fun s => m_law08_NetDatagrams_s6 x3 i248 i62 s.1 s.2.1 s.2.2.1 s.2.2.2) (l241, i246, 0, l247)).bind fun e => Sum.elim (fun e => m_law08_NetDatagrams_j3 i62 l63 i245 x1 i244 x3 i248 e.1 e.2.1 e.2.2) (fun x => some x) e
noncomputable def m_law08_NetDatagrams_s7 (p1 : List Glaw08_Op) (x3 : Gnet_Net) (i62 : Int) (l529 : List GItem) (i532 : Int) (i533 : Int) (i534 : Int) (i535 : Int) (l536 : List Int) (i537 : Int) : Option (((List GItem) × Int × Int × Int × Int × (List Int) × Int) ⊕ (((List GItem) × Int × Int × Int × (List Int) × Int) ⊕ Bool)) :=
  if i535 < (p1.length : Int) then
    if i535 < 80 then
      (at_ p1 i535).bind fun x624 =>
      (m_ref08_Pick x624.fKind 3).bind fun x629 =>
      if x629 = 0 then
        (at_ p1 i535).bind fun x632 =>
        (m_net_Net_Double x632.fN (⟨l529, x3.fconns, i537, x3.fopens⟩ : Gnet_Net)).bind fun (z643 : Bool × Gnet_Net) =>
        if z643.1 = true then
          some (.inl (z643.2.fitems, i532, w64 (i533 + 1), i534, w64 (i535 + 1), l536, z643.2.flast))
        else
          some (.inl (z643.2.fitems, i532, i533, i534, w64 (i535 + 1), l536, z643.2.flast))
      else
        if x629 = 1 then
          (at_ p1 i535).bind fun x648 =>
          (m_net_Net_Drop x648.fN (⟨l529, x3.fconns, i537, x3.fopens⟩ : Gnet_Net)).bind fun (z659 : Bool × Gnet_Net) =>
          if z659.1 = true then
            some (.inl (z659.2.fitems, w64 (i532 + 1), i533, i534, w64 (i535 + 1), l536, i537))
          else
            some (.inl (z659.2.fitems, i532, i533, i534, w64 (i535 + 1), l536, i537))
        else
          (at_ p1 i535).bind fun x663 =>
          (m_net_Net_Take x663.fN (⟨l529, x3.fconns, i537, x3.fopens⟩ : Gnet_Net)).bind fun (z675 : GItem × Bool × Gnet_Net) =>
          if z675.2.1 = true then
            if (z675.1.fBody.size : Int) ≠ 1 then
              some (.inr (.inr false))
            else
              (sat_ z675.1.fBody 0).bind fun b691 =>
              if z675.1.fFrom ≠ w64 b691 then
                some (.inr (.inr false))
              else
                if z675.1.fTo ≠ w64 (z675.1.fFrom + 1) then
                  some (.inr (.inr false))
                else
                  if z675.1.fFrom < 1 then
                    some (.inr (.inr false))
                  else
                    if i62 < z675.1.fFrom then
                      some (.inr (.inr false))
                    else
                      (aix 41 z675.1.fFrom).bind fun a696 =>
                      (l536[(0 + a696 * 1)]?).bind fun x697 =>
                      (aix 41 z675.1.fFrom).bind fun a698 =>
                      (setN l536 (0 + a698 * 1) (w64 (x697 + 1))).bind fun l699 =>
                      some (.inl (z675.2.2.fitems, i532, i533, w64 (i534 + 1), w64 (i535 + 1), l699, i537))
          else
            some (.inl (z675.2.2.fitems, i532, i533, i534, w64 (i535 + 1), l536, i537))
    else
      some (.inr (.inl (l529, i532, i533, i534, l536, i537)))
  else
    some (.inr (.inl (l529, i532, i533, i534, l536, i537)))
noncomputable def m_law08_NetDatagrams_j1 (p1 : List Glaw08_Op) (x3 : Gnet_Net) (x1 : Bool) (l59 : List GItem) (i62 : Int) (l63 : List Int) (i64 : Int) : Option Bool :=
  (loop (fun s => m_law08_NetDatagrams_s7 p1 x3 i62 s.1 s.2.1 s.2.2.1 s.2.2.2.1 s.2.2.2.2.1 s.2.2.2.2.2.1 s.2.2.2.2.2.2) (l59, 0, 0, 0, 0, (List.replicate 41 0), i64)).bind fun e => Sum.elim (fun e => m_law08_NetDatagrams_j2 x3 i62 l63 x1 e.1 e.2.1 e.2.2.1 e.2.2.2.1 e.2.2.2.2.1 e.2.2.2.2.2) (fun x => some x) e
noncomputable def m_law08_NetDatagrams_s8 (x3 : Gnet_Net) (l720 : List GItem) (i723 : Int) (i724 : Int) (l725 : List Int) (i726 : Int) : Option (((List GItem) × Int × Int × (List Int) × Int) ⊕ ((List GItem) × Int × (List Int) × Int)) :=
  if i724 ≤ i723 then
    (m_net_Net_Send i724 (w64 (i724 + 1)) (strOfNums [IntKind.u8.wrap i724]) (⟨l720, x3.fconns, i726, x3.fopens⟩ : Gnet_Net)).bind fun (z754 : Bool × Gnet_Net) =>
    (aix 41 i724).bind fun a755 =>
    (setN l725 (0 + a755 * 1) 1).bind fun l756 =>
    some (.inl (z754.2.fitems, i723, w64 (i724 + 1), l756, z754.2.flast))
  else
    some (.inr (l720, i723, l725, i726))
noncomputable def m_law08_NetDatagrams (p0 : Int) (p1 : List Glaw08_Op) : Option Bool :=
  (m_law08_awake).bind fun x1 =>
  (m_net_New).bind fun x3 =>
  (m_ref08_Pick p0 40).bind fun x12 =>
  (loop (fun s => m_law08_NetDatagrams_s8 x3 s.1 s.2.1 s.2.2.1 s.2.2.2.1 s.2.2.2.2) (x3.fitems, w64 (1 + x12), 1, (List.replicate 41 0), x3.flast)).bind fun e => m_law08_NetDatagrams_j1 p1 x3 x1 e.1 e.2.1 e.2.2.1 e.2.2.2
theorem c_law08_NetDatagrams {w0 : World} {M : Nat → Prop} {H : List (Nat × Nat × Obj)} {R : List (Nat × Row)} {φ : World → Prop} (p0 : Int) (p1 : List Glaw08_Op) (Ap1_0 : Option Addr) (cp1_0 : Nat) (hcp1_0 : p1.length ≤ cp1_0) (fp1_0 : ∀ W, (Sta.mk w0 M H R φ).ok W → Cl W Ap1_0 (p1.flatMap Glaw08_Op.enc)) (r : Bool) (hm : m_law08_NetDatagrams p0 p1 = some r) :
    Cn Try.prog 5 #[.int .i64 p0, .slice Ap1_0 p1.length cp1_0] ⟨w0, M, H, R, φ⟩ (fun x : Unit => .bool r) (fun x => True) (fun x => ⟨w0, M, H, R, φ⟩) := by
 unfold m_law08_NetDatagrams at hm
 refine cn_intro (fn := Try.f5) (N := 194) Try.func5 rfl Try.ntmps5 rfl <| c_seq <| c_region <| g_v rfl r_assign <| g_nil <| d_then <| c_seq <| c_region ?_
 replace hm := bnd hm
 obtain ⟨x1, hx2, hm⟩ := hm
 refine g_cn ⟨w0, M, _, _, φ⟩ (fun _ h => h) Try.call9 rfl rfl (c_law08_awake  _ hx2) (fun _ _ => ?_)
 refine g_v rfl r_assign <| g_nil <| d_then <| c_seq <| c_region ?_
 replace hm := bnd hm
 obtain ⟨x3, hx4, hm⟩ := hm
 refine g_cn ⟨w0, M, _, _, φ⟩ (fun _ h => h) Try.call10 rfl rfl (c_net_New  _ hx4) (fun ⟨A5, c6, A8, c9, g11⟩ ⟨hc6, hc9⟩ => ?_)
 refine g_sta _ (fun W h => (ok_frontR (t := 2000) (t' := 100220) (ok_frontR (t := 2001) (t' := 100221) (ok_front (t := 3000) (t' := 100225) h rfl) rfl) rfl)) <| g_v rfl r_assign <| g_nil <| d_then <| c_seq <| c_seq <| c_region <| g_v rfl r_move <| g_v rfl (r_eqlP1 Try.underlying24 rfl rfl) <| g_nil ?_
 refine d_then <| c_cond0 rfl rfl <| c_skip <| d_then <| c_seq <| c_region <| g_v rfl r_move ?_
 replace hm := bnd hm
 obtain ⟨x12, hx13, hm⟩ := hm
 refine g_cn ⟨w0, M, _, _, φ⟩ (fun _ h => h) Try.call11 rfl rfl (c_ref08_Pick p0 40 _ hx13) (fun _ _ => ?_)
 refine g_v rfl (r_add rfl rfl rfl) <| g_v rfl r_assign <| g_nil <| d_then ?_
 refine c_flat [(1, .slice Ap1_0 p1.length cp1_0), (5, .bool x1), (6, .pointer (some ⟨g11, 0, none⟩)), (7, .int .i64 (w64 (1 + x12)))] ⟨rfl, rfl, rfl, rfl, trivial⟩ (fun u => ?_)
 refine c_sta ⟨w0, M, (100225, g11, .cells #[.slice A5 x3.fitems.length c6, .slice A8 x3.fconns.length c9, .int .i64 x3.flast, .int .i64 x3.fopens] 61 (0, 0)) :: H, (100220, ⟨.slice A5 x3.fitems.length c6, 40, 6, x3.fitems.length, x3.fitems.flatMap GItem.enc⟩) :: (100221, ⟨.slice A8 x3.fconns.length c9, 63, 3, x3.fconns.length, x3.fconns.flatMap Gnet_conn.enc⟩) :: R, φ⟩ (fun _ h => h) <| c_seq <| c_region ?_
 refine g_e rfl (e_alloc 100080 Try.zeroValue47) (fun g14 _ => ?_)
 refine g_sta ⟨w0, M, (100080, g14, .cells ((List.replicate 41 0).map (fun x : Int => Value.int .i64 x)).toArray 47 (0, 0)) :: (100225, g11, .cells #[.slice A5 x3.fitems.length c6, .slice A8 x3.fconns.length c9, .int .i64 x3.flast, .int .i64 x3.fopens] 61 (0, 0)) :: H, (100220, ⟨.slice A5 x3.fitems.length c6, 40, 6, x3.fitems.length, x3.fitems.flatMap GItem.enc⟩) :: (100221, ⟨.slice A8 x3.fconns.length c9, 63, 3, x3.fconns.length, x3.fconns.flatMap Gnet_conn.enc⟩) :: R, φ⟩ (fun _ h => blk_eq (by kernel_rfl) h) <| g_nil <| d_then <| c_seq <| c_seq <| c_region <| g_v rfl r_assign <| g_nil <| d_then ?_
 refine c_cut (ι := (List GItem) × Int × (List Int) × Int × Option Addr × Nat) [1, 5, 6, 7, 8] (fun ⟨l59, i62, l63, i64, A60, c61⟩ => [(7, .int .i64 i62)]) (fun ⟨l59, i62, l63, i64, A60, c61⟩ => ⟨w0, M, (100080, g14, .cells (l63.map (fun x : Int => Value.int .i64 x)).toArray 47 (0, 0)) :: (100225, g11, .cells #[.slice A60 l59.length c61, .slice A8 x3.fconns.length c9, .int .i64 i64, .int .i64 x3.fopens] 61 (0, 0)) :: H, (100220, ⟨.slice A60 l59.length c61, 40, 6, l59.length, l59.flatMap GItem.enc⟩) :: (100221, ⟨.slice A8 x3.fconns.length c9, 63, 3, x3.fconns.length, x3.fconns.flatMap Gnet_conn.enc⟩) :: R, φ⟩) (fun ⟨l59, i62, l63, i64, A60, c61⟩ => m_law08_NetDatagrams_j1 p1 x3 x1 l59 i62 l63 i64 = some r ∧ l59.length ≤ c61) ?_ (fun ⟨l59, i62, l63, i64, A60, c61⟩ u ⟨hm, hc61⟩ => ?_)
 ·
  refine c_block ?_
  replace hm := bnd hm
  obtain ⟨out8, hl8, hr8⟩ := hm
  obtain ⟨n745', hl8⟩ := loop_lp hl8
  refine c_loopU (ι := Nat × (List GItem) × Int × Int × (List Int) × Int × Option Addr × Nat) [1, 5, 6, 7, 8, 9] (fun ⟨n745, l720, i723, i724, l725, i726, A721, c722⟩ => [(7, .int .i64 i723), (9, .int .i64 i724)]) (fun ⟨n745, l720, i723, i724, l725, i726, A721, c722⟩ => ⟨w0, M, (100080, g14, .cells (l725.map (fun x : Int => Value.int .i64 x)).toArray 47 (0, 0)) :: (100225, g11, .cells #[.slice A721 l720.length c722, .slice A8 x3.fconns.length c9, .int .i64 i726, .int .i64 x3.fopens] 61 (0, 0)) :: H, (100220, ⟨.slice A721 l720.length c722, 40, 6, l720.length, l720.flatMap GItem.enc⟩) :: (100221, ⟨.slice A8 x3.fconns.length c9, 63, 3, x3.fconns.length, x3.fconns.flatMap Gnet_conn.enc⟩) :: R, φ⟩) (fun ⟨n745, l720, i723, i724, l725, i726, A721, c722⟩ => Lp (fun s => m_law08_NetDatagrams_s8 x3 s.1 s.2.1 s.2.2.1 s.2.2.2.1 s.2.2.2.2) n745 (l720, i723, i724, l725, i726) out8 ∧ l720.length ≤ c722) (fun ⟨n745, l720, i723, i724, l725, i726, A721, c722⟩ => n745) (n745', x3.fitems, w64 (1 + x12), 1, (List.replicate 41 0), x3.flast, A5, c6) ⟨hl8, hc6⟩ ⟨rfl, rfl, rfl, rfl, rfl, rfl, trivial⟩ (fun W h => h.phi (fun W hφ => hφ)) (fun ⟨n745, l720, i723, i724, l725, i726, A721, c722⟩ u ⟨hlp, hc722⟩ => ?_)
  obtain ⟨o8, hm, hnx8⟩ := lp_step hlp
  clear hlp
  replace hm : m_law08_NetDatagrams_s8 x3 l720 i723 i724 l725 i726 = some o8 := hm
  unfold m_law08_NetDatagrams_s8 at hm
  refine c_flat [(1, .slice Ap1_0 p1.length cp1_0), (5, .bool x1), (6, .pointer (some ⟨g11, 0, none⟩)), (7, .int .i64 i723), (8, .pointer (some ⟨g14, 0, none⟩)), (9, .int .i64 i724)] ⟨rfl, rfl, rfl, rfl, rfl, rfl, trivial⟩ (fun u => ?_)
  refine c_sta ⟨w0, M, (100080, g14, .cells (l725.map (fun x : Int => Value.int .i64 x)).toArray 47 (0, 0)) :: (100225, g11, .cells #[.slice A721 l720.length c722, .slice A8 x3.fconns.length c9, .int .i64 i726, .int .i64 x3.fopens] 61 (0, 0)) :: H, (100220, ⟨.slice A721 l720.length c722, 40, 6, l720.length, l720.flatMap GItem.enc⟩) :: (100221, ⟨.slice A8 x3.fconns.length c9, 63, 3, x3.fconns.length, x3.fconns.flatMap Gnet_conn.enc⟩) :: R, φ⟩ (fun _ h => h) <| c_seq <| c_seq <| c_region <| g_v rfl r_move <| g_v rfl r_move <| g_v rfl (r_leq rfl rfl) <| g_nil <| d_then ?_
  refine c_cond rfl (fun h746 => ?_) (fun h746 => ?_)
  ·
   replace hm := ite_t hm (of_decide_eq_true h746)
   refine c_skip <| d_then <| c_seq <| c_block <| c_seq <| c_region <| g_v rfl r_move <| g_v rfl r_move <| g_v rfl r_move <| g_v rfl (r_add rfl rfl rfl) ?_
   refine g_v rfl r_move <| g_v rfl (r_conv Try.underlying3 Try.underlying5 rfl rfl) ?_
   refine g_e rfl (e_lit (tag := 100390) (l := [IntKind.u8.wrap i724]) (enc := (fun x : Int => [Value.int .u8 x])) (sz := 1) rfl Try.underlying48 (lit5_16 _) rfl rfl (fun _ => rfl)) (fun g747 _ => ?_)
   refine g_v rfl (r_textE Try.underlying48 Try.underlying5 Try.underlying9 rfl (fun W hS => rowCl (tag := 100390) rfl W hS)) ?_
   replace hm := bnd hm
   obtain ⟨⟨x748, x749⟩, hx750, hm⟩ := hm
   refine g_cn ⟨w0, M, (1000, g11, .cells #[.slice A721 l720.length c722, .slice A8 x3.fconns.length c9, .int .i64 i726, .int .i64 x3.fopens] 61 (0, 0)) :: (100080, g14, .cells (l725.map (fun x : Int => Value.int .i64 x)).toArray 47 (0, 0)) :: H, (1000, ⟨.slice A721 l720.length c722, 40, 6, l720.length, l720.flatMap GItem.enc⟩) :: (1001, ⟨.slice A8 x3.fconns.length c9, 63, 3, x3.fconns.length, x3.fconns.flatMap Gnet_conn.enc⟩) :: (100390, ⟨.slice (some ⟨g747, 0, none⟩) [IntKind.u8.wrap i724].length 1, 5, 1, [IntKind.u8.wrap i724].length, [IntKind.u8.wrap i724].flatMap (fun x : Int => [Value.int .u8 x])⟩) :: R, φ⟩ (fun W h => (ok_front (t := 100225) (t' := 1000) (ok_frontR (t := 100220) (t' := 1000) (ok_frontR (t := 100221) (t' := 1001) h rfl) rfl) rfl)) Try.call15 rfl rfl (c_net_Net_Send i724 (w64 (i724 + 1)) (strOfNums [IntKind.u8.wrap i724]) g11 (⟨l720, x3.fconns, i726, x3.fopens⟩ : Gnet_Net) A721 c722 hc722 A8 c9 hc9 _ hx750) (fun ⟨A751, c752⟩ hc752 => ?_)
   refine g_sta _ (fun W h => (ok_frontR (t := 2000) (t' := 100220) (ok_frontR (t := 1001) (t' := 100221) (ok_front (t := 1000) (t' := 100225) h rfl) rfl) rfl)) <| g_nil <| d_then ?_
   refine c_flat [(1, .slice Ap1_0 p1.length cp1_0), (5, .bool x1), (6, .pointer (some ⟨g11, 0, none⟩)), (7, .int .i64 i723), (8, .pointer (some ⟨g14, 0, none⟩)), (9, .int .i64 i724)] ⟨rfl, rfl, rfl, rfl, rfl, rfl, trivial⟩ (fun u => ?_)
   refine c_sta ⟨w0, M, (100225, g11, .cells #[.slice A751 x749.fitems.length c752, .slice A8 x3.fconns.length c9, .int .i64 x749.flast, .int .i64 x3.fopens] 61 (0, 0)) :: (100080, g14, .cells (l725.map (fun x : Int => Value.int .i64 x)).toArray 47 (0, 0)) :: H, (100220, ⟨.slice A751 x749.fitems.length c752, 40, 6, x749.fitems.length, x749.fitems.flatMap GItem.enc⟩) :: (100221, ⟨.slice A8 x3.fconns.length c9, 63, 3, x3.fconns.length, x3.fconns.flatMap Gnet_conn.enc⟩) :: (100390, ⟨.slice (some ⟨g747, 0, none⟩) [IntKind.u8.wrap i724].length 1, 5, 1, [IntKind.u8.wrap i724].length, [IntKind.u8.wrap i724].flatMap (fun x : Int => [Value.int .u8 x])⟩) :: R, φ⟩ (fun _ h => h) <| c_region <| g_v rfl r_move ?_
   replace hm := bnd hm
   obtain ⟨a755, ha755, hm⟩ := hm
   refine g_v rfl (r_aix Try.underlying47 Try.sizeOf3 rfl rfl ha755 rfl) ?_
   replace hm := bnd hm
   obtain ⟨l756, hl756, hm⟩ := hm
   refine g_s (e_stL (tag := 100080) (f := (fun x : Int => Value.int .i64 x)) (v := 1) rfl rfl rfl rfl rfl Try.sizeOf3 rfl hl756) <| g_nil <| d_normal_block <| d_then <| c_region <| g_v rfl r_move <| g_v rfl (r_add rfl rfl rfl) <| g_v rfl r_assign <| g_nil ?_
   obtain ⟨n757, hn757, hlp⟩ := nx_inl hm hnx8
   exact d_round (n757, x749.fitems, i723, w64 (i724 + 1), l756, x749.flast, A751, c752) ⟨hlp, hc752⟩ hn757 ⟨rfl, rfl, rfl, rfl, rfl, rfl, trivial⟩ (fun W h => (ok_front (t := 100080) (t' := 100080) (ok_front (t := 100225) (t' := 100225) (h.dropR (t := 100390) rfl) rfl) rfl).phi (fun W hφ => hφ))
  ·
   replace hm := ite_f hm (of_decide_eq_false h746)
   refine c_exit <| d_exit_then <| d_exit_then <| d_exit_block ?_
   replace hm := nx_out (C := (fun e : (List GItem) × Int × (List Int) × Int => m_law08_NetDatagrams_j1 p1 x3 x1 e.1 e.2.1 e.2.2.1 e.2.2.2 = some r)) hm hnx8 hr8
   exact d_round (l720, i723, l725, i726, A721, c722) ⟨hm, hc722⟩ Nat.zero_lt_one ⟨rfl, rfl, rfl, rfl, rfl, trivial⟩ (fun W h => h.phi (fun W hφ => hφ))
 ·
  unfold m_law08_NetDatagrams_j1 at hm
  refine d_flat [(1, .slice Ap1_0 p1.length cp1_0), (5, .bool x1), (6, .pointer (some ⟨g11, 0, none⟩)), (7, .int .i64 i62), (8, .pointer (some ⟨g14, 0, none⟩))] ⟨rfl, rfl, rfl, rfl, rfl, trivial⟩ (fun u => ?_)
  refine d_sta ⟨w0, M, (100080, g14, .cells (l63.map (fun x : Int => Value.int .i64 x)).toArray 47 (0, 0)) :: (100225, g11, .cells #[.slice A60 l59.length c61, .slice A8 x3.fconns.length c9, .int .i64 i64, .int .i64 x3.fopens] 61 (0, 0)) :: H, (100220, ⟨.slice A60 l59.length c61, 40, 6, l59.length, l59.flatMap GItem.enc⟩) :: (100221, ⟨.slice A8 x3.fconns.length c9, 63, 3, x3.fconns.length, x3.fconns.flatMap Gnet_conn.enc⟩) :: R, φ⟩ (fun _ h => h) <| d_then <| c_seq <| c_region <| g_v rfl r_assign <| g_nil <| d_then <| c_seq <| c_region <| g_v rfl r_assign ?_
  refine g_nil <| d_then <| c_seq <| c_region <| g_v rfl r_assign <| g_nil <| d_then <| c_seq <| c_region ?_
  refine g_e rfl (e_alloc 100130 Try.zeroValue47) (fun g65 _ => ?_)
  refine g_sta ⟨w0, M, (100130, g65, .cells ((List.replicate 41 0).map (fun x : Int => Value.int .i64 x)).toArray 47 (0, 0)) :: (100080, g14, .cells (l63.map (fun x : Int => Value.int .i64 x)).toArray 47 (0, 0)) :: (100225, g11, .cells #[.slice A60 l59.length c61, .slice A8 x3.fconns.length c9, .int .i64 i64, .int .i64 x3.fopens] 61 (0, 0)) :: H, (100220, ⟨.slice A60 l59.length c61, 40, 6, l59.length, l59.flatMap GItem.enc⟩) :: (100221, ⟨.slice A8 x3.fconns.length c9, 63, 3, x3.fconns.length, x3.fconns.flatMap Gnet_conn.enc⟩) :: R, φ⟩ (fun _ h => blk_eq (by kernel_rfl) h) <| g_nil <| d_then <| c_seq ?_
  refine c_cut (ι := (List GItem) × Int × Int × Int × (List Int) × Int × Option Addr × Nat) [5, 6, 7, 8, 10, 11, 12, 13] (fun ⟨l241, i244, i245, i246, l247, i248, A242, c243⟩ => [(10, .int .i64 i244), (11, .int .i64 i245), (12, .int .i64 i246)]) (fun ⟨l241, i244, i245, i246, l247, i248, A242, c243⟩ => ⟨w0, M, (100130, g65, .cells (l247.map (fun x : Int => Value.int .i64 x)).toArray 47 (0, 0)) :: (100080, g14, .cells (l63.map (fun x : Int => Value.int .i64 x)).toArray 47 (0, 0)) :: (100225, g11, .cells #[.slice A242 l241.length c243, .slice A8 x3.fconns.length c9, .int .i64 i248, .int .i64 x3.fopens] 61 (0, 0)) :: H, (100220, ⟨.slice A242 l241.length c243, 40, 6, l241.length, l241.flatMap GItem.enc⟩) :: (100221, ⟨.slice A8 x3.fconns.length c9, 63, 3, x3.fconns.length, x3.fconns.flatMap Gnet_conn.enc⟩) :: R, φ⟩) (fun ⟨l241, i244, i245, i246, l247, i248, A242, c243⟩ => m_law08_NetDatagrams_j2 x3 i62 l63 x1 l241 i244 i245 i246 l247 i248 = some r ∧ l241.length ≤ c243) ?_ (fun ⟨l241, i244, i245, i246, l247, i248, A242, c243⟩ u ⟨hm, hc243⟩ => ?_)
  ·
   refine c_seq <| c_region <| g_v rfl r_assign <| g_nil <| d_then <| c_block ?_
   replace hm := bnd hm
   obtain ⟨out7, hl7, hr7⟩ := hm
   obtain ⟨n621', hl7⟩ := loop_lp hl7
   refine c_loopU (ι := Nat × (List GItem) × Int × Int × Int × Int × (List Int) × Int × Option Addr × Nat) [1, 5, 6, 7, 8, 10, 11, 12, 13, 14] (fun ⟨n621, l529, i532, i533, i534, i535, l536, i537, A530, c531⟩ => [(10, .int .i64 i532), (11, .int .i64 i533), (12, .int .i64 i534), (14, .int .i64 i535)]) (fun ⟨n621, l529, i532, i533, i534, i535, l536, i537, A530, c531⟩ => ⟨w0, M, (100130, g65, .cells (l536.map (fun x : Int => Value.int .i64 x)).toArray 47 (0, 0)) :: (100080, g14, .cells (l63.map (fun x : Int => Value.int .i64 x)).toArray 47 (0, 0)) :: (100225, g11, .cells #[.slice A530 l529.length c531, .slice A8 x3.fconns.length c9, .int .i64 i537, .int .i64 x3.fopens] 61 (0, 0)) :: H, (100220, ⟨.slice A530 l529.length c531, 40, 6, l529.length, l529.flatMap GItem.enc⟩) :: (100221, ⟨.slice A8 x3.fconns.length c9, 63, 3, x3.fconns.length, x3.fconns.flatMap Gnet_conn.enc⟩) :: R, φ⟩) (fun ⟨n621, l529, i532, i533, i534, i535, l536, i537, A530, c531⟩ => Lp (fun s => m_law08_NetDatagrams_s7 p1 x3 i62 s.1 s.2.1 s.2.2.1 s.2.2.2.1 s.2.2.2.2.1 s.2.2.2.2.2.1 s.2.2.2.2.2.2) n621 (l529, i532, i533, i534, i535, l536, i537) out7 ∧ l529.length ≤ c531) (fun ⟨n621, l529, i532, i533, i534, i535, l536, i537, A530, c531⟩ => n621) (n621', l59, 0, 0, 0, 0, (List.replicate 41 0), i64, A60, c61) ⟨hl7, hc61⟩ ⟨rfl, rfl, rfl, rfl, rfl, rfl, rfl, rfl, rfl, rfl, trivial⟩ (fun W h => h.phi (fun W hφ => hφ)) (fun ⟨n621, l529, i532, i533, i534, i535, l536, i537, A530, c531⟩ u ⟨hlp, hc531⟩ => ?_)
   obtain ⟨o7, hm, hnx7⟩ := lp_step hlp
   clear hlp
   replace hm : m_law08_NetDatagrams_s7 p1 x3 i62 l529 i532 i533 i534 i535 l536 i537 = some o7 := hm
   unfold m_law08_NetDatagrams_s7 at hm
   refine c_flat [(1, .slice Ap1_0 p1.length cp1_0), (5, .bool x1), (6, .pointer (some ⟨g11, 0, none⟩)), (7, .int .i64 i62), (8, .pointer (some ⟨g14, 0, none⟩)), (10, .int .i64 i532), (11, .int .i64 i533), (12, .int .i64 i534), (13, .pointer (some ⟨g65, 0, none⟩)), (14, .int .i64 i535)] ⟨rfl, rfl, rfl, rfl, rfl, rfl, rfl, rfl, rfl, rfl, trivial⟩ (fun u => ?_)
   refine c_sta ⟨w0, M, (100130, g65, .cells (l536.map (fun x : Int => Value.int .i64 x)).toArray 47 (0, 0)) :: (100080, g14, .cells (l63.map (fun x : Int => Value.int .i64 x)).toArray 47 (0, 0)) :: (100225, g11, .cells #[.slice A530 l529.length c531, .slice A8 x3.fconns.length c9, .int .i64 i537, .int .i64 x3.fopens] 61 (0, 0)) :: H, (100220, ⟨.slice A530 l529.length c531, 40, 6, l529.length, l529.flatMap GItem.enc⟩) :: (100221, ⟨.slice A8 x3.fconns.length c9, 63, 3, x3.fconns.length, x3.fconns.flatMap Gnet_conn.enc⟩) :: R, φ⟩ (fun _ h => h) <| c_seq <| c_seq <| c_region <| g_v rfl r_move <| g_v rfl r_move <| g_v rfl (r_lenL Try.underlying22 rfl) <| g_v rfl (r_lss rfl rfl) <| g_v rfl r_move ?_
   refine g_if rfl rfl rfl rfl rfl (fun h622 => ?_) (fun h622 => ?_)
   ·
    replace hm := ite_t hm (of_decide_eq_true h622)
    refine g_v rfl r_move <| g_do rfl rfl rfl rfl rfl h622 <| g_v rfl (r_lss rfl rfl) <| g_v rfl (r_pick1 rfl h622) <| g_nil <| d_then ?_
    refine c_cond rfl (fun h623 => ?_) (fun h623 => ?_)
    ·
     replace hm := ite_t hm (of_decide_eq_true h623)
     refine c_skip <| d_then <| c_seq <| c_block <| c_seq <| c_region <| g_v rfl r_move <| g_v rfl r_move ?_
     replace hm := bnd hm
     obtain ⟨x624, hx624, hm⟩ := hm
     refine g_know _ (fun W hS => cl_at (p := (Sta.mk w0 M H R φ).ok) (sz := 5) (fun _ => rfl) (by decide) (ok_pre (H1 := [_, _, _]) (R1 := [_, _]) hS (fun W h => h)) fp1_0 hx624) ?_
     rintro ⟨ad625, hA627, f626⟩
     refine g_v rfl (r_ix Try.underlying22 Try.sizeOf33 rfl hA627 rfl hx624) ?_
     have f628 := fun (W : World) (h : (Sta.mk w0 M H R φ).ok W) => Cl.drop (f626 W h) 0
     refine g_v rfl (r_fieldF Try.underlying33 rfl Try.sizeOf3 rfl) <| g_v rfl (r_ld rfl Try.isAgg3 (fun W hS => Cl.head (f628 W (ok_pre (H1 := [_, _, _]) (R1 := [_, _]) hS (fun W h => h))))) ?_
     replace hm := bnd hm
     obtain ⟨x629, hx630, hm⟩ := hm
     refine g_cn ⟨w0, M, _, _, φ⟩ (fun _ h => h) Try.call11 rfl rfl (c_ref08_Pick x624.fKind 3 _ hx630) (fun _ _ => ?_)
     refine g_nil <| d_then ?_
     refine c_flat [(1, .slice Ap1_0 p1.length cp1_0), (5, .bool x1), (6, .pointer (some ⟨g11, 0, none⟩)), (7, .int .i64 i62), (8, .pointer (some ⟨g14, 0, none⟩)), (10, .int .i64 i532), (11, .int .i64 i533), (12, .int .i64 i534), (13, .pointer (some ⟨g65, 0, none⟩)), (14, .int .i64 i535), (59, .int .i64 x629)] ⟨rfl, rfl, rfl, rfl, rfl, rfl, rfl, rfl, rfl, rfl, rfl, trivial⟩ (fun u => ?_)
     refine c_block <| c_seq <| c_region <| g_v rfl (r_eql rfl rfl) <| g_v rfl r_assign <| g_nil <| d_then ?_
     refine c_cond rfl (fun h631 => ?_) (fun h631 => ?_)
     ·
      replace hm := ite_t hm (of_decide_eq_true h631)
      refine c_seq <| c_region <| g_v rfl r_move <| g_v rfl r_move <| g_v rfl r_move ?_
      replace hm := bnd hm
      obtain ⟨x632, hx632, hm⟩ := hm
      refine g_know _ (fun W hS => cl_at (p := (Sta.mk w0 M H R φ).ok) (sz := 5) (fun _ => rfl) (by decide) (ok_pre (H1 := [_, _, _]) (R1 := [_, _]) hS (fun W h => h)) fp1_0 hx632) ?_
      rintro ⟨ad633, hA635, f634⟩
      refine g_v rfl (r_ix Try.underlying22 Try.sizeOf33 rfl hA635 rfl hx632) ?_
      have f636 := fun (W : World) (h : (Sta.mk w0 M H R φ).ok W) => Cl.drop (f634 W h) 3
      refine g_v rfl (r_fieldF Try.underlying33 rfl Try.sizeOf3 rfl) <| g_v rfl (r_ld rfl Try.isAgg3 (fun W hS => Cl.head (f636 W (ok_pre (H1 := [_, _, _]) (R1 := [_, _]) hS (fun W h => h))))) ?_
      replace hm := bnd hm
      obtain ⟨⟨x637, x638⟩, hx639, hm⟩ := hm
      refine g_cn ⟨w0, M, (1000, g11, .cells #[.slice A530 l529.length c531, .slice A8 x3.fconns.length c9, .int .i64 i537, .int .i64 x3.fopens] 61 (0, 0)) :: (100130, g65, .cells (l536.map (fun x : Int => Value.int .i64 x)).toArray 47 (0, 0)) :: (100080, g14, .cells (l63.map (fun x : Int => Value.int .i64 x)).toArray 47 (0, 0)) :: H, (1000, ⟨.slice A530 l529.length c531, 40, 6, l529.length, l529.flatMap GItem.enc⟩) :: (1001, ⟨.slice A8 x3.fconns.length c9, 63, 3, x3.fconns.length, x3.fconns.flatMap Gnet_conn.enc⟩) :: R, φ⟩ (fun W h => (ok_front (t := 100225) (t' := 1000) (ok_frontR (t := 100220) (t' := 1000) (ok_frontR (t := 100221) (t' := 1001) h rfl) rfl) rfl)) Try.call16 rfl rfl (c_net_Net_Double x632.fN g11 (⟨l529, x3.fconns, i537, x3.fopens⟩ : Gnet_Net) A530 c531 hc531 A8 c9 hc9 _ hx639) (fun ⟨A640, c641⟩ hc641 => ?_)
      refine g_sta _ (fun W h => (ok_frontR (t := 2000) (t' := 100220) (ok_frontR (t := 1001) (t' := 100221) (ok_front (t := 1000) (t' := 100225) h rfl) rfl) rfl)) <| g_nil <| d_then ?_
      refine c_flat [(1, .slice Ap1_0 p1.length cp1_0), (5, .bool x1), (6, .pointer (some ⟨g11, 0, none⟩)), (7, .int .i64 i62), (8, .pointer (some ⟨g14, 0, none⟩)), (10, .int .i64 i532), (11, .int .i64 i533), (12, .int .i64 i534), (13, .pointer (some ⟨g65, 0, none⟩)), (14, .int .i64 i535), (122, .bool x637)] ⟨rfl, rfl, rfl, rfl, rfl, rfl, rfl, rfl, rfl, rfl, rfl, trivial⟩ (fun u => ?_)
      refine c_sta ⟨w0, M, (100225, g11, .cells #[.slice A640 x638.fitems.length c641, .slice A8 x3.fconns.length c9, .int .i64 x638.flast, .int .i64 x3.fopens] 61 (0, 0)) :: (100130, g65, .cells (l536.map (fun x : Int => Value.int .i64 x)).toArray 47 (0, 0)) :: (100080, g14, .cells (l63.map (fun x : Int => Value.int .i64 x)).toArray 47 (0, 0)) :: H, (100220, ⟨.slice A640 x638.fitems.length c641, 40, 6, x638.fitems.length, x638.fitems.flatMap GItem.enc⟩) :: (100221, ⟨.slice A8 x3.fconns.length c9, 63, 3, x3.fconns.length, x3.fconns.flatMap Gnet_conn.enc⟩) :: R, φ⟩ (fun _ h => h) ?_
      refine c_cond rfl (fun h644 => ?_) (fun h644 => ?_)
      ·
       replace hm := ite_t hm h644
       refine c_region <| g_v rfl r_move <| g_v rfl (r_add rfl rfl rfl) <| g_v rfl r_assign <| g_nil <| d_normal_block <| d_normal_block <| d_then <| c_region <| g_v rfl r_move ?_
       refine g_v rfl (r_add rfl rfl rfl) <| g_v rfl r_assign <| g_nil ?_
       obtain ⟨n645, hn645, hlp⟩ := nx_inl hm hnx7
       exact d_round (n645, x638.fitems, i532, w64 (i533 + 1), i534, w64 (i535 + 1), l536, x638.flast, A640, c641) ⟨hlp, hc641⟩ hn645 ⟨rfl, rfl, rfl, rfl, rfl, rfl, rfl, rfl, rfl, rfl, trivial⟩ (fun W h => (ok_front (t := 100130) (t' := 100130) (ok_front (t := 100080) (t' := 100080) (ok_front (t := 100225) (t' := 100225) h rfl) rfl) rfl).phi (fun W hφ => hφ))
      ·
       replace hm := ite_f hm (bool_nt h644)
       refine c_skip <| d_normal_block <| d_normal_block <| d_then <| c_region <| g_v rfl r_move <| g_v rfl (r_add rfl rfl rfl) <| g_v rfl r_assign <| g_nil ?_
       obtain ⟨n646, hn646, hlp⟩ := nx_inl hm hnx7
       exact d_round (n646, x638.fitems, i532, i533, i534, w64 (i535 + 1), l536, x638.flast, A640, c641) ⟨hlp, hc641⟩ hn646 ⟨rfl, rfl, rfl, rfl, rfl, rfl, rfl, rfl, rfl, rfl, trivial⟩ (fun W h => (ok_front (t := 100130) (t' := 100130) (ok_front (t := 100080) (t' := 100080) (ok_front (t := 100225) (t' := 100225) h rfl) rfl) rfl).phi (fun W hφ => hφ))
     ·
      replace hm := ite_f hm (of_decide_eq_false h631)
      refine c_seq <| c_region <| g_v rfl (r_eql rfl rfl) <| g_v rfl r_assign <| g_nil <| d_then ?_
      refine c_cond rfl (fun h647 => ?_) (fun h647 => ?_)
      ·
       replace hm := ite_t hm (of_decide_eq_true h647)
       refine c_seq <| c_region <| g_v rfl r_move <| g_v rfl r_move <| g_v rfl r_move ?_
       replace hm := bnd hm
       obtain ⟨x648, hx648, hm⟩ := hm
       refine g_know _ (fun W hS => cl_at (p := (Sta.mk w0 M H R φ).ok) (sz := 5) (fun _ => rfl) (by decide) (ok_pre (H1 := [_, _, _]) (R1 := [_, _]) hS (fun W h => h)) fp1_0 hx648) ?_
       rintro ⟨ad649, hA651, f650⟩
       refine g_v rfl (r_ix Try.underlying22 Try.sizeOf33 rfl hA651 rfl hx648) ?_
       have f652 := fun (W : World) (h : (Sta.mk w0 M H R φ).ok W) => Cl.drop (f650 W h) 3
       refine g_v rfl (r_fieldF Try.underlying33 rfl Try.sizeOf3 rfl) <| g_v rfl (r_ld rfl Try.isAgg3 (fun W hS => Cl.head (f652 W (ok_pre (H1 := [_, _, _]) (R1 := [_, _]) hS (fun W h => h))))) ?_
       replace hm := bnd hm
       obtain ⟨⟨x653, x654⟩, hx655, hm⟩ := hm
       refine g_cn ⟨w0, M, (1000, g11, .cells #[.slice A530 l529.length c531, .slice A8 x3.fconns.length c9, .int .i64 i537, .int .i64 x3.fopens] 61 (0, 0)) :: (100130, g65, .cells (l536.map (fun x : Int => Value.int .i64 x)).toArray 47 (0, 0)) :: (100080, g14, .cells (l63.map (fun x : Int => Value.int .i64 x)).toArray 47 (0, 0)) :: H, (1000, ⟨.slice A530 l529.length c531, 40, 6, l529.length, l529.flatMap GItem.enc⟩) :: (1001, ⟨.slice A8 x3.fconns.length c9, 63, 3, x3.fconns.length, x3.fconns.flatMap Gnet_conn.enc⟩) :: R, φ⟩ (fun W h => (ok_front (t := 100225) (t' := 1000) (ok_frontR (t := 100220) (t' := 1000) (ok_frontR (t := 100221) (t' := 1001) h rfl) rfl) rfl)) Try.call20 rfl rfl (c_net_Net_Drop x648.fN g11 (⟨l529, x3.fconns, i537, x3.fopens⟩ : Gnet_Net) A530 c531 hc531 A8 c9 hc9 _ hx655) (fun ⟨A656, c657⟩ hc657 => ?_)
       refine g_sta _ (fun W h => (ok_frontR (t := 2000) (t' := 100220) (ok_frontR (t := 1001) (t' := 100221) (ok_front (t := 1000) (t' := 100225) h rfl) rfl) rfl)) <| g_nil <| d_then ?_
       refine c_flat [(1, .slice Ap1_0 p1.length cp1_0), (5, .bool x1), (6, .pointer (some ⟨g11, 0, none⟩)), (7, .int .i64 i62), (8, .pointer (some ⟨g14, 0, none⟩)), (10, .int .i64 i532), (11, .int .i64 i533), (12, .int .i64 i534), (13, .pointer (some ⟨g65, 0, none⟩)), (14, .int .i64 i535), (133, .bool x653)] ⟨rfl, rfl, rfl, rfl, rfl, rfl, rfl, rfl, rfl, rfl, rfl, trivial⟩ (fun u => ?_)
       refine c_sta ⟨w0, M, (100225, g11, .cells #[.slice A656 x654.fitems.length c657, .slice A8 x3.fconns.length c9, .int .i64 i537, .int .i64 x3.fopens] 61 (0, 0)) :: (100130, g65, .cells (l536.map (fun x : Int => Value.int .i64 x)).toArray 47 (0, 0)) :: (100080, g14, .cells (l63.map (fun x : Int => Value.int .i64 x)).toArray 47 (0, 0)) :: H, (100220, ⟨.slice A656 x654.fitems.length c657, 40, 6, x654.fitems.length, x654.fitems.flatMap GItem.enc⟩) :: (100221, ⟨.slice A8 x3.fconns.length c9, 63, 3, x3.fconns.length, x3.fconns.flatMap Gnet_conn.enc⟩) :: R, φ⟩ (fun _ h => h) ?_
       refine c_cond rfl (fun h660 => ?_) (fun h660 => ?_)
       ·
        replace hm := ite_t hm h660
        refine c_region <| g_v rfl r_move <| g_v rfl (r_add rfl rfl rfl) <| g_v rfl r_assign <| g_nil <| d_normal_block <| d_normal_block <| d_then <| c_region <| g_v rfl r_move ?_
        refine g_v rfl (r_add rfl rfl rfl) <| g_v rfl r_assign <| g_nil ?_
        obtain ⟨n661, hn661, hlp⟩ := nx_inl hm hnx7
        exact d_round (n661, x654.fitems, w64 (i532 + 1), i533, i534, w64 (i535 + 1), l536, i537, A656, c657) ⟨hlp, hc657⟩ hn661 ⟨rfl, rfl, rfl, rfl, rfl, rfl, rfl, rfl, rfl, rfl, trivial⟩ (fun W h => (ok_front (t := 100130) (t' := 100130) (ok_front (t := 100080) (t' := 100080) (ok_front (t := 100225) (t' := 100225) h rfl) rfl) rfl).phi (fun W hφ => hφ))
       ·
        replace hm := ite_f hm (bool_nt h660)
        refine c_skip <| d_normal_block <| d_normal_block <| d_then <| c_region <| g_v rfl r_move <| g_v rfl (r_add rfl rfl rfl) <| g_v rfl r_assign <| g_nil ?_
        obtain ⟨n662, hn662, hlp⟩ := nx_inl hm hnx7
        exact d_round (n662, x654.fitems, i532, i533, i534, w64 (i535 + 1), l536, i537, A656, c657) ⟨hlp, hc657⟩ hn662 ⟨rfl, rfl, rfl, rfl, rfl, rfl, rfl, rfl, rfl, rfl, trivial⟩ (fun W h => (ok_front (t := 100130) (t' := 100130) (ok_front (t := 100080) (t' := 100080) (ok_front (t := 100225) (t' := 100225) h rfl) rfl) rfl).phi (fun W hφ => hφ))
      ·
       replace hm := ite_f hm (of_decide_eq_false h647)
       refine c_seq <| c_region <| g_v rfl r_move <| g_v rfl r_move <| g_v rfl r_move ?_
       replace hm := bnd hm
       obtain ⟨x663, hx663, hm⟩ := hm
       refine g_know _ (fun W hS => cl_at (p := (Sta.mk w0 M H R φ).ok) (sz := 5) (fun _ => rfl) (by decide) (ok_pre (H1 := [_, _, _]) (R1 := [_, _]) hS (fun W h => h)) fp1_0 hx663) ?_
       rintro ⟨ad664, hA666, f665⟩
       refine g_v rfl (r_ix Try.underlying22 Try.sizeOf33 rfl hA666 rfl hx663) ?_
       have f667 := fun (W : World) (h : (Sta.mk w0 M H R φ).ok W) => Cl.drop (f665 W h) 3
       refine g_v rfl (r_fieldF Try.underlying33 rfl Try.sizeOf3 rfl) <| g_v rfl (r_ld rfl Try.isAgg3 (fun W hS => Cl.head (f667 W (ok_pre (H1 := [_, _, _]) (R1 := [_, _]) hS (fun W h => h))))) ?_
       replace hm := bnd hm
       obtain ⟨⟨x668, x669, x670⟩, hx671, hm⟩ := hm
       refine g_cn ⟨w0, M, (1000, g11, .cells #[.slice A530 l529.length c531, .slice A8 x3.fconns.length c9, .int .i64 i537, .int .i64 x3.fopens] 61 (0, 0)) :: (100130, g65, .cells (l536.map (fun x : Int => Value.int .i64 x)).toArray 47 (0, 0)) :: (100080, g14, .cells (l63.map (fun x : Int => Value.int .i64 x)).toArray 47 (0, 0)) :: H, (1000, ⟨.slice A530 l529.length c531, 40, 6, l529.length, l529.flatMap GItem.enc⟩) :: (1001, ⟨.slice A8 x3.fconns.length c9, 63, 3, x3.fconns.length, x3.fconns.flatMap Gnet_conn.enc⟩) :: R, φ⟩ (fun W h => (ok_front (t := 100225) (t' := 1000) (ok_frontR (t := 100220) (t' := 1000) (ok_frontR (t := 100221) (t' := 1001) h rfl) rfl) rfl)) Try.call17 rfl rfl (c_net_Net_Take x663.fN g11 (⟨l529, x3.fconns, i537, x3.fopens⟩ : Gnet_Net) A530 c531 hc531 A8 c9 hc9 _ hx671) (fun ⟨A672, c673⟩ hc673 => ?_)
       refine g_sta _ (fun W h => (ok_frontR (t := 2000) (t' := 100220) (ok_frontR (t := 1001) (t' := 100221) (ok_front (t := 1000) (t' := 100225) h rfl) rfl) rfl)) <| g_v rfl r_move <| g_v rfl (r_extract rfl rfl) <| g_v rfl (r_extract rfl rfl) ?_
       refine g_e rfl (e_alloc 100150 Try.zeroValue40) (fun g676 _ => ?_)
       refine g_storeL (tag := 100150) rfl rfl rfl rfl Try.sizeOf40 rfl rfl <| g_v rfl r_assign <| g_nil <| d_then ?_
       refine c_flat [(1, .slice Ap1_0 p1.length cp1_0), (5, .bool x1), (6, .pointer (some ⟨g11, 0, none⟩)), (7, .int .i64 i62), (8, .pointer (some ⟨g14, 0, none⟩)), (10, .int .i64 i532), (11, .int .i64 i533), (12, .int .i64 i534), (13, .pointer (some ⟨g65, 0, none⟩)), (14, .int .i64 i535), (15, .pointer (some ⟨g676, 0, none⟩)), (16, .bool x669)] ⟨rfl, rfl, rfl, rfl, rfl, rfl, rfl, rfl, rfl, rfl, rfl, rfl, trivial⟩ (fun u => ?_)
       refine c_sta ⟨w0, M, (100150, g676, .cells #[.int .i64 x668.fNumber, .int .i64 x668.fKind, .int .i64 x668.fFrom, .int .i64 x668.fTo, .int .i64 x668.fConn, .string x668.fBody] 40 (0, 0)) :: (100225, g11, .cells #[.slice A672 x670.fitems.length c673, .slice A8 x3.fconns.length c9, .int .i64 i537, .int .i64 x3.fopens] 61 (0, 0)) :: (100130, g65, .cells (l536.map (fun x : Int => Value.int .i64 x)).toArray 47 (0, 0)) :: (100080, g14, .cells (l63.map (fun x : Int => Value.int .i64 x)).toArray 47 (0, 0)) :: H, (100220, ⟨.slice A672 x670.fitems.length c673, 40, 6, x670.fitems.length, x670.fitems.flatMap GItem.enc⟩) :: (100221, ⟨.slice A8 x3.fconns.length c9, 63, 3, x3.fconns.length, x3.fconns.flatMap Gnet_conn.enc⟩) :: R, φ⟩ (fun _ h => h) <| c_seq <| c_seq <| ga_start (n := 35) ⟨w0, M, (100150, g676, .cells #[.int .i64 x668.fNumber, .int .i64 x668.fKind, .int .i64 x668.fFrom, .int .i64 x668.fTo, .int .i64 x668.fConn, .string x668.fBody] 40 (0, 0)) :: (100225, g11, .cells #[.slice A672 x670.fitems.length c673, .slice A8 x3.fconns.length c9, .int .i64 i537, .int .i64 x3.fopens] 61 (0, 0)) :: (100130, g65, .cells (l536.map (fun x : Int => Value.int .i64 x)).toArray 47 (0, 0)) :: (100080, g14, .cells (l63.map (fun x : Int => Value.int .i64 x)).toArray 47 (0, 0)) :: H, (100220, ⟨.slice A672 x670.fitems.length c673, 40, 6, x670.fitems.length, x670.fitems.flatMap GItem.enc⟩) :: (100221, ⟨.slice A8 x3.fconns.length c9, 63, 3, x3.fconns.length, x3.fconns.flatMap Gnet_conn.enc⟩) :: R, φ⟩ [] #[false, false, false, false, false, false, false, false, false, false, false, false, false, false, false, false, false, false, false, false, false, false, false, false, false, false, false, false, false, false, false, false, false, false, false] (fun W h => h.phi (fun W hφ => hφ)) mixed rfl rfl <| ga_r (i := 0) (bz 35 1) rfl (by kernel_rfl) (by decide) rfl (r_move) <| ga_r (i := 1) (bz 35 3) rfl (by kernel_rfl) (by decide) rfl (r_move) ?_
       refine ga_if (t := 71) rfl (fun h689 => ?_) (fun h689 => ?_)
       ·
        replace hm := ite_t hm h689
        refine ga_rG (i := 2) (bz 35 7) rfl (by kernel_rfl) (by decide) rfl rfl rfl rfl rfl h689 (r_field (n := 5) Try.underlying40 rfl Try.sizeOf9 rfl rfl) <| ga_rG (i := 3) (bz 35 15) rfl (by kernel_rfl) (by decide) rfl rfl rfl rfl rfl h689 (r_load (tag := 100150) rfl rfl rfl Try.isAgg9) <| ga_rG (i := 4) (bz 35 31) rfl (by kernel_rfl) (by decide) rfl rfl rfl rfl rfl h689 (r_len Try.underlying9 rfl) <| ga_rG (i := 5) (bz 35 63) rfl (by kernel_rfl) (by decide) rfl rfl rfl rfl rfl h689 (r_neq rfl rfl) <| ga_rG (i := 6) (bz 35 127) rfl (by kernel_rfl) (by decide) rfl rfl rfl rfl rfl h689 (r_move) ?_
        refine ga_if (t := 76) rfl (fun h690 => ?_) (fun h690 => ?_)
        ·
         replace hm := ite_t hm (of_decide_eq_true h690)
         refine ga_no (i := 7) (bz 35 255) rfl (by kernel_rfl) (fun _ _ _ _ h => h) rfl rfl rfl rfl rfl h690 <| ga_no (i := 8) (bz 35 511) rfl (by kernel_rfl) (fun _ _ _ _ h => h) rfl rfl rfl rfl rfl h690 <| ga_no (i := 9) (bz 35 1023) rfl (by kernel_rfl) (fun _ _ _ _ h => h) rfl rfl rfl rfl rfl h690 <| ga_no (i := 10) (bz 35 2047) rfl (by kernel_rfl) (fun _ _ _ _ h => h) rfl rfl rfl rfl rfl h690 <| ga_no (i := 11) (bz 35 4095) rfl (by kernel_rfl) (fun _ _ _ _ h => h) rfl rfl rfl rfl rfl h690 <| ga_no (i := 12) (bz 35 8191) rfl (by kernel_rfl) (fun _ _ _ _ h => h) rfl rfl rfl rfl rfl h690 <| ga_no (i := 13) (bz 35 16383) rfl (by kernel_rfl) (fun _ _ _ _ h => h) rfl rfl rfl rfl rfl h690 <| ga_rG (i := 14) (bz 35 32767) rfl (by kernel_rfl) (by decide) rfl rfl rfl rfl rfl h689 (r_pick1 rfl h690) <| ga_rG (i := 15) (bz 35 65535) rfl (by kernel_rfl) (by decide) rfl rfl rfl rfl rfl h689 (r_move) <| ga_no (i := 16) (bz 35 131071) rfl (by kernel_rfl) (fun _ _ _ _ h => h) rfl rfl rfl rfl rfl rfl ?_
         refine ga_no (i := 17) (bz 35 262143) rfl (by kernel_rfl) (fun _ _ _ _ h => h) rfl rfl rfl rfl rfl rfl <| ga_no (i := 18) (bz 35 524287) rfl (by kernel_rfl) (fun _ _ _ _ h => h) rfl rfl rfl rfl rfl rfl <| ga_no (i := 19) (bz 35 1048575) rfl (by kernel_rfl) (fun _ _ _ _ h => h) rfl rfl rfl rfl rfl rfl <| ga_no (i := 20) (bz 35 2097151) rfl (by kernel_rfl) (fun _ _ _ _ h => h) rfl rfl rfl rfl rfl rfl <| ga_no (i := 21) (bz 35 4194303) rfl (by kernel_rfl) (fun _ _ _ _ h => h) rfl rfl rfl rfl rfl rfl <| ga_rG (i := 22) (bz 35 8388607) rfl (by kernel_rfl) (by decide) rfl rfl rfl rfl rfl h689 (r_pick1 rfl rfl) <| ga_rG (i := 23) (bz 35 16777215) rfl (by kernel_rfl) (by decide) rfl rfl rfl rfl rfl h689 (r_move) <| ga_no (i := 24) (bz 35 33554431) rfl (by kernel_rfl) (fun _ _ _ _ h => h) rfl rfl rfl rfl rfl rfl <| ga_no (i := 25) (bz 35 67108863) rfl (by kernel_rfl) (fun _ _ _ _ h => h) rfl rfl rfl rfl rfl rfl <| ga_no (i := 26) (bz 35 134217727) rfl (by kernel_rfl) (fun _ _ _ _ h => h) rfl rfl rfl rfl rfl rfl ?_
         refine ga_rG (i := 27) (bz 35 268435455) rfl (by kernel_rfl) (by decide) rfl rfl rfl rfl rfl h689 (r_pick1 rfl rfl) <| ga_rG (i := 28) (bz 35 536870911) rfl (by kernel_rfl) (by decide) rfl rfl rfl rfl rfl h689 (r_move) <| ga_no (i := 29) (bz 35 1073741823) rfl (by kernel_rfl) (fun _ _ _ _ h => h) rfl rfl rfl rfl rfl rfl <| ga_no (i := 30) (bz 35 2147483647) rfl (by kernel_rfl) (fun _ _ _ _ h => h) rfl rfl rfl rfl rfl rfl <| ga_no (i := 31) (bz 35 4294967295) rfl (by kernel_rfl) (fun _ _ _ _ h => h) rfl rfl rfl rfl rfl rfl <| ga_no (i := 32) (bz 35 8589934591) rfl (by kernel_rfl) (fun _ _ _ _ h => h) rfl rfl rfl rfl rfl rfl <| ga_rG (i := 33) (bz 35 17179869183) rfl (by kernel_rfl) (by decide) rfl rfl rfl rfl rfl h689 (r_pick1 rfl rfl) <| ga_r (i := 34) (bz 35 34359738367) rfl (by kernel_rfl) (by decide) rfl (r_pick1 rfl h689) <| ga_done (by kernel_rfl) <| d_then ?_
         refine c_flat [(1, .slice Ap1_0 p1.length cp1_0), (5, .bool x1), (6, .pointer (some ⟨g11, 0, none⟩)), (7, .int .i64 i62), (8, .pointer (some ⟨g14, 0, none⟩)), (10, .int .i64 i532), (11, .int .i64 i533), (12, .int .i64 i534), (13, .pointer (some ⟨g65, 0, none⟩)), (14, .int .i64 i535), (15, .pointer (some ⟨g676, 0, none⟩)), (16, .bool x669), (104, .bool true)] ⟨rfl, rfl, rfl, rfl, rfl, rfl, rfl, rfl, rfl, rfl, rfl, rfl, rfl, trivial⟩ (fun u => ?_)
         refine c_cond1 rfl rfl <| c_seq <| c_region <| g_v rfl r_assign <| g_nil <| d_then <| c_ret <| d_ret_then <| d_ret_block <| d_ret_block ?_
         refine d_ret_then <| d_ret_then <| d_ret_block <| d_ret_then <| d_ret_then ?_
         replace hm := nx_out (C := (fun e : ((List GItem) × Int × Int × Int × (List Int) × Int) ⊕ Bool => Sum.elim (fun e => m_law08_NetDatagrams_j2 x3 i62 l63 x1 e.1 e.2.1 e.2.2.1 e.2.2.2.1 e.2.2.2.2.1 e.2.2.2.2.2) (fun x => some x) e = some r)) hm hnx7 hr7
         replace hm : some false = some r := hm
         replace hm := Option.some.inj hm
         subst hm
         refine d_retC () Try.results5 ?_ trivial (fun W h => ok_pre (H1 := [_, _, _, _]) (R1 := [_, _]) h (fun W hφ => hφ)) (.inr rfl)
         refine res_tmp <| res_nil ?_
         exact rfl
        ·
         replace hm := ite_f hm (of_decide_eq_false h690)
         refine ga_do (i := 7) (bz 35 255) rfl (by kernel_rfl) (fun _ _ _ _ h => h) rfl rfl rfl rfl rfl h690 (r_field (n := 2) Try.underlying40 rfl Try.sizeOf3 rfl rfl) <| ga_do (i := 8) (bz 35 511) rfl (by kernel_rfl) (fun _ _ _ _ h => h) rfl rfl rfl rfl rfl h690 (r_load (tag := 100150) rfl rfl rfl Try.isAgg3) <| ga_rG (i := 9) (bz 35 1023) rfl (by kernel_rfl) (by decide) rfl rfl rfl rfl rfl h690 (r_field (n := 5) Try.underlying40 rfl Try.sizeOf9 rfl rfl) <| ga_rG (i := 10) (bz 35 2047) rfl (by kernel_rfl) (by decide) rfl rfl rfl rfl rfl h690 (r_load (tag := 100150) rfl rfl rfl Try.isAgg9) ?_
         replace hm := bnd hm
         obtain ⟨b691, hb691, hm⟩ := hm
         refine ga_rG (i := 11) (bz 35 4095) rfl (by kernel_rfl) (by decide) rfl rfl rfl rfl rfl h690 (r_sat Try.underlying9 rfl rfl hb691) <| ga_rG (i := 12) (bz 35 8191) rfl (by kernel_rfl) (by decide) rfl rfl rfl rfl rfl h690 (r_conv Try.underlying5 Try.underlying3 rfl rfl) <| ga_rG (i := 13) (bz 35 16383) rfl (by kernel_rfl) (by decide) rfl rfl rfl rfl rfl h690 (r_neq rfl rfl) <| ga_rG (i := 14) (bz 35 32767) rfl (by kernel_rfl) (by decide) rfl rfl rfl rfl rfl h689 (r_pick0 rfl h690) <| ga_rG (i := 15) (bz 35 65535) rfl (by kernel_rfl) (by decide) rfl rfl rfl rfl rfl h689 (r_move) ?_
         refine ga_if (t := 85) rfl (fun h692 => ?_) (fun h692 => ?_)
         ·
          replace hm := ite_t hm (of_decide_eq_true h692)
          refine ga_no (i := 16) (bz 35 131071) rfl (by kernel_rfl) (fun _ _ _ _ h => h) rfl rfl rfl rfl rfl h692 <| ga_no (i := 17) (bz 35 262143) rfl (by kernel_rfl) (fun _ _ _ _ h => h) rfl rfl rfl rfl rfl h692 <| ga_no (i := 18) (bz 35 524287) rfl (by kernel_rfl) (fun _ _ _ _ h => h) rfl rfl rfl rfl rfl h692 <| ga_no (i := 19) (bz 35 1048575) rfl (by kernel_rfl) (fun _ _ _ _ h => h) rfl rfl rfl rfl rfl h692 <| ga_no (i := 20) (bz 35 2097151) rfl (by kernel_rfl) (fun _ _ _ _ h => h) rfl rfl rfl rfl rfl h692 <| ga_no (i := 21) (bz 35 4194303) rfl (by kernel_rfl) (fun _ _ _ _ h => h) rfl rfl rfl rfl rfl h692 <| ga_rG (i := 22) (bz 35 8388607) rfl (by kernel_rfl) (by decide) rfl rfl rfl rfl rfl h689 (r_pick1 rfl h692) <| ga_rG (i := 23) (bz 35 16777215) rfl (by kernel_rfl) (by decide) rfl rfl rfl rfl rfl h689 (r_move) <| ga_no (i := 24) (bz 35 33554431) rfl (by kernel_rfl) (fun _ _ _ _ h => h) rfl rfl rfl rfl rfl rfl <| ga_no (i := 25) (bz 35 67108863) rfl (by kernel_rfl) (fun _ _ _ _ h => h) rfl rfl rfl rfl rfl rfl ?_
          refine ga_no (i := 26) (bz 35 134217727) rfl (by kernel_rfl) (fun _ _ _ _ h => h) rfl rfl rfl rfl rfl rfl <| ga_rG (i := 27) (bz 35 268435455) rfl (by kernel_rfl) (by decide) rfl rfl rfl rfl rfl h689 (r_pick1 rfl rfl) <| ga_rG (i := 28) (bz 35 536870911) rfl (by kernel_rfl) (by decide) rfl rfl rfl rfl rfl h689 (r_move) <| ga_no (i := 29) (bz 35 1073741823) rfl (by kernel_rfl) (fun _ _ _ _ h => h) rfl rfl rfl rfl rfl rfl <| ga_no (i := 30) (bz 35 2147483647) rfl (by kernel_rfl) (fun _ _ _ _ h => h) rfl rfl rfl rfl rfl rfl <| ga_no (i := 31) (bz 35 4294967295) rfl (by kernel_rfl) (fun _ _ _ _ h => h) rfl rfl rfl rfl rfl rfl <| ga_no (i := 32) (bz 35 8589934591) rfl (by kernel_rfl) (fun _ _ _ _ h => h) rfl rfl rfl rfl rfl rfl <| ga_rG (i := 33) (bz 35 17179869183) rfl (by kernel_rfl) (by decide) rfl rfl rfl rfl rfl h689 (r_pick1 rfl rfl) <| ga_r (i := 34) (bz 35 34359738367) rfl (by kernel_rfl) (by decide) rfl (r_pick1 rfl h689) <| ga_done (by kernel_rfl) ?_
          refine d_then ?_
          refine c_flat [(1, .slice Ap1_0 p1.length cp1_0), (5, .bool x1), (6, .pointer (some ⟨g11, 0, none⟩)), (7, .int .i64 i62), (8, .pointer (some ⟨g14, 0, none⟩)), (10, .int .i64 i532), (11, .int .i64 i533), (12, .int .i64 i534), (13, .pointer (some ⟨g65, 0, none⟩)), (14, .int .i64 i535), (15, .pointer (some ⟨g676, 0, none⟩)), (16, .bool x669), (104, .bool true)] ⟨rfl, rfl, rfl, rfl, rfl, rfl, rfl, rfl, rfl, rfl, rfl, rfl, rfl, trivial⟩ (fun u => ?_)
          refine c_cond1 rfl rfl <| c_seq <| c_region <| g_v rfl r_assign <| g_nil <| d_then <| c_ret <| d_ret_then <| d_ret_block <| d_ret_block ?_
          refine d_ret_then <| d_ret_then <| d_ret_block <| d_ret_then <| d_ret_then ?_
          replace hm := nx_out (C := (fun e : ((List GItem) × Int × Int × Int × (List Int) × Int) ⊕ Bool => Sum.elim (fun e => m_law08_NetDatagrams_j2 x3 i62 l63 x1 e.1 e.2.1 e.2.2.1 e.2.2.2.1 e.2.2.2.2.1 e.2.2.2.2.2) (fun x => some x) e = some r)) hm hnx7 hr7
          replace hm : some false = some r := hm
          replace hm := Option.some.inj hm
          subst hm
          refine d_retC () Try.results5 ?_ trivial (fun W h => ok_pre (H1 := [_, _, _, _]) (R1 := [_, _]) h (fun W hφ => hφ)) (.inr rfl)
          refine res_tmp <| res_nil ?_
          exact rfl
         ·
          replace hm := ite_f hm (of_decide_eq_false h692)
          refine ga_do (i := 16) (bz 35 131071) rfl (by kernel_rfl) (fun _ _ _ _ h => h) rfl rfl rfl rfl rfl h692 (r_field (n := 3) Try.underlying40 rfl Try.sizeOf3 rfl rfl) <| ga_do (i := 17) (bz 35 262143) rfl (by kernel_rfl) (fun _ _ _ _ h => h) rfl rfl rfl rfl rfl h692 (r_load (tag := 100150) rfl rfl rfl Try.isAgg3) <| ga_rG (i := 18) (bz 35 524287) rfl (by kernel_rfl) (by decide) rfl rfl rfl rfl rfl h692 (r_field (n := 2) Try.underlying40 rfl Try.sizeOf3 rfl rfl) <| ga_rG (i := 19) (bz 35 1048575) rfl (by kernel_rfl) (by decide) rfl rfl rfl rfl rfl h692 (r_load (tag := 100150) rfl rfl rfl Try.isAgg3) <| ga_rG (i := 20) (bz 35 2097151) rfl (by kernel_rfl) (by decide) rfl rfl rfl rfl rfl h692 (r_add rfl rfl rfl) <| ga_rG (i := 21) (bz 35 4194303) rfl (by kernel_rfl) (by decide) rfl rfl rfl rfl rfl h692 (r_neq rfl rfl) <| ga_rG (i := 22) (bz 35 8388607) rfl (by kernel_rfl) (by decide) rfl rfl rfl rfl rfl h689 (r_pick0 rfl h692) <| ga_rG (i := 23) (bz 35 16777215) rfl (by kernel_rfl) (by decide) rfl rfl rfl rfl rfl h689 (r_move) ?_
          refine ga_if (t := 93) rfl (fun h693 => ?_) (fun h693 => ?_)
          ·
           replace hm := ite_t hm (of_decide_eq_true h693)
           refine ga_no (i := 24) (bz 35 33554431) rfl (by kernel_rfl) (fun _ _ _ _ h => h) rfl rfl rfl rfl rfl h693 <| ga_no (i := 25) (bz 35 67108863) rfl (by kernel_rfl) (fun _ _ _ _ h => h) rfl rfl rfl rfl rfl h693 <| ga_no (i := 26) (bz 35 134217727) rfl (by kernel_rfl) (fun _ _ _ _ h => h) rfl rfl rfl rfl rfl h693 <| ga_rG (i := 27) (bz 35 268435455) rfl (by kernel_rfl) (by decide) rfl rfl rfl rfl rfl h689 (r_pick1 rfl h693) <| ga_rG (i := 28) (bz 35 536870911) rfl (by kernel_rfl) (by decide) rfl rfl rfl rfl rfl h689 (r_move) <| ga_no (i := 29) (bz 35 1073741823) rfl (by kernel_rfl) (fun _ _ _ _ h => h) rfl rfl rfl rfl rfl rfl <| ga_no (i := 30) (bz 35 2147483647) rfl (by kernel_rfl) (fun _ _ _ _ h => h) rfl rfl rfl rfl rfl rfl <| ga_no (i := 31) (bz 35 4294967295) rfl (by kernel_rfl) (fun _ _ _ _ h => h) rfl rfl rfl rfl rfl rfl <| ga_no (i := 32) (bz 35 8589934591) rfl (by kernel_rfl) (fun _ _ _ _ h => h) rfl rfl rfl rfl rfl rfl <| ga_rG (i := 33) (bz 35 17179869183) rfl (by kernel_rfl) (by decide) rfl rfl rfl rfl rfl h689 (r_pick1 rfl rfl) ?_
           refine ga_r (i := 34) (bz 35 34359738367) rfl (by kernel_rfl) (by decide) rfl (r_pick1 rfl h689) <| ga_done (by kernel_rfl) <| d_then ?_
           refine c_flat [(1, .slice Ap1_0 p1.length cp1_0), (5, .bool x1), (6, .pointer (some ⟨g11, 0, none⟩)), (7, .int .i64 i62), (8, .pointer (some ⟨g14, 0, none⟩)), (10, .int .i64 i532), (11, .int .i64 i533), (12, .int .i64 i534), (13, .pointer (some ⟨g65, 0, none⟩)), (14, .int .i64 i535), (15, .pointer (some ⟨g676, 0, none⟩)), (16, .bool x669), (104, .bool true)] ⟨rfl, rfl, rfl, rfl, rfl, rfl, rfl, rfl, rfl, rfl, rfl, rfl, rfl, trivial⟩ (fun u => ?_)
           refine c_cond1 rfl rfl <| c_seq <| c_region <| g_v rfl r_assign <| g_nil <| d_then <| c_ret <| d_ret_then <| d_ret_block <| d_ret_block ?_
           refine d_ret_then <| d_ret_then <| d_ret_block <| d_ret_then <| d_ret_then ?_
           replace hm := nx_out (C := (fun e : ((List GItem) × Int × Int × Int × (List Int) × Int) ⊕ Bool => Sum.elim (fun e => m_law08_NetDatagrams_j2 x3 i62 l63 x1 e.1 e.2.1 e.2.2.1 e.2.2.2.1 e.2.2.2.2.1 e.2.2.2.2.2) (fun x => some x) e = some r)) hm hnx7 hr7
           replace hm : some false = some r := hm
           replace hm := Option.some.inj hm
           subst hm
           refine d_retC () Try.results5 ?_ trivial (fun W h => ok_pre (H1 := [_, _, _, _]) (R1 := [_, _]) h (fun W hφ => hφ)) (.inr rfl)
           refine res_tmp <| res_nil ?_
           exact rfl
          ·
           replace hm := ite_f hm (of_decide_eq_false h693)
           refine ga_rG (i := 24) (bz 35 33554431) rfl (by kernel_rfl) (by decide) rfl rfl rfl rfl rfl h693 (r_field (n := 2) Try.underlying40 rfl Try.sizeOf3 rfl rfl) <| ga_rG (i := 25) (bz 35 67108863) rfl (by kernel_rfl) (by decide) rfl rfl rfl rfl rfl h693 (r_load (tag := 100150) rfl rfl rfl Try.isAgg3) <| ga_rG (i := 26) (bz 35 134217727) rfl (by kernel_rfl) (by decide) rfl rfl rfl rfl rfl h693 (r_lss rfl rfl) <| ga_rG (i := 27) (bz 35 268435455) rfl (by kernel_rfl) (by decide) rfl rfl rfl rfl rfl h689 (r_pick0 rfl h693) <| ga_rG (i := 28) (bz 35 536870911) rfl (by kernel_rfl) (by decide) rfl rfl rfl rfl rfl h689 (r_move) ?_
           refine ga_if (t := 98) rfl (fun h694 => ?_) (fun h694 => ?_)
           ·
            replace hm := ite_t hm (of_decide_eq_true h694)
            refine ga_no (i := 29) (bz 35 1073741823) rfl (by kernel_rfl) (fun _ _ _ _ h => h) rfl rfl rfl rfl rfl h694 <| ga_no (i := 30) (bz 35 2147483647) rfl (by kernel_rfl) (fun _ _ _ _ h => h) rfl rfl rfl rfl rfl h694 <| ga_no (i := 31) (bz 35 4294967295) rfl (by kernel_rfl) (fun _ _ _ _ h => h) rfl rfl rfl rfl rfl h694 <| ga_no (i := 32) (bz 35 8589934591) rfl (by kernel_rfl) (fun _ _ _ _ h => h) rfl rfl rfl rfl rfl h694 <| ga_rG (i := 33) (bz 35 17179869183) rfl (by kernel_rfl) (by decide) rfl rfl rfl rfl rfl h689 (r_pick1 rfl h694) <| ga_r (i := 34) (bz 35 34359738367) rfl (by kernel_rfl) (by decide) rfl (r_pick1 rfl h689) <| ga_done (by kernel_rfl) <| d_then ?_
            refine c_flat [(1, .slice Ap1_0 p1.length cp1_0), (5, .bool x1), (6, .pointer (some ⟨g11, 0, none⟩)), (7, .int .i64 i62), (8, .pointer (some ⟨g14, 0, none⟩)), (10, .int .i64 i532), (11, .int .i64 i533), (12, .int .i64 i534), (13, .pointer (some ⟨g65, 0, none⟩)), (14, .int .i64 i535), (15, .pointer (some ⟨g676, 0, none⟩)), (16, .bool x669), (104, .bool true)] ⟨rfl, rfl, rfl, rfl, rfl, rfl, rfl, rfl, rfl, rfl, rfl, rfl, rfl, trivial⟩ (fun u => ?_)
            refine c_cond1 rfl rfl <| c_seq <| c_region <| g_v rfl r_assign <| g_nil <| d_then <| c_ret <| d_ret_then <| d_ret_block <| d_ret_block ?_
            refine d_ret_then <| d_ret_then <| d_ret_block <| d_ret_then <| d_ret_then ?_
            replace hm := nx_out (C := (fun e : ((List GItem) × Int × Int × Int × (List Int) × Int) ⊕ Bool => Sum.elim (fun e => m_law08_NetDatagrams_j2 x3 i62 l63 x1 e.1 e.2.1 e.2.2.1 e.2.2.2.1 e.2.2.2.2.1 e.2.2.2.2.2) (fun x => some x) e = some r)) hm hnx7 hr7
            replace hm : some false = some r := hm
            replace hm := Option.some.inj hm
            subst hm
            refine d_retC () Try.results5 ?_ trivial (fun W h => ok_pre (H1 := [_, _, _, _]) (R1 := [_, _]) h (fun W hφ => hφ)) (.inr rfl)
            refine res_tmp <| res_nil ?_
            exact rfl
           ·
            replace hm := ite_f hm (of_decide_eq_false h694)
            refine ga_do (i := 29) (bz 35 1073741823) rfl (by kernel_rfl) (fun _ _ _ _ h => h) rfl rfl rfl rfl rfl h694 (r_field (n := 2) Try.underlying40 rfl Try.sizeOf3 rfl rfl) <| ga_do (i := 30) (bz 35 2147483647) rfl (by kernel_rfl) (fun _ _ _ _ h => h) rfl rfl rfl rfl rfl h694 (r_load (tag := 100150) rfl rfl rfl Try.isAgg3) <| ga_rG (i := 31) (bz 35 4294967295) rfl (by kernel_rfl) (by decide) rfl rfl rfl rfl rfl h694 (r_move) <| ga_rG (i := 32) (bz 35 8589934591) rfl (by kernel_rfl) (by decide) rfl rfl rfl rfl rfl h694 (r_gtr rfl rfl) <| ga_rG (i := 33) (bz 35 17179869183) rfl (by kernel_rfl) (by decide) rfl rfl rfl rfl rfl h689 (r_pick0 rfl h694) <| ga_r (i := 34) (bz 35 34359738367) rfl (by kernel_rfl) (by decide) rfl (r_pick1 rfl h689) <| ga_done (by kernel_rfl) <| d_then ?_
            refine c_flat [(1, .slice Ap1_0 p1.length cp1_0), (5, .bool x1), (6, .pointer (some ⟨g11, 0, none⟩)), (7, .int .i64 i62), (8, .pointer (some ⟨g14, 0, none⟩)), (10, .int .i64 i532), (11, .int .i64 i533), (12, .int .i64 i534), (13, .pointer (some ⟨g65, 0, none⟩)), (14, .int .i64 i535), (15, .pointer (some ⟨g676, 0, none⟩)), (16, .bool x669), (104, .bool (decide (i62 < x668.fFrom)))] ⟨rfl, rfl, rfl, rfl, rfl, rfl, rfl, rfl, rfl, rfl, rfl, rfl, rfl, trivial⟩ (fun u => ?_)
            refine c_cond rfl (fun h695 => ?_) (fun h695 => ?_)
            ·
             replace hm := ite_t hm (of_decide_eq_true h695)
             refine c_seq <| c_region <| g_v rfl r_assign <| g_nil <| d_then <| c_ret <| d_ret_then <| d_ret_block <| d_ret_block <| d_ret_then ?_
             refine d_ret_then <| d_ret_block <| d_ret_then <| d_ret_then ?_
             replace hm := nx_out (C := (fun e : ((List GItem) × Int × Int × Int × (List Int) × Int) ⊕ Bool => Sum.elim (fun e => m_law08_NetDatagrams_j2 x3 i62 l63 x1 e.1 e.2.1 e.2.2.1 e.2.2.2.1 e.2.2.2.2.1 e.2.2.2.2.2) (fun x => some x) e = some r)) hm hnx7 hr7
             replace hm : some false = some r := hm
             replace hm := Option.some.inj hm
             subst hm
             refine d_retC () Try.results5 ?_ trivial (fun W h => ok_pre (H1 := [_, _, _, _]) (R1 := [_, _]) h (fun W hφ => hφ)) (.inr rfl)
             refine res_tmp <| res_nil ?_
             exact rfl
            ·
             replace hm := ite_f hm (of_decide_eq_false h695)
             refine c_skip <| d_then <| c_seq <| c_region <| g_v rfl r_move <| g_nil <| d_then <| c_cond1 rfl h689 <| c_seq <| c_region ?_
             refine g_v rfl r_move <| g_v rfl (r_add rfl rfl rfl) <| g_v rfl r_assign <| g_nil <| d_then <| c_region <| g_v rfl (r_field (n := 2) Try.underlying40 rfl Try.sizeOf3 rfl rfl) <| g_v rfl (r_load (tag := 100150) rfl rfl rfl Try.isAgg3) ?_
             replace hm := bnd hm
             obtain ⟨a696, ha696, hm⟩ := hm
             refine g_v rfl (r_aix Try.underlying47 Try.sizeOf3 rfl rfl ha696 rfl) ?_
             replace hm := bnd hm
             obtain ⟨x697, hx697, hm⟩ := hm
             refine g_v rfl (r_ldL (tag := 100130) (f := (fun x : Int => Value.int .i64 x)) rfl rfl Try.isAgg3 hx697) <| g_v rfl (r_add rfl rfl rfl) ?_
             replace hm := bnd hm
             obtain ⟨a698, ha698, hm⟩ := hm
             refine g_v rfl (r_aix Try.underlying47 Try.sizeOf3 rfl rfl ha698 rfl) ?_
             replace hm := bnd hm
             obtain ⟨l699, hl699, hm⟩ := hm
             refine g_s (e_stL (tag := 100130) (f := (fun x : Int => Value.int .i64 x)) (v := w64 (x697 + 1)) rfl rfl rfl rfl rfl Try.sizeOf3 rfl hl699) <| g_nil <| d_normal_block <| d_normal_block <| d_then ?_
             refine c_flat [(1, .slice Ap1_0 p1.length cp1_0), (5, .bool x1), (6, .pointer (some ⟨g11, 0, none⟩)), (7, .int .i64 i62), (8, .pointer (some ⟨g14, 0, none⟩)), (10, .int .i64 i532), (11, .int .i64 i533), (12, .int .i64 (w64 (i534 + 1))), (13, .pointer (some ⟨g65, 0, none⟩)), (14, .int .i64 i535)] ⟨rfl, rfl, rfl, rfl, rfl, rfl, rfl, rfl, rfl, rfl, trivial⟩ (fun u => ?_)
             refine c_sta ⟨w0, M, (100150, g676, .cells #[.int .i64 x668.fNumber, .int .i64 x668.fKind, .int .i64 x668.fFrom, .int .i64 x668.fTo, .int .i64 x668.fConn, .string x668.fBody] 40 (0, 0)) :: (100225, g11, .cells #[.slice A672 x670.fitems.length c673, .slice A8 x3.fconns.length c9, .int .i64 i537, .int .i64 x3.fopens] 61 (0, 0)) :: (100130, g65, .cells (l699.map (fun x : Int => Value.int .i64 x)).toArray 47 (0, 0)) :: (100080, g14, .cells (l63.map (fun x : Int => Value.int .i64 x)).toArray 47 (0, 0)) :: H, (100220, ⟨.slice A672 x670.fitems.length c673, 40, 6, x670.fitems.length, x670.fitems.flatMap GItem.enc⟩) :: (100221, ⟨.slice A8 x3.fconns.length c9, 63, 3, x3.fconns.length, x3.fconns.flatMap Gnet_conn.enc⟩) :: R, φ⟩ (fun _ h => h) <| c_region <| g_v rfl r_move <| g_v rfl (r_add rfl rfl rfl) <| g_v rfl r_assign <| g_nil ?_
             obtain ⟨n700, hn700, hlp⟩ := nx_inl hm hnx7
             exact d_round (n700, x670.fitems, i532, i533, w64 (i534 + 1), w64 (i535 + 1), l699, i537, A672, c673) ⟨hlp, hc673⟩ hn700 ⟨rfl, rfl, rfl, rfl, rfl, rfl, rfl, rfl, rfl, rfl, trivial⟩ (fun W h => (ok_front (t := 100130) (t' := 100130) (ok_front (t := 100080) (t' := 100080) (ok_front (t := 100225) (t' := 100225) (h.dropH (t := 100150) rfl) rfl) rfl) rfl).phi (fun W hφ => hφ))
       ·
        replace hm := ite_f hm (bool_nt h689)
        refine ga_no (i := 2) (bz 35 7) rfl (by kernel_rfl) (fun _ _ _ _ h => h) rfl rfl rfl rfl rfl h689 <| ga_no (i := 3) (bz 35 15) rfl (by kernel_rfl) (fun _ _ _ _ h => h) rfl rfl rfl rfl rfl h689 <| ga_no (i := 4) (bz 35 31) rfl (by kernel_rfl) (fun _ _ _ _ h => h) rfl rfl rfl rfl rfl h689 <| ga_no (i := 5) (bz 35 63) rfl (by kernel_rfl) (fun _ _ _ _ h => h) rfl rfl rfl rfl rfl h689 <| ga_no (i := 6) (bz 35 127) rfl (by kernel_rfl) (fun _ _ _ _ h => h) rfl rfl rfl rfl rfl h689 <| ga_nu (i := 7) (bz 35 255) rfl (by kernel_rfl) (fun _ _ _ _ h => h) rfl rfl rfl rfl rfl <| ga_nu (i := 8) (bz 35 511) rfl (by kernel_rfl) (fun _ _ _ _ h => h) rfl rfl rfl rfl rfl <| ga_nu (i := 9) (bz 35 1023) rfl (by kernel_rfl) (fun _ _ _ _ h => h) rfl rfl rfl rfl rfl <| ga_nu (i := 10) (bz 35 2047) rfl (by kernel_rfl) (fun _ _ _ _ h => h) rfl rfl rfl rfl rfl <| ga_nu (i := 11) (bz 35 4095) rfl (by kernel_rfl) (fun _ _ _ _ h => h) rfl rfl rfl rfl rfl ?_
        refine ga_nu (i := 12) (bz 35 8191) rfl (by kernel_rfl) (fun _ _ _ _ h => h) rfl rfl rfl rfl rfl <| ga_nu (i := 13) (bz 35 16383) rfl (by kernel_rfl) (fun _ _ _ _ h => h) rfl rfl rfl rfl rfl <| ga_no (i := 14) (bz 35 32767) rfl (by kernel_rfl) (fun _ _ _ _ h => h) rfl rfl rfl rfl rfl h689 <| ga_no (i := 15) (bz 35 65535) rfl (by kernel_rfl) (fun _ _ _ _ h => h) rfl rfl rfl rfl rfl h689 <| ga_nu (i := 16) (bz 35 131071) rfl (by kernel_rfl) (fun _ _ _ _ h => h) rfl rfl rfl rfl rfl <| ga_nu (i := 17) (bz 35 262143) rfl (by kernel_rfl) (fun _ _ _ _ h => h) rfl rfl rfl rfl rfl <| ga_nu (i := 18) (bz 35 524287) rfl (by kernel_rfl) (fun _ _ _ _ h => h) rfl rfl rfl rfl rfl <| ga_nu (i := 19) (bz 35 1048575) rfl (by kernel_rfl) (fun _ _ _ _ h => h) rfl rfl rfl rfl rfl <| ga_nu (i := 20) (bz 35 2097151) rfl (by kernel_rfl) (fun _ _ _ _ h => h) rfl rfl rfl rfl rfl <| ga_nu (i := 21) (bz 35 4194303) rfl (by kernel_rfl) (fun _ _ _ _ h => h) rfl rfl rfl rfl rfl ?_
        refine ga_no (i := 22) (bz 35 8388607) rfl (by kernel_rfl) (fun _ _ _ _ h => h) rfl rfl rfl rfl rfl h689 <| ga_no (i := 23) (bz 35 16777215) rfl (by kernel_rfl) (fun _ _ _ _ h => h) rfl rfl rfl rfl rfl h689 <| ga_nu (i := 24) (bz 35 33554431) rfl (by kernel_rfl) (fun _ _ _ _ h => h) rfl rfl rfl rfl rfl <| ga_nu (i := 25) (bz 35 67108863) rfl (by kernel_rfl) (fun _ _ _ _ h => h) rfl rfl rfl rfl rfl <| ga_nu (i := 26) (bz 35 134217727) rfl (by kernel_rfl) (fun _ _ _ _ h => h) rfl rfl rfl rfl rfl <| ga_no (i := 27) (bz 35 268435455) rfl (by kernel_rfl) (fun _ _ _ _ h => h) rfl rfl rfl rfl rfl h689 <| ga_no (i := 28) (bz 35 536870911) rfl (by kernel_rfl) (fun _ _ _ _ h => h) rfl rfl rfl rfl rfl h689 <| ga_nu (i := 29) (bz 35 1073741823) rfl (by kernel_rfl) (fun _ _ _ _ h => h) rfl rfl rfl rfl rfl <| ga_nu (i := 30) (bz 35 2147483647) rfl (by kernel_rfl) (fun _ _ _ _ h => h) rfl rfl rfl rfl rfl <| ga_nu (i := 31) (bz 35 4294967295) rfl (by kernel_rfl) (fun _ _ _ _ h => h) rfl rfl rfl rfl rfl ?_
        refine ga_nu (i := 32) (bz 35 8589934591) rfl (by kernel_rfl) (fun _ _ _ _ h => h) rfl rfl rfl rfl rfl <| ga_no (i := 33) (bz 35 17179869183) rfl (by kernel_rfl) (fun _ _ _ _ h => h) rfl rfl rfl rfl rfl h689 <| ga_r (i := 34) (bz 35 34359738367) rfl (by kernel_rfl) (by decide) rfl (r_pick0 rfl h689) <| ga_done (by kernel_rfl) <| d_then <| c_cond0 rfl rfl <| c_skip <| d_then <| c_seq <| c_region ?_
        refine g_v rfl r_move <| g_nil <| d_then <| c_cond0 rfl h689 <| c_skip <| d_normal_block <| d_normal_block <| d_then <| c_region <| g_v rfl r_move ?_
        refine g_v rfl (r_add rfl rfl rfl) <| g_v rfl r_assign <| g_nil ?_
        obtain ⟨n701, hn701, hlp⟩ := nx_inl hm hnx7
        exact d_round (n701, x670.fitems, i532, i533, i534, w64 (i535 + 1), l536, i537, A672, c673) ⟨hlp, hc673⟩ hn701 ⟨rfl, rfl, rfl, rfl, rfl, rfl, rfl, rfl, rfl, rfl, trivial⟩ (fun W h => (ok_front (t := 100130) (t' := 100130) (ok_front (t := 100080) (t' := 100080) (ok_front (t := 100225) (t' := 100225) (h.dropH (t := 100150) rfl) rfl) rfl) rfl).phi (fun W hφ => hφ))
    ·
     replace hm := ite_f hm (of_decide_eq_false h623)
     refine c_exit <| d_exit_then <| d_exit_then <| d_exit_block ?_
     replace hm := nx_out (C := (fun e : ((List GItem) × Int × Int × Int × (List Int) × Int) ⊕ Bool => Sum.elim (fun e => m_law08_NetDatagrams_j2 x3 i62 l63 x1 e.1 e.2.1 e.2.2.1 e.2.2.2.1 e.2.2.2.2.1 e.2.2.2.2.2) (fun x => some x) e = some r)) hm hnx7 hr7
     exact d_round (l529, i532, i533, i534, l536, i537, A530, c531) ⟨hm, hc531⟩ Nat.zero_lt_one ⟨rfl, rfl, rfl, rfl, rfl, rfl, rfl, rfl, trivial⟩ (fun W h => h.phi (fun W hφ => hφ))
   ·
    replace hm := ite_f hm (of_decide_eq_false h622)
    refine g_no rfl rfl rfl rfl rfl h622 <| g_v rfl (r_pick0 rfl h622) <| g_nil <| d_then <| c_cond0 rfl rfl <| c_exit <| d_exit_then <| d_exit_then <| d_exit_block ?_
    replace hm := nx_out (C := (fun e : ((List GItem) × Int × Int × Int × (List Int) × Int) ⊕ Bool => Sum.elim (fun e => m_law08_NetDatagrams_j2 x3 i62 l63 x1 e.1 e.2.1 e.2.2.1 e.2.2.2.1 e.2.2.2.2.1 e.2.2.2.2.2) (fun x => some x) e = some r)) hm hnx7 hr7
    exact d_round (l529, i532, i533, i534, l536, i537, A530, c531) ⟨hm, hc531⟩ Nat.zero_lt_one ⟨rfl, rfl, rfl, rfl, rfl, rfl, rfl, rfl, trivial⟩ (fun W h => h.phi (fun W hφ => hφ))
  ·
   unfold m_law08_NetDatagrams_j2 at hm
   refine d_flat [(5, .bool x1), (6, .pointer (some ⟨g11, 0, none⟩)), (7, .int .i64 i62), (8, .pointer (some ⟨g14, 0, none⟩)), (10, .int .i64 i244), (11, .int .i64 i245), (12, .int .i64 i246), (13, .pointer (some ⟨g65, 0, none⟩))] ⟨rfl, rfl, rfl, rfl, rfl, rfl, rfl, rfl, trivial⟩ (fun u => ?_)
   refine d_sta ⟨w0, M, (100130, g65, .cells (l247.map (fun x : Int => Value.int .i64 x)).toArray 47 (0, 0)) :: (100080, g14, .cells (l63.map (fun x : Int => Value.int .i64 x)).toArray 47 (0, 0)) :: (100225, g11, .cells #[.slice A242 l241.length c243, .slice A8 x3.fconns.length c9, .int .i64 i248, .int .i64 x3.fopens] 61 (0, 0)) :: H, (100220, ⟨.slice A242 l241.length c243, 40, 6, l241.length, l241.flatMap GItem.enc⟩) :: (100221, ⟨.slice A8 x3.fconns.length c9, 63, 3, x3.fconns.length, x3.fconns.flatMap Gnet_conn.enc⟩) :: R, φ⟩ (fun _ h => h) <| d_then <| c_seq ?_
   refine c_cut (ι := (List GItem) × Int × (List Int) × Option Addr × Nat) [5, 6, 7, 8, 10, 11, 12, 13] (fun ⟨l301, i304, l305, A302, c303⟩ => [(12, .int .i64 i304)]) (fun ⟨l301, i304, l305, A302, c303⟩ => ⟨w0, M, (100130, g65, .cells (l305.map (fun x : Int => Value.int .i64 x)).toArray 47 (0, 0)) :: (100080, g14, .cells (l63.map (fun x : Int => Value.int .i64 x)).toArray 47 (0, 0)) :: (100225, g11, .cells #[.slice A302 l301.length c303, .slice A8 x3.fconns.length c9, .int .i64 i248, .int .i64 x3.fopens] 61 (0, 0)) :: H, (100220, ⟨.slice A302 l301.length c303, 40, 6, l301.length, l301.flatMap GItem.enc⟩) :: (100221, ⟨.slice A8 x3.fconns.length c9, 63, 3, x3.fconns.length, x3.fconns.flatMap Gnet_conn.enc⟩) :: R, φ⟩) (fun ⟨l301, i304, l305, A302, c303⟩ => m_law08_NetDatagrams_j3 i62 l63 i245 x1 i244 x3 i248 l301 i304 l305 = some r ∧ l301.length ≤ c303) ?_ (fun ⟨l301, i304, l305, A302, c303⟩ u ⟨hm, hc303⟩ => ?_)
   ·
    refine c_seq <| c_region <| g_v rfl r_assign <| g_nil <| d_then <| c_block ?_
    replace hm := bnd hm
    obtain ⟨out6, hl6, hr6⟩ := hm
    obtain ⟨n428', hl6⟩ := loop_lp hl6
    refine c_loopU (ι := Nat × (List GItem) × Int × Int × (List Int) × Option Addr × Nat) [5, 6, 7, 8, 10, 11, 12, 13, 17] (fun ⟨n428, l399, i402, i403, l404, A400, c401⟩ => [(12, .int .i64 i402), (17, .int .i64 i403)]) (fun ⟨n428, l399, i402, i403, l404, A400, c401⟩ => ⟨w0, M, (100130, g65, .cells (l404.map (fun x : Int => Value.int .i64 x)).toArray 47 (0, 0)) :: (100080, g14, .cells (l63.map (fun x : Int => Value.int .i64 x)).toArray 47 (0, 0)) :: (100225, g11, .cells #[.slice A400 l399.length c401, .slice A8 x3.fconns.length c9, .int .i64 i248, .int .i64 x3.fopens] 61 (0, 0)) :: H, (100220, ⟨.slice A400 l399.length c401, 40, 6, l399.length, l399.flatMap GItem.enc⟩) :: (100221, ⟨.slice A8 x3.fconns.length c9, 63, 3, x3.fconns.length, x3.fconns.flatMap Gnet_conn.enc⟩) :: R, φ⟩) (fun ⟨n428, l399, i402, i403, l404, A400, c401⟩ => Lp (fun s => m_law08_NetDatagrams_s6 x3 i248 i62 s.1 s.2.1 s.2.2.1 s.2.2.2) n428 (l399, i402, i403, l404) out6 ∧ l399.length ≤ c401) (fun ⟨n428, l399, i402, i403, l404, A400, c401⟩ => n428) (n428', l241, i246, 0, l247, A242, c243) ⟨hl6, hc243⟩ ⟨rfl, rfl, rfl, rfl, rfl, rfl, rfl, rfl, rfl, trivial⟩ (fun W h => h.phi (fun W hφ => hφ)) (fun ⟨n428, l399, i402, i403, l404, A400, c401⟩ u ⟨hlp, hc401⟩ => ?_)
    obtain ⟨o6, hm, hnx6⟩ := lp_step hlp
    clear hlp
    replace hm : m_law08_NetDatagrams_s6 x3 i248 i62 l399 i402 i403 l404 = some o6 := hm
    unfold m_law08_NetDatagrams_s6 at hm
    refine c_flat [(5, .bool x1), (6, .pointer (some ⟨g11, 0, none⟩)), (7, .int .i64 i62), (8, .pointer (some ⟨g14, 0, none⟩)), (10, .int .i64 i244), (11, .int .i64 i245), (12, .int .i64 i402), (13, .pointer (some ⟨g65, 0, none⟩)), (17, .int .i64 i403)] ⟨rfl, rfl, rfl, rfl, rfl, rfl, rfl, rfl, rfl, trivial⟩ (fun u => ?_)
    refine c_sta ⟨w0, M, (100130, g65, .cells (l404.map (fun x : Int => Value.int .i64 x)).toArray 47 (0, 0)) :: (100080, g14, .cells (l63.map (fun x : Int => Value.int .i64 x)).toArray 47 (0, 0)) :: (100225, g11, .cells #[.slice A400 l399.length c401, .slice A8 x3.fconns.length c9, .int .i64 i248, .int .i64 x3.fopens] 61 (0, 0)) :: H, (100220, ⟨.slice A400 l399.length c401, 40, 6, l399.length, l399.flatMap GItem.enc⟩) :: (100221, ⟨.slice A8 x3.fconns.length c9, 63, 3, x3.fconns.length, x3.fconns.flatMap Gnet_conn.enc⟩) :: R, φ⟩ (fun _ h => h) <| c_seq <| c_seq <| c_region <| g_v rfl r_move <| g_v rfl (r_lss rfl rfl) <| g_nil <| d_then ?_
    refine c_cond rfl (fun h429 => ?_) (fun h429 => ?_)
    ·
     replace hm := ite_t hm (of_decide_eq_true h429)
     refine c_skip <| d_then <| c_seq <| c_block <| c_seq <| c_region <| g_v rfl r_move <| g_v rfl r_move ?_
     replace hm := bnd hm
     obtain ⟨⟨x430, x431, x432⟩, hx433, hm⟩ := hm
     refine g_cn ⟨w0, M, (1000, g11, .cells #[.slice A400 l399.length c401, .slice A8 x3.fconns.length c9, .int .i64 i248, .int .i64 x3.fopens] 61 (0, 0)) :: (100130, g65, .cells (l404.map (fun x : Int => Value.int .i64 x)).toArray 47 (0, 0)) :: (100080, g14, .cells (l63.map (fun x : Int => Value.int .i64 x)).toArray 47 (0, 0)) :: H, (1000, ⟨.slice A400 l399.length c401, 40, 6, l399.length, l399.flatMap GItem.enc⟩) :: (1001, ⟨.slice A8 x3.fconns.length c9, 63, 3, x3.fconns.length, x3.fconns.flatMap Gnet_conn.enc⟩) :: R, φ⟩ (fun W h => (ok_front (t := 100225) (t' := 1000) (ok_frontR (t := 100220) (t' := 1000) (ok_frontR (t := 100221) (t' := 1001) h rfl) rfl) rfl)) Try.call17 rfl rfl (c_net_Net_Take i403 g11 (⟨l399, x3.fconns, i248, x3.fopens⟩ : Gnet_Net) A400 c401 hc401 A8 c9 hc9 _ hx433) (fun ⟨A434, c435⟩ hc435 => ?_)
     refine g_sta _ (fun W h => (ok_frontR (t := 2000) (t' := 100220) (ok_frontR (t := 1001) (t' := 100221) (ok_front (t := 1000) (t' := 100225) h rfl) rfl) rfl)) <| g_v rfl r_move <| g_v rfl (r_extract rfl rfl) <| g_v rfl (r_extract rfl rfl) ?_
     refine g_e rfl (e_alloc 100180 Try.zeroValue40) (fun g438 _ => ?_)
     refine g_storeL (tag := 100180) rfl rfl rfl rfl Try.sizeOf40 rfl rfl <| g_v rfl r_assign <| g_nil <| d_then ?_
     refine c_flat [(5, .bool x1), (6, .pointer (some ⟨g11, 0, none⟩)), (7, .int .i64 i62), (8, .pointer (some ⟨g14, 0, none⟩)), (10, .int .i64 i244), (11, .int .i64 i245), (12, .int .i64 i402), (13, .pointer (some ⟨g65, 0, none⟩)), (17, .int .i64 i403), (18, .pointer (some ⟨g438, 0, none⟩)), (19, .bool x431)] ⟨rfl, rfl, rfl, rfl, rfl, rfl, rfl, rfl, rfl, rfl, rfl, trivial⟩ (fun u => ?_)
     refine c_sta ⟨w0, M, (100180, g438, .cells #[.int .i64 x430.fNumber, .int .i64 x430.fKind, .int .i64 x430.fFrom, .int .i64 x430.fTo, .int .i64 x430.fConn, .string x430.fBody] 40 (0, 0)) :: (100225, g11, .cells #[.slice A434 x432.fitems.length c435, .slice A8 x3.fconns.length c9, .int .i64 i248, .int .i64 x3.fopens] 61 (0, 0)) :: (100130, g65, .cells (l404.map (fun x : Int => Value.int .i64 x)).toArray 47 (0, 0)) :: (100080, g14, .cells (l63.map (fun x : Int => Value.int .i64 x)).toArray 47 (0, 0)) :: H, (100220, ⟨.slice A434 x432.fitems.length c435, 40, 6, x432.fitems.length, x432.fitems.flatMap GItem.enc⟩) :: (100221, ⟨.slice A8 x3.fconns.length c9, 63, 3, x3.fconns.length, x3.fconns.flatMap Gnet_conn.enc⟩) :: R, φ⟩ (fun _ h => h) <| c_seq <| c_seq <| c_region <| g_v rfl r_move <| g_v rfl (r_not rfl) <| g_nil <| d_then ?_
     refine c_cond rfl (fun h439 => ?_) (fun h439 => ?_)
     ·
      have h439' : x431 = false := by revert h439; cases x431 <;> simp
      replace hm := ite_f hm (bool_nt h439')
      refine c_exit <| d_exit_then <| d_exit_other rfl <| d_exit_then <| d_exit_then <| d_exit_block ?_
      replace hm := nx_out (C := (fun e : ((List GItem) × Int × (List Int)) ⊕ Bool => Sum.elim (fun e => m_law08_NetDatagrams_j3 i62 l63 i245 x1 i244 x3 i248 e.1 e.2.1 e.2.2) (fun x => some x) e = some r)) hm hnx6 hr6
      exact d_round (x432.fitems, i402, l404, A434, c435) ⟨hm, hc435⟩ Nat.zero_lt_one ⟨rfl, rfl, rfl, rfl, rfl, rfl, rfl, rfl, trivial⟩ (fun W h => (ok_front (t := 100130) (t' := 100130) (ok_front (t := 100080) (t' := 100080) (ok_front (t := 100225) (t' := 100225) (h.dropH (t := 100180) rfl) rfl) rfl) rfl).phi (fun W hφ => hφ))
     ·
      have h439' : x431 = true := by revert h439; cases x431 <;> simp
      replace hm := ite_t hm h439'
      refine c_skip <| d_then <| c_seq <| c_seq <| c_region <| g_v rfl (r_field (n := 2) Try.underlying40 rfl Try.sizeOf3 rfl rfl) <| g_v rfl (r_load (tag := 100180) rfl rfl rfl Try.isAgg3) <| g_v rfl (r_lss rfl rfl) <| g_v rfl r_move ?_
      refine g_if rfl rfl rfl rfl rfl (fun h440 => ?_) (fun h440 => ?_)
      ·
       replace hm := ite_f hm (of_decide_eq_false h440)
       refine g_v rfl (r_field (n := 2) Try.underlying40 rfl Try.sizeOf3 rfl rfl) <| g_do rfl rfl rfl rfl rfl h440 <| g_v rfl (r_load (tag := 100180) rfl rfl rfl Try.isAgg3) <| g_do rfl rfl rfl rfl rfl h440 <| g_v rfl r_move <| g_do rfl rfl rfl rfl rfl h440 <| g_v rfl (r_gtr rfl rfl) <| g_v rfl (r_pick0 rfl h440) <| g_nil <| d_then ?_
       refine c_flat [(5, .bool x1), (6, .pointer (some ⟨g11, 0, none⟩)), (7, .int .i64 i62), (8, .pointer (some ⟨g14, 0, none⟩)), (10, .int .i64 i244), (11, .int .i64 i245), (12, .int .i64 i402), (13, .pointer (some ⟨g65, 0, none⟩)), (17, .int .i64 i403), (18, .pointer (some ⟨g438, 0, none⟩)), (156, .bool (decide (i62 < x430.fFrom)))] ⟨rfl, rfl, rfl, rfl, rfl, rfl, rfl, rfl, rfl, rfl, rfl, trivial⟩ (fun u => ?_)
       refine c_cond rfl (fun h441 => ?_) (fun h441 => ?_)
       ·
        replace hm := ite_t hm (of_decide_eq_true h441)
        refine c_seq <| c_region <| g_v rfl r_assign <| g_nil <| d_then <| c_ret <| d_ret_then <| d_ret_block <| d_ret_then <| d_ret_then ?_
        refine d_ret_block <| d_ret_then <| d_ret_then ?_
        replace hm := nx_out (C := (fun e : ((List GItem) × Int × (List Int)) ⊕ Bool => Sum.elim (fun e => m_law08_NetDatagrams_j3 i62 l63 i245 x1 i244 x3 i248 e.1 e.2.1 e.2.2) (fun x => some x) e = some r)) hm hnx6 hr6
        replace hm : some false = some r := hm
        replace hm := Option.some.inj hm
        subst hm
        refine d_retC () Try.results5 ?_ trivial (fun W h => ok_pre (H1 := [_, _, _, _]) (R1 := [_, _]) h (fun W hφ => hφ)) (.inr rfl)
        refine res_tmp <| res_nil ?_
        exact rfl
       ·
        replace hm := ite_f hm (of_decide_eq_false h441)
        refine c_skip <| d_then <| c_seq <| c_region <| g_v rfl r_move <| g_v rfl (r_add rfl rfl rfl) <| g_v rfl r_assign <| g_nil <| d_then <| c_region ?_
        refine g_v rfl (r_field (n := 2) Try.underlying40 rfl Try.sizeOf3 rfl rfl) <| g_v rfl (r_load (tag := 100180) rfl rfl rfl Try.isAgg3) ?_
        replace hm := bnd hm
        obtain ⟨a442, ha442, hm⟩ := hm
        refine g_v rfl (r_aix Try.underlying47 Try.sizeOf3 rfl rfl ha442 rfl) ?_
        replace hm := bnd hm
        obtain ⟨x443, hx443, hm⟩ := hm
        refine g_v rfl (r_ldL (tag := 100130) (f := (fun x : Int => Value.int .i64 x)) rfl rfl Try.isAgg3 hx443) <| g_v rfl (r_add rfl rfl rfl) ?_
        replace hm := bnd hm
        obtain ⟨a444, ha444, hm⟩ := hm
        refine g_v rfl (r_aix Try.underlying47 Try.sizeOf3 rfl rfl ha444 rfl) ?_
        replace hm := bnd hm
        obtain ⟨l445, hl445, hm⟩ := hm
        refine g_s (e_stL (tag := 100130) (f := (fun x : Int => Value.int .i64 x)) (v := w64 (x443 + 1)) rfl rfl rfl rfl rfl Try.sizeOf3 rfl hl445) <| g_nil <| d_normal_block <| d_then ?_
        refine c_flat [(5, .bool x1), (6, .pointer (some ⟨g11, 0, none⟩)), (7, .int .i64 i62), (8, .pointer (some ⟨g14, 0, none⟩)), (10, .int .i64 i244), (11, .int .i64 i245), (12, .int .i64 (w64 (i402 + 1))), (13, .pointer (some ⟨g65, 0, none⟩)), (17, .int .i64 i403)] ⟨rfl, rfl, rfl, rfl, rfl, rfl, rfl, rfl, rfl, trivial⟩ (fun u => ?_)
        refine c_sta ⟨w0, M, (100180, g438, .cells #[.int .i64 x430.fNumber, .int .i64 x430.fKind, .int .i64 x430.fFrom, .int .i64 x430.fTo, .int .i64 x430.fConn, .string x430.fBody] 40 (0, 0)) :: (100225, g11, .cells #[.slice A434 x432.fitems.length c435, .slice A8 x3.fconns.length c9, .int .i64 i248, .int .i64 x3.fopens] 61 (0, 0)) :: (100130, g65, .cells (l445.map (fun x : Int => Value.int .i64 x)).toArray 47 (0, 0)) :: (100080, g14, .cells (l63.map (fun x : Int => Value.int .i64 x)).toArray 47 (0, 0)) :: H, (100220, ⟨.slice A434 x432.fitems.length c435, 40, 6, x432.fitems.length, x432.fitems.flatMap GItem.enc⟩) :: (100221, ⟨.slice A8 x3.fconns.length c9, 63, 3, x3.fconns.length, x3.fconns.flatMap Gnet_conn.enc⟩) :: R, φ⟩ (fun _ h => h) <| c_region <| g_v rfl r_move <| g_v rfl (r_add rfl rfl rfl) <| g_v rfl r_assign <| g_nil ?_
        obtain ⟨n446, hn446, hlp⟩ := nx_inl hm hnx6
        exact d_round (n446, x432.fitems, w64 (i402 + 1), w64 (i403 + 1), l445, A434, c435) ⟨hlp, hc435⟩ hn446 ⟨rfl, rfl, rfl, rfl, rfl, rfl, rfl, rfl, rfl, trivial⟩ (fun W h => (ok_front (t := 100130) (t' := 100130) (ok_front (t := 100080) (t' := 100080) (ok_front (t := 100225) (t' := 100225) (h.dropH (t := 100180) rfl) rfl) rfl) rfl).phi (fun W hφ => hφ))
      ·
       replace hm := ite_t hm (of_decide_eq_true h440)
       refine g_no rfl rfl rfl rfl rfl h440 <| g_no rfl rfl rfl rfl rfl h440 <| g_no rfl rfl rfl rfl rfl h440 <| g_v rfl (r_pick1 rfl h440) <| g_nil <| d_then <| c_cond1 rfl rfl <| c_seq <| c_region <| g_v rfl r_assign ?_
       refine g_nil <| d_then <| c_ret <| d_ret_then <| d_ret_block <| d_ret_then <| d_ret_then <| d_ret_block <| d_ret_then <| d_ret_then ?_
       replace hm := nx_out (C := (fun e : ((List GItem) × Int × (List Int)) ⊕ Bool => Sum.elim (fun e => m_law08_NetDatagrams_j3 i62 l63 i245 x1 i244 x3 i248 e.1 e.2.1 e.2.2) (fun x => some x) e = some r)) hm hnx6 hr6
       replace hm : some false = some r := hm
       replace hm := Option.some.inj hm
       subst hm
       refine d_retC () Try.results5 ?_ trivial (fun W h => ok_pre (H1 := [_, _, _, _]) (R1 := [_, _]) h (fun W hφ => hφ)) (.inr rfl)
       refine res_tmp <| res_nil ?_
       exact rfl
    ·
     replace hm := ite_f hm (of_decide_eq_false h429)
     refine c_exit <| d_exit_then <| d_exit_then <| d_exit_block ?_
     replace hm := nx_out (C := (fun e : ((List GItem) × Int × (List Int)) ⊕ Bool => Sum.elim (fun e => m_law08_NetDatagrams_j3 i62 l63 i245 x1 i244 x3 i248 e.1 e.2.1 e.2.2) (fun x => some x) e = some r)) hm hnx6 hr6
     exact d_round (l399, i402, l404, A400, c401) ⟨hm, hc401⟩ Nat.zero_lt_one ⟨rfl, rfl, rfl, rfl, rfl, rfl, rfl, rfl, trivial⟩ (fun W h => h.phi (fun W hφ => hφ))
   ·
    unfold m_law08_NetDatagrams_j3 at hm
    refine d_flat [(5, .bool x1), (6, .pointer (some ⟨g11, 0, none⟩)), (7, .int .i64 i62), (8, .pointer (some ⟨g14, 0, none⟩)), (10, .int .i64 i244), (11, .int .i64 i245), (12, .int .i64 i304), (13, .pointer (some ⟨g65, 0, none⟩))] ⟨rfl, rfl, rfl, rfl, rfl, rfl, rfl, rfl, trivial⟩ (fun u => ?_)
    refine d_sta ⟨w0, M, (100130, g65, .cells (l305.map (fun x : Int => Value.int .i64 x)).toArray 47 (0, 0)) :: (100080, g14, .cells (l63.map (fun x : Int => Value.int .i64 x)).toArray 47 (0, 0)) :: (100225, g11, .cells #[.slice A302 l301.length c303, .slice A8 x3.fconns.length c9, .int .i64 i248, .int .i64 x3.fopens] 61 (0, 0)) :: H, (100220, ⟨.slice A302 l301.length c303, 40, 6, l301.length, l301.flatMap GItem.enc⟩) :: (100221, ⟨.slice A8 x3.fconns.length c9, 63, 3, x3.fconns.length, x3.fconns.flatMap Gnet_conn.enc⟩) :: R, φ⟩ (fun _ h => h) <| d_then <| c_seq <| c_seq <| c_region <| g_v rfl r_assign <| g_nil <| d_then ?_
    refine c_cut (ι := Unit) [5, 6, 7, 10, 11, 12] (fun _ => []) (fun _ => ⟨w0, M, (100225, g11, .cells #[.slice A302 l301.length c303, .slice A8 x3.fconns.length c9, .int .i64 i248, .int .i64 x3.fopens] 61 (0, 0)) :: H, (100220, ⟨.slice A302 l301.length c303, 40, 6, l301.length, l301.flatMap GItem.enc⟩) :: (100221, ⟨.slice A8 x3.fconns.length c9, 63, 3, x3.fconns.length, x3.fconns.flatMap Gnet_conn.enc⟩) :: R, φ⟩) (fun _ => m_law08_NetDatagrams_j4 x1 i304 i62 i245 i244 l301 x3 i248 = some r) ?_ (fun _ u hm => ?_)
    ·
     refine c_block ?_
     replace hm := bnd hm
     obtain ⟨out5, hl5, hr5⟩ := hm
     obtain ⟨n361', hl5⟩ := loop_lp hl5
     refine c_loopU (ι := Nat × Int) [5, 6, 7, 8, 10, 11, 12, 13, 20] (fun ⟨n361, i345⟩ => [(20, .int .i64 i345)]) (fun ⟨n361, i345⟩ => ⟨w0, M, (100130, g65, .cells (l305.map (fun x : Int => Value.int .i64 x)).toArray 47 (0, 0)) :: (100080, g14, .cells (l63.map (fun x : Int => Value.int .i64 x)).toArray 47 (0, 0)) :: (100225, g11, .cells #[.slice A302 l301.length c303, .slice A8 x3.fconns.length c9, .int .i64 i248, .int .i64 x3.fopens] 61 (0, 0)) :: H, (100220, ⟨.slice A302 l301.length c303, 40, 6, l301.length, l301.flatMap GItem.enc⟩) :: (100221, ⟨.slice A8 x3.fconns.length c9, 63, 3, x3.fconns.length, x3.fconns.flatMap Gnet_conn.enc⟩) :: R, φ⟩) (fun ⟨n361, i345⟩ => Lp (fun s => m_law08_NetDatagrams_s5 i62 l305 l63 i245 s) n361 i345 out5) (fun ⟨n361, i345⟩ => n361) (n361', 1) hl5 ⟨rfl, rfl, rfl, rfl, rfl, rfl, rfl, rfl, rfl, trivial⟩ (fun W h => h.phi (fun W hφ => hφ)) (fun ⟨n361, i345⟩ u hlp => ?_)
     obtain ⟨o5, hm, hnx5⟩ := lp_step hlp
     clear hlp
     replace hm : m_law08_NetDatagrams_s5 i62 l305 l63 i245 i345 = some o5 := hm
     unfold m_law08_NetDatagrams_s5 at hm
     refine c_flat [(5, .bool x1), (6, .pointer (some ⟨g11, 0, none⟩)), (7, .int .i64 i62), (8, .pointer (some ⟨g14, 0, none⟩)), (10, .int .i64 i244), (11, .int .i64 i245), (12, .int .i64 i304), (13, .pointer (some ⟨g65, 0, none⟩)), (20, .int .i64 i345)] ⟨rfl, rfl, rfl, rfl, rfl, rfl, rfl, rfl, rfl, trivial⟩ (fun u => ?_)
     refine c_seq <| c_seq <| c_region <| g_v rfl r_move <| g_v rfl r_move <| g_v rfl (r_leq rfl rfl) <| g_nil <| d_then ?_
     refine c_cond rfl (fun h362 => ?_) (fun h362 => ?_)
     ·
      replace hm := ite_t hm (of_decide_eq_true h362)
      refine c_skip <| d_then <| c_seq <| c_block <| c_seq <| ga_start (n := 9) ⟨w0, M, (100130, g65, .cells (l305.map (fun x : Int => Value.int .i64 x)).toArray 47 (0, 0)) :: (100080, g14, .cells (l63.map (fun x : Int => Value.int .i64 x)).toArray 47 (0, 0)) :: (100225, g11, .cells #[.slice A302 l301.length c303, .slice A8 x3.fconns.length c9, .int .i64 i248, .int .i64 x3.fopens] 61 (0, 0)) :: H, (100220, ⟨.slice A302 l301.length c303, 40, 6, l301.length, l301.flatMap GItem.enc⟩) :: (100221, ⟨.slice A8 x3.fconns.length c9, 63, 3, x3.fconns.length, x3.fconns.flatMap Gnet_conn.enc⟩) :: R, φ⟩ [] #[false, false, false, false, false, false, false, false, false] (fun W h => h.phi (fun W hφ => hφ)) mixed rfl rfl <| ga_v (i := 0) (bz 9 1) rfl (by kernel_rfl) (fun _ _ _ _ h => h) rfl (r_move) ?_
      replace hm := bnd hm
      obtain ⟨a371, ha371, hm⟩ := hm
      refine ga_v (i := 1) (bz 9 3) rfl (by kernel_rfl) (fun _ _ _ _ h => h) rfl (r_aix Try.underlying47 Try.sizeOf3 rfl rfl ha371 rfl) ?_
      replace hm := bnd hm
      obtain ⟨x372, hx372, hm⟩ := hm
      refine ga_v (i := 2) (bz 9 7) rfl (by kernel_rfl) (fun _ _ _ _ h => h) rfl (r_ldL (tag := 100130) (f := (fun x : Int => Value.int .i64 x)) rfl rfl Try.isAgg3 hx372) <| ga_v (i := 3) (bz 9 15) rfl (by kernel_rfl) (fun _ _ _ _ h => h) rfl (r_move) ?_
      replace hm := bnd hm
      obtain ⟨a373, ha373, hm⟩ := hm
      refine ga_v (i := 4) (bz 9 31) rfl (by kernel_rfl) (fun _ _ _ _ h => h) rfl (r_aix Try.underlying47 Try.sizeOf3 rfl rfl ha373 rfl) ?_
      replace hm := bnd hm
      obtain ⟨x374, hx374, hm⟩ := hm
      refine ga_v (i := 5) (bz 9 63) rfl (by kernel_rfl) (fun _ _ _ _ h => h) rfl (r_ldL (tag := 100080) (f := (fun x : Int => Value.int .i64 x)) rfl rfl Try.isAgg3 hx374) <| ga_r (i := 6) (bz 9 127) rfl (by kernel_rfl) (by decide) rfl (r_move) <| ga_r (i := 7) (bz 9 255) rfl (by kernel_rfl) (by decide) rfl (r_add rfl rfl rfl) <| ga_r (i := 8) (bz 9 511) rfl (by kernel_rfl) (by decide) rfl (r_gtr rfl rfl) <| ga_done (by kernel_rfl) <| d_then ?_
      refine c_flat [(5, .bool x1), (6, .pointer (some ⟨g11, 0, none⟩)), (7, .int .i64 i62), (8, .pointer (some ⟨g14, 0, none⟩)), (10, .int .i64 i244), (11, .int .i64 i245), (12, .int .i64 i304), (13, .pointer (some ⟨g65, 0, none⟩)), (20, .int .i64 i345), (178, .bool (decide (w64 (x374 + i245) < x372)))] ⟨rfl, rfl, rfl, rfl, rfl, rfl, rfl, rfl, rfl, rfl, trivial⟩ (fun u => ?_)
      refine c_cond rfl (fun h375 => ?_) (fun h375 => ?_)
      ·
       replace hm := ite_t hm (of_decide_eq_true h375)
       refine c_seq <| c_region <| g_v rfl r_assign <| g_nil <| d_then <| c_ret <| d_ret_block <| d_ret_then <| d_ret_then <| d_ret_block ?_
       refine d_ret_then <| d_ret_then ?_
       replace hm := nx_out (C := (fun e : Unit ⊕ Bool => Sum.elim (fun e => m_law08_NetDatagrams_j4 x1 i304 i62 i245 i244 l301 x3 i248) (fun x => some x) e = some r)) hm hnx5 hr5
       replace hm : some false = some r := hm
       replace hm := Option.some.inj hm
       subst hm
       refine d_retC () Try.results5 ?_ trivial (fun W h => ok_pre (H1 := [_, _, _]) (R1 := [_, _]) h (fun W hφ => hφ)) (.inr rfl)
       refine res_tmp <| res_nil ?_
       exact rfl
      ·
       replace hm := ite_f hm (of_decide_eq_false h375)
       refine c_skip <| d_normal_block <| d_then <| c_region <| g_v rfl r_move <| g_v rfl (r_add rfl rfl rfl) <| g_v rfl r_assign <| g_nil ?_
       obtain ⟨n376, hn376, hlp⟩ := nx_inl hm hnx5
       exact d_round (n376, w64 (i345 + 1)) hlp hn376 ⟨rfl, rfl, rfl, rfl, rfl, rfl, rfl, rfl, rfl, trivial⟩ (fun W h => h.phi (fun W hφ => hφ))
     ·
      replace hm := ite_f hm (of_decide_eq_false h362)
      refine c_exit <| d_exit_then <| d_exit_then <| d_exit_block ?_
      replace hm := nx_out (C := (fun e : Unit ⊕ Bool => Sum.elim (fun e => m_law08_NetDatagrams_j4 x1 i304 i62 i245 i244 l301 x3 i248) (fun x => some x) e = some r)) hm hnx5 hr5
      exact d_round () hm Nat.zero_lt_one ⟨rfl, rfl, rfl, rfl, rfl, rfl, trivial⟩ (fun W h => ((h.dropH (t := 100130) rfl).dropH (t := 100080) rfl).phi (fun W hφ => hφ))
    ·
     unfold m_law08_NetDatagrams_j4 at hm
     refine d_flat [(5, .bool x1), (6, .pointer (some ⟨g11, 0, none⟩)), (7, .int .i64 i62), (10, .int .i64 i244), (11, .int .i64 i245), (12, .int .i64 i304)] ⟨rfl, rfl, rfl, rfl, rfl, rfl, trivial⟩ (fun u => ?_)
     refine d_sta ⟨w0, M, (100225, g11, .cells #[.slice A302 l301.length c303, .slice A8 x3.fconns.length c9, .int .i64 i248, .int .i64 x3.fopens] 61 (0, 0)) :: H, (100220, ⟨.slice A302 l301.length c303, 40, 6, l301.length, l301.flatMap GItem.enc⟩) :: (100221, ⟨.slice A8 x3.fconns.length c9, 63, 3, x3.fconns.length, x3.fconns.flatMap Gnet_conn.enc⟩) :: R, φ⟩ (fun _ h => h) <| d_then <| c_seq <| c_region <| g_v rfl r_move <| g_v rfl r_move ?_
     refine g_if rfl rfl rfl rfl rfl (fun h332 => ?_) (fun h332 => ?_)
     ·
      replace hm := ite_t hm h332
      refine g_v rfl r_move <| g_do rfl rfl rfl rfl rfl h332 <| g_v rfl r_move <| g_do rfl rfl rfl rfl rfl h332 <| g_v rfl r_move <| g_do rfl rfl rfl rfl rfl h332 <| g_v rfl (r_add rfl rfl rfl) <| g_do rfl rfl rfl rfl rfl h332 <| g_v rfl r_move <| g_do rfl rfl rfl rfl rfl h332 ?_
      refine g_v rfl (r_sub rfl rfl rfl) <| g_do rfl rfl rfl rfl rfl h332 <| g_v rfl (r_eql rfl rfl) <| g_v rfl (r_pick1 rfl h332) <| g_v rfl r_move ?_
      refine g_if rfl rfl rfl rfl rfl (fun h333 => ?_) (fun h333 => ?_)
      ·
       replace hm := ite_t hm (of_decide_eq_true h333)
       refine g_v rfl r_move <| g_do rfl rfl rfl rfl rfl h333 ?_
       replace hm := bnd hm
       obtain ⟨x334, hx335, hm⟩ := hm
       refine g_cn ⟨w0, M, (1000, g11, .cells #[.slice A302 l301.length c303, .slice A8 x3.fconns.length c9, .int .i64 i248, .int .i64 x3.fopens] 61 (0, 0)) :: H, (1000, ⟨.slice A302 l301.length c303, 40, 6, l301.length, l301.flatMap GItem.enc⟩) :: (1001, ⟨.slice A8 x3.fconns.length c9, 63, 3, x3.fconns.length, x3.fconns.flatMap Gnet_conn.enc⟩) :: R, φ⟩ (fun W h => (ok_front (t := 100225) (t' := 1000) (ok_frontR (t := 100220) (t' := 1000) (ok_frontR (t := 100221) (t' := 1001) h rfl) rfl) rfl)) Try.call18 rfl rfl (c_net_Net_Waits g11 (⟨l301, x3.fconns, i248, x3.fopens⟩ : Gnet_Net) A302 c303 hc303 A8 c9 hc9 _ hx335) (fun _ _ => ?_)
       refine g_sta _ (fun W h => (ok_frontR (t := 1000) (t' := 100220) (ok_frontR (t := 1001) (t' := 100221) (ok_front (t := 1000) (t' := 100225) h rfl) rfl) rfl)) <| g_do rfl rfl rfl rfl rfl h333 <| g_v rfl (r_eql rfl rfl) <| g_v rfl (r_pick1 rfl h333) <| g_v rfl r_assign <| g_nil <| d_then ?_
       refine c_flat [(4, .bool (decide (x334 = 0)))] ⟨rfl, trivial⟩ (fun u => ?_)
       refine c_ret ?_
       replace hm := Option.some.inj hm
       subst hm
       refine d_retC () Try.results5 ?_ trivial (fun W h => ok_pre (H1 := [_]) (R1 := [_, _]) h (fun W hφ => hφ)) (.inr rfl)
       refine res_tmp <| res_nil ?_
       exact rfl
      ·
       replace hm := ite_f hm (of_decide_eq_false h333)
       refine g_no rfl rfl rfl rfl rfl h333 <| g_no rfl rfl rfl rfl rfl h333 <| g_v rfl (r_pick0 rfl h333) <| g_v rfl r_assign <| g_nil <| d_then ?_
       refine c_flat [(4, .bool false)] ⟨rfl, trivial⟩ (fun u => ?_)
       refine c_ret ?_
       replace hm := Option.some.inj hm
       subst hm
       refine d_retC () Try.results5 ?_ trivial (fun W h => ok_pre (H1 := [_]) (R1 := [_, _]) h (fun W hφ => hφ)) (.inr rfl)
       refine res_tmp <| res_nil ?_
       exact rfl
     ·
      replace hm := ite_f hm (bool_nt h332)
      refine g_no rfl rfl rfl rfl rfl h332 <| g_no rfl rfl rfl rfl rfl h332 <| g_no rfl rfl rfl rfl rfl h332 <| g_no rfl rfl rfl rfl rfl h332 <| g_no rfl rfl rfl rfl rfl h332 <| g_no rfl rfl rfl rfl rfl h332 <| g_v rfl (r_pick0 rfl h332) <| g_v rfl r_move <| g_no rfl rfl rfl rfl rfl rfl <| g_no rfl rfl rfl rfl rfl rfl ?_
      refine g_no rfl rfl rfl rfl rfl rfl <| g_v rfl (r_pick0 rfl rfl) <| g_v rfl r_assign <| g_nil <| d_then <| c_ret ?_
      replace hm := Option.some.inj hm
      subst hm
      refine d_retC () Try.results5 ?_ trivial (fun W h => ok_pre (H1 := [_]) (R1 := [_, _]) h (fun W hφ => hφ)) (.inr rfl)
      refine res_tmp <| res_nil ?_
      exact rfl
end Go.Proofs.Ythajfodilodhaaa
