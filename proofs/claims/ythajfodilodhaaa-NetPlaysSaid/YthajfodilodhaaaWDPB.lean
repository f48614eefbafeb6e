import Derived.Test.YthajfodilodhaaaWDPA
set_option maxRecDepth 100000
set_option maxHeartbeats 4000000
set_option linter.unusedVariables false
set_option linter.unusedSimpArgs false
namespace Go.Proofs.Ythajfodilodhaaa
open Go.RowKit Go.Proofs.YthajfodilodhaaaW.PrintLast
noncomputable def m_ref08_Net_Open (p1 : Int) (p2 : Int) (o0 : Gref08_Net) : Option (Int × Bool × Gref08_Net) :=
  if 256 ≤ (o0.fConns.length : Int) then
    some (0, false, o0)
  else
    if 1024 ≤ (o0.fItems.length : Int) then
      some (0, false, o0)
    else
      if p1 = p2 then
        some (0, false, o0)
      else
        (app 24 o0.fConns [(⟨w64 (o0.fOpens + 1), p1, p2⟩ : Gref08_Conn)]).bind fun l13 =>
        (m_ref08_Net_add (⟨0, 2, p1, p2, w64 (o0.fOpens + 1), (⟨#[]⟩ : ByteArray)⟩ : GItem) (⟨o0.fItems, l13, o0.fLast, w64 (o0.fOpens + 1)⟩ : Gref08_Net)).bind fun x16 =>
        some (w64 (o0.fOpens + 1), true, (⟨x16.fItems, l13, x16.fLast, w64 (o0.fOpens + 1)⟩ : Gref08_Net))
theorem c_ref08_Net_Open {w0 : World} {M : Nat → Prop} {H : List (Nat × Nat × Obj)} {R : List (Nat × Row)} {φ : World → Prop} (p1 : Int) (p2 : Int) (go0 : Nat) (o0 : Gref08_Net) (Ao0_0 : Option Addr) (co0_0 : Nat) (hco0_0 : o0.fItems.length ≤ co0_0) (Ao0_1 : Option Addr) (co0_1 : Nat) (hco0_1 : o0.fConns.length ≤ co0_1) (r : Int × Bool × Gref08_Net) (hm : m_ref08_Net_Open p1 p2 o0 = some r) :
    Cn Try.prog 43 #[.pointer (some ⟨go0, 0, none⟩), .int .i64 p1, .int .i64 p2] ⟨w0, M, (1000, go0, .cells #[.slice Ao0_0 o0.fItems.length co0_0, .slice Ao0_1 o0.fConns.length co0_1, .int .i64 o0.fLast, .int .i64 o0.fOpens] 55 (0, 0)) :: H, (1000, ⟨.slice Ao0_0 o0.fItems.length co0_0, 40, 6, o0.fItems.length, o0.fItems.flatMap GItem.enc⟩) :: (1001, ⟨.slice Ao0_1 o0.fConns.length co0_1, 77, 3, o0.fConns.length, o0.fConns.flatMap Gref08_Conn.enc⟩) :: R, φ⟩ (fun x : Option Addr × Nat × Option Addr × Nat => .tuple #[.int .i64 r.1, .bool r.2.1]) (fun x => r.2.2.fItems.length ≤ x.2.1 ∧ r.2.2.fConns.length ≤ x.2.2.2) (fun x => ⟨w0, M, (1000, go0, .cells #[.slice x.1 r.2.2.fItems.length x.2.1, .slice x.2.2.1 r.2.2.fConns.length x.2.2.2, .int .i64 r.2.2.fLast, .int .i64 r.2.2.fOpens] 55 (0, 0)) :: H, (2000, ⟨.slice x.1 r.2.2.fItems.length x.2.1, 40, 6, r.2.2.fItems.length, r.2.2.fItems.flatMap GItem.enc⟩) :: (2001, ⟨.slice x.2.2.1 r.2.2.fConns.length x.2.2.2, 77, 3, r.2.2.fConns.length, r.2.2.fConns.flatMap Gref08_Conn.enc⟩) :: R, φ⟩) := by
 unfold m_ref08_Net_Open at hm
 refine cn_intro (fn := Try.f43) (N := 63) Try.func43 rfl Try.ntmps43 rfl <| c_seq <| c_region <| g_v rfl r_assign <| g_v rfl r_assign <| g_nil <| d_then <| c_seq <| c_seq <| c_region ?_
 refine g_v rfl r_move <| g_v rfl (r_nilck rfl) <| g_v rfl (r_field (n := 1) Try.underlying55 rfl Try.sizeOf53 rfl rfl) <| g_v rfl (r_load (tag := 1000) rfl rfl rfl Try.isAgg53) <| g_v rfl (r_lenL Try.underlying53 rfl) <| g_v rfl (r_geq rfl rfl) <| g_v rfl r_move ?_
 refine g_if rfl rfl rfl rfl rfl (fun h1 => ?_) (fun h1 => ?_)
 ·
  replace hm := ite_f hm (of_decide_eq_false h1)
  refine g_v rfl r_move <| g_do rfl rfl rfl rfl rfl h1 <| g_v rfl (r_nilck rfl) <| g_do rfl rfl rfl rfl rfl h1 <| g_v rfl (r_field (n := 0) Try.underlying55 rfl Try.sizeOf52 rfl rfl) <| g_do rfl rfl rfl rfl rfl h1 <| g_v rfl (r_load (tag := 1000) rfl rfl rfl Try.isAgg52) <| g_do rfl rfl rfl rfl rfl h1 <| g_v rfl (r_lenL Try.underlying52 rfl) <| g_do rfl rfl rfl rfl rfl h1 ?_
  refine g_v rfl (r_geq rfl rfl) <| g_v rfl (r_pick0 rfl h1) <| g_v rfl r_move ?_
  refine g_if rfl rfl rfl rfl rfl (fun h2 => ?_) (fun h2 => ?_)
  ·
   replace hm := ite_f hm (of_decide_eq_false h2)
   refine g_v rfl r_move <| g_do rfl rfl rfl rfl rfl h2 <| g_v rfl r_move <| g_do rfl rfl rfl rfl rfl h2 <| g_v rfl (r_eql rfl rfl) <| g_v rfl (r_pick0 rfl h2) <| g_nil <| d_then ?_
   refine c_flat [(0, .pointer (some ⟨go0, 0, none⟩)), (1, .int .i64 p1), (2, .int .i64 p2), (26, .bool (decide (p1 = p2)))] ⟨rfl, rfl, rfl, rfl, trivial⟩ (fun u => ?_)
   refine c_sta ⟨w0, M, (1000, go0, .cells #[.slice Ao0_0 o0.fItems.length co0_0, .slice Ao0_1 o0.fConns.length co0_1, .int .i64 o0.fLast, .int .i64 o0.fOpens] 55 (0, 0)) :: H, (1000, ⟨.slice Ao0_0 o0.fItems.length co0_0, 40, 6, o0.fItems.length, o0.fItems.flatMap GItem.enc⟩) :: (1001, ⟨.slice Ao0_1 o0.fConns.length co0_1, 77, 3, o0.fConns.length, o0.fConns.flatMap Gref08_Conn.enc⟩) :: R, φ⟩ (fun _ h => h) ?_
   refine c_cond rfl (fun h3 => ?_) (fun h3 => ?_)
   ·
    replace hm := ite_t hm (of_decide_eq_true h3)
    refine c_seq <| c_region <| g_v rfl r_assign <| g_v rfl r_assign <| g_nil <| d_then <| c_ret <| d_ret_then ?_
    replace hm := Option.some.inj hm
    subst hm
    refine d_sta _ (fun W h => ok_frontR (t := 1001) (t' := 2001) h rfl) <| d_sta _ (fun W h => ok_frontR (t := 1000) (t' := 2000) h rfl) ?_
    refine d_retC (Ao0_0, co0_0, Ao0_1, co0_1) Try.results43 ?_ ⟨hco0_0, hco0_1⟩ (fun W h => h.phi (fun W hφ => hφ)) (.inr rfl)
    refine res_tmp <| res_tmp <| res_nil ?_
    exact rfl
   ·
    replace hm := ite_f hm (of_decide_eq_false h3)
    refine c_skip <| d_then <| c_seq <| c_region <| g_v rfl r_move <| g_v rfl (r_nilck rfl) <| g_v rfl (r_field (n := 3) Try.underlying55 rfl Try.sizeOf3 rfl rfl) <| g_v rfl (r_load (tag := 1000) rfl rfl rfl Try.isAgg3) <| g_v rfl (r_add rfl rfl rfl) <| g_v rfl (r_nilck rfl) ?_
    refine g_v rfl (r_field (n := 3) Try.underlying55 rfl Try.sizeOf3 rfl rfl) <| g_storeL (tag := 1000) rfl rfl rfl rfl Try.sizeOf3 rfl rfl <| g_nil <| d_then <| c_seq <| ga_start (n := 17) ⟨w0, M, (1000, go0, .cells #[.slice Ao0_0 o0.fItems.length co0_0, .slice Ao0_1 o0.fConns.length co0_1, .int .i64 o0.fLast, .int .i64 (w64 (o0.fOpens + 1))] 55 (0, 0)) :: H, (1000, ⟨.slice Ao0_0 o0.fItems.length co0_0, 40, 6, o0.fItems.length, o0.fItems.flatMap GItem.enc⟩) :: R, φ⟩ [16] #[false, false, false, false, false, false, false, false, false, false, false, false, false, false, false, false, false] (fun W h => (h.dropR (t := 1001) rfl).phi (fun W hφ => hφ)) mixed rfl rfl <| ga_v (i := 0) (bz 17 1) rfl (by kernel_rfl) (fun _ _ _ _ h => h) rfl (r_move) <| ga_v (i := 1) (bz 17 3) rfl (by kernel_rfl) (fun _ _ _ _ h => h) rfl (r_move) <| ga_v (i := 2) (bz 17 7) rfl (by kernel_rfl) (fun _ _ _ _ h => h) rfl (r_nilck rfl) <| ga_v (i := 3) (bz 17 15) rfl (by kernel_rfl) (fun _ _ _ _ h => h) rfl (r_field (n := 1) Try.underlying55 rfl Try.sizeOf53 rfl rfl) ?_
    refine ga_v (i := 4) (bz 17 31) rfl (by kernel_rfl) (fun _ _ _ _ h => h) rfl (r_load (tag := 1000) rfl rfl rfl Try.isAgg53) <| ga_v (i := 5) (bz 17 63) rfl (by kernel_rfl) (fun _ _ _ _ h => h) rfl (r_move) <| ga_v (i := 6) (bz 17 127) rfl (by kernel_rfl) (fun _ _ _ _ h => h) rfl (r_nilck rfl) <| ga_v (i := 7) (bz 17 255) rfl (by kernel_rfl) (fun _ _ _ _ h => h) rfl (r_field (n := 3) Try.underlying55 rfl Try.sizeOf3 rfl rfl) <| ga_v (i := 8) (bz 17 511) rfl (by kernel_rfl) (fun _ _ _ _ h => h) rfl (r_load (tag := 1000) rfl rfl rfl Try.isAgg3) <| ga_v (i := 9) (bz 17 1023) rfl (by kernel_rfl) (fun _ _ _ _ h => h) rfl (r_move) <| ga_r (i := 10) (bz 17 2047) rfl (by kernel_rfl) (by decide) rfl (r_move) <| ga_r (i := 11) (bz 17 4095) rfl (by kernel_rfl) (by decide) rfl (r_build _ rfl (bld77_17 _ _ _)) ?_
    refine ga_e (i := 12) (bz 17 8191) rfl (by kernel_rfl) (by decide) rfl  (e_lit (tag := 100460) (l := [(⟨w64 (o0.fOpens + 1), p1, p2⟩ : Gref08_Conn)]) (enc := Gref08_Conn.enc) (sz := 3) rfl Try.underlying53 (lit77_18 _ _ _) rfl rfl (fun _ => rfl)) (fun g12 W _ h => ((h.dropR (t := 100460) rfl).dropR (t := 1001) rfl).phi (fun W hφ => hφ)) (fun g12 _ => ?_)
    replace hm := bnd hm
    obtain ⟨l13, hl13, hm⟩ := hm
    refine ga_e (i := 13) (bz 17 16383) rfl (by kernel_rfl) (by decide) rfl  (e_appR (enc := Gref08_Conn.enc) (l := o0.fConns) (l1 := [(⟨w64 (o0.fOpens + 1), p1, p2⟩ : Gref08_Conn)]) (l2 := l13) (tag := 1001) Try.underlying53 inf77_19 rfl (by decide) (by decide) (fun _ => rfl) (fun _ => rfl) rfl hco0_1 rfl rfl (fun W hS => rowCl (tag := 100460) rfl W hS) hl13) (fun ⟨A14, c15⟩ W hc15 h => ((h.dropR (t := 100460) rfl).dropR (t := 1001) rfl).phi (fun W hφ => hφ)) (fun ⟨A14, c15⟩ hc15 => ?_)
    refine ga_r (i := 14) (bz 17 32767) rfl (by kernel_rfl) (by decide) rfl (r_nilck rfl) <| ga_r (i := 15) (bz 17 65535) rfl (by kernel_rfl) (by decide) rfl (r_field (n := 1) Try.underlying55 rfl Try.sizeOf53 rfl rfl) <| ga_lastL (i := 16) (tag := 1000) (bz 17 131071) rfl (by kernel_rfl) (by decide) rfl rfl rfl rfl Try.sizeOf53 rfl rfl <| gz_done (by kernel_rfl) <| d_then ?_
    refine c_flat [(0, .pointer (some ⟨go0, 0, none⟩)), (1, .int .i64 p1), (2, .int .i64 p2)] ⟨rfl, rfl, rfl, trivial⟩ (fun u => ?_)
    refine c_sta ⟨w0, M, (1000, go0, .cells #[.slice Ao0_0 o0.fItems.length co0_0, .slice A14 l13.length c15, .int .i64 o0.fLast, .int .i64 (w64 (o0.fOpens + 1))] 55 (0, 0)) :: H, (100460, ⟨.slice (some ⟨g12, 0, none⟩) [(⟨w64 (o0.fOpens + 1), p1, p2⟩ : Gref08_Conn)].length 1, 77, 3, [(⟨w64 (o0.fOpens + 1), p1, p2⟩ : Gref08_Conn)].length, [(⟨w64 (o0.fOpens + 1), p1, p2⟩ : Gref08_Conn)].flatMap Gref08_Conn.enc⟩) :: (1000, ⟨.slice Ao0_0 o0.fItems.length co0_0, 40, 6, o0.fItems.length, o0.fItems.flatMap GItem.enc⟩) :: (1001, ⟨.slice A14 l13.length c15, 77, 3, l13.length, l13.flatMap Gref08_Conn.enc⟩) :: R, φ⟩ (fun _ h => h) <| c_seq <| c_region <| g_v rfl r_move <| g_v rfl r_move <| g_v rfl r_move <| g_v rfl r_move <| g_v rfl (r_nilck rfl) <| g_v rfl (r_field (n := 3) Try.underlying55 rfl Try.sizeOf3 rfl rfl) <| g_v rfl (r_load (tag := 1000) rfl rfl rfl Try.isAgg3) ?_
    refine g_v rfl (r_build _ rfl (bld40_14 _ _ _ _)) ?_
    replace hm := bnd hm
    obtain ⟨x16, hx17, hm⟩ := hm
    refine g_cn ⟨w0, M, (1000, go0, .cells #[.slice Ao0_0 o0.fItems.length co0_0, .slice A14 l13.length c15, .int .i64 o0.fLast, .int .i64 (w64 (o0.fOpens + 1))] 55 (0, 0)) :: H, (1000, ⟨.slice Ao0_0 o0.fItems.length co0_0, 40, 6, o0.fItems.length, o0.fItems.flatMap GItem.enc⟩) :: (1001, ⟨.slice A14 l13.length c15, 77, 3, l13.length, l13.flatMap Gref08_Conn.enc⟩) :: (100460, ⟨.slice (some ⟨g12, 0, none⟩) [(⟨w64 (o0.fOpens + 1), p1, p2⟩ : Gref08_Conn)].length 1, 77, 3, [(⟨w64 (o0.fOpens + 1), p1, p2⟩ : Gref08_Conn)].length, [(⟨w64 (o0.fOpens + 1), p1, p2⟩ : Gref08_Conn)].flatMap Gref08_Conn.enc⟩) :: R, φ⟩ (fun W h => (ok_front (t := 1000) (t' := 1000) (ok_frontR (t := 1000) (t' := 1000) (ok_frontR (t := 1001) (t' := 1001) h rfl) rfl) rfl)) Try.call55 rfl rfl (c_ref08_Net_add (⟨0, 2, p1, p2, w64 (o0.fOpens + 1), (⟨#[]⟩ : ByteArray)⟩ : GItem) go0 (⟨o0.fItems, l13, o0.fLast, w64 (o0.fOpens + 1)⟩ : Gref08_Net) Ao0_0 co0_0 hco0_0 A14 c15 hc15 _ hx17) (fun ⟨A18, c19⟩ hc19 => ?_)
    refine g_sta _ (fun W h => (ok_frontR (t := 2000) (t' := 1000) (ok_frontR (t := 1001) (t' := 1001) (ok_front (t := 1000) (t' := 1000) h rfl) rfl) rfl)) <| g_nil <| d_then ?_
    refine c_flat [(0, .pointer (some ⟨go0, 0, none⟩))] ⟨rfl, trivial⟩ (fun u => ?_)
    refine c_sta ⟨w0, M, (1000, go0, .cells #[.slice A18 x16.fItems.length c19, .slice A14 l13.length c15, .int .i64 x16.fLast, .int .i64 (w64 (o0.fOpens + 1))] 55 (0, 0)) :: H, (1000, ⟨.slice A18 x16.fItems.length c19, 40, 6, x16.fItems.length, x16.fItems.flatMap GItem.enc⟩) :: (1001, ⟨.slice A14 l13.length c15, 77, 3, l13.length, l13.flatMap Gref08_Conn.enc⟩) :: (100460, ⟨.slice (some ⟨g12, 0, none⟩) [(⟨w64 (o0.fOpens + 1), p1, p2⟩ : Gref08_Conn)].length 1, 77, 3, [(⟨w64 (o0.fOpens + 1), p1, p2⟩ : Gref08_Conn)].length, [(⟨w64 (o0.fOpens + 1), p1, p2⟩ : Gref08_Conn)].flatMap Gref08_Conn.enc⟩) :: R, φ⟩ (fun _ h => h) <| c_seq <| c_region <| g_v rfl r_move <| g_v rfl (r_nilck rfl) <| g_v rfl (r_field (n := 3) Try.underlying55 rfl Try.sizeOf3 rfl rfl) <| g_v rfl (r_load (tag := 1000) rfl rfl rfl Try.isAgg3) <| g_v rfl r_assign <| g_v rfl r_assign <| g_nil ?_
    refine d_then <| c_ret ?_
    replace hm := Option.some.inj hm
    subst hm
    refine d_sta _ (fun W h => ok_frontR (t := 1001) (t' := 2001) h rfl) <| d_sta _ (fun W h => ok_frontR (t := 1000) (t' := 2000) h rfl) ?_
    refine d_retC (A18, c19, A14, c15) Try.results43 ?_ ⟨hc19, hc15⟩ (fun W h => (h.dropR (t := 100460) rfl).phi (fun W hφ => hφ)) (.inr rfl)
    refine res_tmp <| res_tmp <| res_nil ?_
    exact rfl
  ·
   replace hm := ite_t hm (of_decide_eq_true h2)
   refine g_no rfl rfl rfl rfl rfl h2 <| g_no rfl rfl rfl rfl rfl h2 <| g_v rfl (r_pick1 rfl h2) <| g_nil <| d_then ?_
   refine c_flat [(0, .pointer (some ⟨go0, 0, none⟩)), (1, .int .i64 p1), (2, .int .i64 p2), (26, .bool true)] ⟨rfl, rfl, rfl, rfl, trivial⟩ (fun u => ?_)
   refine c_sta ⟨w0, M, (1000, go0, .cells #[.slice Ao0_0 o0.fItems.length co0_0, .slice Ao0_1 o0.fConns.length co0_1, .int .i64 o0.fLast, .int .i64 o0.fOpens] 55 (0, 0)) :: H, (1000, ⟨.slice Ao0_0 o0.fItems.length co0_0, 40, 6, o0.fItems.length, o0.fItems.flatMap GItem.enc⟩) :: (1001, ⟨.slice Ao0_1 o0.fConns.length co0_1, 77, 3, o0.fConns.length, o0.fConns.flatMap Gref08_Conn.enc⟩) :: R, φ⟩ (fun _ h => h) <| c_cond1 rfl rfl <| c_seq <| c_region <| g_v rfl r_assign <| g_v rfl r_assign <| g_nil <| d_then <| c_ret <| d_ret_then ?_
   replace hm := Option.some.inj hm
   subst hm
   refine d_sta _ (fun W h => ok_frontR (t := 1001) (t' := 2001) h rfl) <| d_sta _ (fun W h => ok_frontR (t := 1000) (t' := 2000) h rfl) ?_
   refine d_retC (Ao0_0, co0_0, Ao0_1, co0_1) Try.results43 ?_ ⟨hco0_0, hco0_1⟩ (fun W h => h.phi (fun W hφ => hφ)) (.inr rfl)
   refine res_tmp <| res_tmp <| res_nil ?_
   exact rfl
 ·
  replace hm := ite_t hm (of_decide_eq_true h1)
  refine g_no rfl rfl rfl rfl rfl h1 <| g_no rfl rfl rfl rfl rfl h1 <| g_no rfl rfl rfl rfl rfl h1 <| g_no rfl rfl rfl rfl rfl h1 <| g_no rfl rfl rfl rfl rfl h1 <| g_v rfl (r_pick1 rfl h1) <| g_v rfl r_move <| g_no rfl rfl rfl rfl rfl rfl <| g_no rfl rfl rfl rfl rfl rfl <| g_no rfl rfl rfl rfl rfl rfl ?_
  refine g_v rfl (r_pick1 rfl rfl) <| g_nil <| d_then ?_
  refine c_flat [(0, .pointer (some ⟨go0, 0, none⟩)), (1, .int .i64 p1), (2, .int .i64 p2), (26, .bool true)] ⟨rfl, rfl, rfl, rfl, trivial⟩ (fun u => ?_)
  refine c_sta ⟨w0, M, (1000, go0, .cells #[.slice Ao0_0 o0.fItems.length co0_0, .slice Ao0_1 o0.fConns.length co0_1, .int .i64 o0.fLast, .int .i64 o0.fOpens] 55 (0, 0)) :: H, (1000, ⟨.slice Ao0_0 o0.fItems.length co0_0, 40, 6, o0.fItems.length, o0.fItems.flatMap GItem.enc⟩) :: (1001, ⟨.slice Ao0_1 o0.fConns.length co0_1, 77, 3, o0.fConns.length, o0.fConns.flatMap Gref08_Conn.enc⟩) :: R, φ⟩ (fun _ h => h) <| c_cond1 rfl rfl <| c_seq <| c_region <| g_v rfl r_assign <| g_v rfl r_assign <| g_nil <| d_then <| c_ret <| d_ret_then ?_
  replace hm := Option.some.inj hm
  subst hm
  refine d_sta _ (fun W h => ok_frontR (t := 1001) (t' := 2001) h rfl) <| d_sta _ (fun W h => ok_frontR (t := 1000) (t' := 2000) h rfl) ?_
  refine d_retC (Ao0_0, co0_0, Ao0_1, co0_1) Try.results43 ?_ ⟨hco0_0, hco0_1⟩ (fun W h => h.phi (fun W hφ => hφ)) (.inr rfl)
  refine res_tmp <| res_tmp <| res_nil ?_
  exact rfl
noncomputable def m_ref08_Net_find_j1  : Option Int :=
  some (-1)
noncomputable def m_ref08_Net_find_s2 (o0 : Gref08_Net) (p1 : Int) (i27 : Int) : Option (Int ⊕ (Unit ⊕ Int)) :=
  if i27 < (o0.fConns.length : Int) then
    (at_ o0.fConns i27).bind fun x38 =>
    if x38.fN = p1 then
      some (.inr (.inr i27))
    else
      some (.inl (w64 (i27 + 1)))
  else
    some (.inr (.inl ()))
noncomputable def m_ref08_Net_find (p1 : Int) (o0 : Gref08_Net) : Option Int :=
  (loop (fun s => m_ref08_Net_find_s2 o0 p1 s) 0).bind fun e => Sum.elim (fun e => m_ref08_Net_find_j1) (fun x => some x) e
theorem c_ref08_Net_find {w0 : World} {M : Nat → Prop} {H : List (Nat × Nat × Obj)} {R : List (Nat × Row)} {φ : World → Prop} (p1 : Int) (go0 : Nat) (o0 : Gref08_Net) (Ao0_0 : Option Addr) (co0_0 : Nat) (hco0_0 : o0.fItems.length ≤ co0_0) (Ao0_1 : Option Addr) (co0_1 : Nat) (hco0_1 : o0.fConns.length ≤ co0_1) (r : Int) (hm : m_ref08_Net_find p1 o0 = some r) :
    Cn Try.prog 51 #[.pointer (some ⟨go0, 0, none⟩), .int .i64 p1] ⟨w0, M, (1000, go0, .cells #[.slice Ao0_0 o0.fItems.length co0_0, .slice Ao0_1 o0.fConns.length co0_1, .int .i64 o0.fLast, .int .i64 o0.fOpens] 55 (0, 0)) :: H, (1000, ⟨.slice Ao0_0 o0.fItems.length co0_0, 40, 6, o0.fItems.length, o0.fItems.flatMap GItem.enc⟩) :: (1001, ⟨.slice Ao0_1 o0.fConns.length co0_1, 77, 3, o0.fConns.length, o0.fConns.flatMap Gref08_Conn.enc⟩) :: R, φ⟩ (fun x : Unit => .int .i64 r) (fun x => True) (fun x => ⟨w0, M, (1000, go0, .cells #[.slice Ao0_0 o0.fItems.length co0_0, .slice Ao0_1 o0.fConns.length co0_1, .int .i64 o0.fLast, .int .i64 o0.fOpens] 55 (0, 0)) :: H, (1000, ⟨.slice Ao0_0 o0.fItems.length co0_0, 40, 6, o0.fItems.length, o0.fItems.flatMap GItem.enc⟩) :: (1001, ⟨.slice Ao0_1 o0.fConns.length co0_1, 77, 3, o0.fConns.length, o0.fConns.flatMap Gref08_Conn.enc⟩) :: R, φ⟩) := by
 unfold m_ref08_Net_find at hm
 refine cn_intro (fn := Try.f51) (N := 26) Try.func51 rfl Try.ntmps51 rfl <| c_seq <| c_region <| g_v rfl r_assign <| g_nil <| d_then <| c_seq <| c_seq <| c_region <| g_v rfl r_assign ?_
 refine g_nil <| d_then ?_
 refine c_cut (ι := Unit) [] (fun _ => []) (fun _ => ⟨w0, M, (1000, go0, .cells #[.slice Ao0_0 o0.fItems.length co0_0, .slice Ao0_1 o0.fConns.length co0_1, .int .i64 o0.fLast, .int .i64 o0.fOpens] 55 (0, 0)) :: H, (1000, ⟨.slice Ao0_0 o0.fItems.length co0_0, 40, 6, o0.fItems.length, o0.fItems.flatMap GItem.enc⟩) :: (1001, ⟨.slice Ao0_1 o0.fConns.length co0_1, 77, 3, o0.fConns.length, o0.fConns.flatMap Gref08_Conn.enc⟩) :: R, φ⟩) (fun _ => m_ref08_Net_find_j1 = some r) ?_ (fun _ u hm => ?_)
 ·
  refine c_block ?_
  replace hm := bnd hm
  obtain ⟨out2, hl2, hr2⟩ := hm
  obtain ⟨n36', hl2⟩ := loop_lp hl2
  refine c_loopU (ι := Nat × Int) [0, 1, 5] (fun ⟨n36, i27⟩ => [(5, .int .i64 i27)]) (fun ⟨n36, i27⟩ => ⟨w0, M, (1000, go0, .cells #[.slice Ao0_0 o0.fItems.length co0_0, .slice Ao0_1 o0.fConns.length co0_1, .int .i64 o0.fLast, .int .i64 o0.fOpens] 55 (0, 0)) :: H, (1000, ⟨.slice Ao0_0 o0.fItems.length co0_0, 40, 6, o0.fItems.length, o0.fItems.flatMap GItem.enc⟩) :: (1001, ⟨.slice Ao0_1 o0.fConns.length co0_1, 77, 3, o0.fConns.length, o0.fConns.flatMap Gref08_Conn.enc⟩) :: R, φ⟩) (fun ⟨n36, i27⟩ => Lp (fun s => m_ref08_Net_find_s2 o0 p1 s) n36 i27 out2) (fun ⟨n36, i27⟩ => n36) (n36', 0) hl2 ⟨rfl, rfl, rfl, trivial⟩ (fun W h => h.phi (fun W hφ => hφ)) (fun ⟨n36, i27⟩ u hlp => ?_)
  obtain ⟨o2, hm, hnx2⟩ := lp_step hlp
  clear hlp
  replace hm : m_ref08_Net_find_s2 o0 p1 i27 = some o2 := hm
  unfold m_ref08_Net_find_s2 at hm
  refine c_flat [(0, .pointer (some ⟨go0, 0, none⟩)), (1, .int .i64 p1), (5, .int .i64 i27)] ⟨rfl, rfl, rfl, trivial⟩ (fun u => ?_)
  refine c_sta ⟨w0, M, (1000, go0, .cells #[.slice Ao0_0 o0.fItems.length co0_0, .slice Ao0_1 o0.fConns.length co0_1, .int .i64 o0.fLast, .int .i64 o0.fOpens] 55 (0, 0)) :: H, (1000, ⟨.slice Ao0_0 o0.fItems.length co0_0, 40, 6, o0.fItems.length, o0.fItems.flatMap GItem.enc⟩) :: (1001, ⟨.slice Ao0_1 o0.fConns.length co0_1, 77, 3, o0.fConns.length, o0.fConns.flatMap Gref08_Conn.enc⟩) :: R, φ⟩ (fun _ h => h) <| c_seq <| c_seq <| c_region <| g_v rfl r_move <| g_v rfl r_move <| g_v rfl (r_nilck rfl) <| g_v rfl (r_field (n := 1) Try.underlying55 rfl Try.sizeOf53 rfl rfl) <| g_v rfl (r_load (tag := 1000) rfl rfl rfl Try.isAgg53) <| g_v rfl (r_lenL Try.underlying53 rfl) ?_
  refine g_v rfl (r_lss rfl rfl) <| g_nil <| d_then ?_
  refine c_cond rfl (fun h37 => ?_) (fun h37 => ?_)
  ·
   replace hm := ite_t hm (of_decide_eq_true h37)
   refine c_skip <| d_then <| c_seq <| c_block <| c_seq <| c_region <| g_v rfl r_move <| g_v rfl (r_nilck rfl) <| g_v rfl (r_field (n := 1) Try.underlying55 rfl Try.sizeOf53 rfl rfl) <| g_v rfl (r_load (tag := 1000) rfl rfl rfl Try.isAgg53) ?_
   refine g_v rfl r_move ?_
   replace hm := bnd hm
   obtain ⟨x38, hx38, hm⟩ := hm
   refine g_know _ (fun W hS => cl_at (p := (Sta.ok ⟨w0, M, (1000, go0, .cells #[.slice Ao0_0 o0.fItems.length co0_0, .slice Ao0_1 o0.fConns.length co0_1, .int .i64 o0.fLast, .int .i64 o0.fOpens] 55 (0, 0)) :: H, (1000, ⟨.slice Ao0_0 o0.fItems.length co0_0, 40, 6, o0.fItems.length, o0.fItems.flatMap GItem.enc⟩) :: (1001, ⟨.slice Ao0_1 o0.fConns.length co0_1, 77, 3, o0.fConns.length, o0.fConns.flatMap Gref08_Conn.enc⟩) :: R, φ⟩)) (sz := 3) (fun _ => rfl) (by decide) hS (fun W hS => rowCl (S := ⟨w0, M, (1000, go0, .cells #[.slice Ao0_0 o0.fItems.length co0_0, .slice Ao0_1 o0.fConns.length co0_1, .int .i64 o0.fLast, .int .i64 o0.fOpens] 55 (0, 0)) :: H, (1000, ⟨.slice Ao0_0 o0.fItems.length co0_0, 40, 6, o0.fItems.length, o0.fItems.flatMap GItem.enc⟩) :: (1001, ⟨.slice Ao0_1 o0.fConns.length co0_1, 77, 3, o0.fConns.length, o0.fConns.flatMap Gref08_Conn.enc⟩) :: R, φ⟩) (tag := 1001) rfl W hS) hx38) ?_
   rintro ⟨ad39, hA41, f40⟩
   refine g_v rfl (r_ix Try.underlying53 Try.sizeOf77 rfl hA41 rfl hx38) ?_
   have f42 := fun (W : World) (h : (Sta.ok ⟨w0, M, (1000, go0, .cells #[.slice Ao0_0 o0.fItems.length co0_0, .slice Ao0_1 o0.fConns.length co0_1, .int .i64 o0.fLast, .int .i64 o0.fOpens] 55 (0, 0)) :: H, (1000, ⟨.slice Ao0_0 o0.fItems.length co0_0, 40, 6, o0.fItems.length, o0.fItems.flatMap GItem.enc⟩) :: (1001, ⟨.slice Ao0_1 o0.fConns.length co0_1, 77, 3, o0.fConns.length, o0.fConns.flatMap Gref08_Conn.enc⟩) :: R, φ⟩) W) => Cl.drop (f40 W h) 0
   refine g_v rfl (r_fieldF Try.underlying77 rfl Try.sizeOf3 rfl) <| g_v rfl (r_ld rfl Try.isAgg3 (fun W hS => Cl.head (f42 W hS))) <| g_v rfl r_move <| g_v rfl (r_eql rfl rfl) <| g_nil <| d_then ?_
   refine c_flat [(0, .pointer (some ⟨go0, 0, none⟩)), (1, .int .i64 p1), (5, .int .i64 i27), (24, .bool (decide (x38.fN = p1)))] ⟨rfl, rfl, rfl, rfl, trivial⟩ (fun u => ?_)
   refine c_cond rfl (fun h43 => ?_) (fun h43 => ?_)
   ·
    replace hm := ite_t hm (of_decide_eq_true h43)
    refine c_seq <| c_region <| g_v rfl r_move <| g_v rfl r_assign <| g_nil <| d_then <| c_ret <| d_ret_block <| d_ret_then <| d_ret_then ?_
    refine d_ret_block <| d_ret_then <| d_ret_then ?_
    replace hm := nx_out (C := (fun e => Sum.elim (fun e => m_ref08_Net_find_j1) (fun x => some x) e = some r)) hm hnx2 hr2
    replace hm : some i27 = some r := hm
    replace hm := Option.some.inj hm
    subst hm
    refine d_retC () Try.results51 ?_ trivial (fun W h => h.phi (fun W hφ => hφ)) (.inr rfl)
    refine res_tmp <| res_nil ?_
    exact rfl
   ·
    replace hm := ite_f hm (of_decide_eq_false h43)
    refine c_skip <| d_normal_block <| d_then <| c_region <| g_v rfl r_move <| g_v rfl (r_add rfl rfl rfl) <| g_v rfl r_assign <| g_nil ?_
    obtain ⟨n44, hn44, hlp⟩ := nx_inl hm hnx2
    exact d_round (n44, w64 (i27 + 1)) hlp hn44 ⟨rfl, rfl, rfl, trivial⟩ (fun W h => h.phi (fun W hφ => hφ))
  ·
   replace hm := ite_f hm (of_decide_eq_false h37)
   refine c_exit <| d_exit_then <| d_exit_then <| d_exit_block ?_
   replace hm := nx_out (C := (fun e => Sum.elim (fun e => m_ref08_Net_find_j1) (fun x => some x) e = some r)) hm hnx2 hr2
   exact d_round () hm Nat.zero_lt_one trivial (fun W h => h.phi (fun W hφ => hφ))
 ·
  unfold m_ref08_Net_find_j1 at hm
  refine d_flat [] trivial (fun u => ?_)
  refine d_sta ⟨w0, M, (1000, go0, .cells #[.slice Ao0_0 o0.fItems.length co0_0, .slice Ao0_1 o0.fConns.length co0_1, .int .i64 o0.fLast, .int .i64 o0.fOpens] 55 (0, 0)) :: H, (1000, ⟨.slice Ao0_0 o0.fItems.length co0_0, 40, 6, o0.fItems.length, o0.fItems.flatMap GItem.enc⟩) :: (1001, ⟨.slice Ao0_1 o0.fConns.length co0_1, 77, 3, o0.fConns.length, o0.fConns.flatMap Gref08_Conn.enc⟩) :: R, φ⟩ (fun _ h => h) <| d_then <| c_seq <| c_region <| g_v rfl r_assign <| g_nil <| d_then <| c_ret ?_
  replace hm := Option.some.inj hm
  subst hm
  refine d_retC () Try.results51 ?_ trivial (fun W h => h.phi (fun W hφ => hφ)) (.inr rfl)
  refine res_tmp <| res_nil ?_
  exact rfl
noncomputable def m_ref08_Net_Peer_j2  : Option (Int × Bool) :=
  some (0, false)
noncomputable def m_ref08_Net_Peer_j1 (x1 : Int) (o0 : Gref08_Net) (p2 : Int) : Option (Int × Bool) :=
  if 0 ≤ x1 then
    (at_ o0.fConns x1).bind fun x28 =>
    if x28.fTo = p2 then
      (at_ o0.fConns x1).bind fun x34 =>
      some (x34.fFrom, true)
    else
      m_ref08_Net_Peer_j2
  else
    m_ref08_Net_Peer_j2
noncomputable def m_ref08_Net_Peer (p1 : Int) (p2 : Int) (o0 : Gref08_Net) : Option (Int × Bool) :=
  (m_ref08_Net_find p1 o0).bind fun x1 =>
  if 0 ≤ x1 then
    (at_ o0.fConns x1).bind fun x40 =>
    if x40.fFrom = p2 then
      (at_ o0.fConns x1).bind fun x46 =>
      some (x46.fTo, true)
    else
      m_ref08_Net_Peer_j1 x1 o0 p2
  else
    m_ref08_Net_Peer_j1 x1 o0 p2
theorem c_ref08_Net_Peer {w0 : World} {M : Nat → Prop} {H : List (Nat × Nat × Obj)} {R : List (Nat × Row)} {φ : World → Prop} (p1 : Int) (p2 : Int) (go0 : Nat) (o0 : Gref08_Net) (Ao0_0 : Option Addr) (co0_0 : Nat) (hco0_0 : o0.fItems.length ≤ co0_0) (Ao0_1 : Option Addr) (co0_1 : Nat) (hco0_1 : o0.fConns.length ≤ co0_1) (r : Int × Bool) (hm : m_ref08_Net_Peer p1 p2 o0 = some r) :
    Cn Try.prog 23 #[.pointer (some ⟨go0, 0, none⟩), .int .i64 p1, .int .i64 p2] ⟨w0, M, (1000, go0, .cells #[.slice Ao0_0 o0.fItems.length co0_0, .slice Ao0_1 o0.fConns.length co0_1, .int .i64 o0.fLast, .int .i64 o0.fOpens] 55 (0, 0)) :: H, (1000, ⟨.slice Ao0_0 o0.fItems.length co0_0, 40, 6, o0.fItems.length, o0.fItems.flatMap GItem.enc⟩) :: (1001, ⟨.slice Ao0_1 o0.fConns.length co0_1, 77, 3, o0.fConns.length, o0.fConns.flatMap Gref08_Conn.enc⟩) :: R, φ⟩ (fun x : Unit => .tuple #[.int .i64 r.1, .bool r.2]) (fun x => True) (fun x => ⟨w0, M, (1000, go0, .cells #[.slice Ao0_0 o0.fItems.length co0_0, .slice Ao0_1 o0.fConns.length co0_1, .int .i64 o0.fLast, .int .i64 o0.fOpens] 55 (0, 0)) :: H, (1000, ⟨.slice Ao0_0 o0.fItems.length co0_0, 40, 6, o0.fItems.length, o0.fItems.flatMap GItem.enc⟩) :: (1001, ⟨.slice Ao0_1 o0.fConns.length co0_1, 77, 3, o0.fConns.length, o0.fConns.flatMap Gref08_Conn.enc⟩) :: R, φ⟩) := by
 unfold m_ref08_Net_Peer at hm
 refine cn_intro (fn := Try.f23) (N := 56) Try.func23 rfl Try.ntmps23 rfl <| c_seq <| c_region <| g_v rfl r_assign <| g_v rfl r_assign <| g_nil <| d_then <| c_seq <| c_region <| g_v rfl r_move ?_
 refine g_v rfl r_move ?_
 replace hm := bnd hm
 obtain ⟨x1, hx2, hm⟩ := hm
 refine g_cn ⟨w0, M, (1000, go0, .cells #[.slice Ao0_0 o0.fItems.length co0_0, .slice Ao0_1 o0.fConns.length co0_1, .int .i64 o0.fLast, .int .i64 o0.fOpens] 55 (0, 0)) :: H, (1000, ⟨.slice Ao0_0 o0.fItems.length co0_0, 40, 6, o0.fItems.length, o0.fItems.flatMap GItem.enc⟩) :: (1001, ⟨.slice Ao0_1 o0.fConns.length co0_1, 77, 3, o0.fConns.length, o0.fConns.flatMap Gref08_Conn.enc⟩) :: R, φ⟩ (fun W h => (ok_front (t := 1000) (t' := 1000) (ok_frontR (t := 1000) (t' := 1000) (ok_frontR (t := 1001) (t' := 1001) h rfl) rfl) rfl)) Try.call51 rfl rfl (c_ref08_Net_find p1 go0 o0 Ao0_0 co0_0 hco0_0 Ao0_1 co0_1 hco0_1 _ hx2) (fun _ _ => ?_)
 refine g_sta _ (fun W h => (ok_frontR (t := 1000) (t' := 1000) (ok_frontR (t := 1001) (t' := 1001) (ok_front (t := 1000) (t' := 1000) h rfl) rfl) rfl)) <| g_v rfl r_assign <| g_nil <| d_then <| c_seq ?_
 refine c_cut (ι := Unit) [0, 2, 8] (fun _ => []) (fun _ => ⟨w0, M, (1000, go0, .cells #[.slice Ao0_0 o0.fItems.length co0_0, .slice Ao0_1 o0.fConns.length co0_1, .int .i64 o0.fLast, .int .i64 o0.fOpens] 55 (0, 0)) :: H, (1000, ⟨.slice Ao0_0 o0.fItems.length co0_0, 40, 6, o0.fItems.length, o0.fItems.flatMap GItem.enc⟩) :: (1001, ⟨.slice Ao0_1 o0.fConns.length co0_1, 77, 3, o0.fConns.length, o0.fConns.flatMap Gref08_Conn.enc⟩) :: R, φ⟩) (fun _ => m_ref08_Net_Peer_j1 x1 o0 p2 = some r) ?_ (fun _ u hm => ?_)
 ·
  refine c_seq <| c_region <| g_v rfl r_move <| g_v rfl (r_geq rfl rfl) <| g_v rfl r_move ?_
  refine g_if rfl rfl rfl rfl rfl (fun h39 => ?_) (fun h39 => ?_)
  ·
   replace hm := ite_t hm (of_decide_eq_true h39)
   refine g_v rfl r_move <| g_do rfl rfl rfl rfl rfl h39 <| g_v rfl (r_nilck rfl) <| g_do rfl rfl rfl rfl rfl h39 <| g_v rfl (r_field (n := 1) Try.underlying55 rfl Try.sizeOf53 rfl rfl) <| g_do rfl rfl rfl rfl rfl h39 <| g_v rfl (r_load (tag := 1000) rfl rfl rfl Try.isAgg53) <| g_do rfl rfl rfl rfl rfl h39 <| g_v rfl r_move <| g_do rfl rfl rfl rfl rfl h39 ?_
   replace hm := bnd hm
   obtain ⟨x40, hx40, hm⟩ := hm
   refine g_know _ (fun W hS => cl_at (p := (Sta.ok ⟨w0, M, (1000, go0, .cells #[.slice Ao0_0 o0.fItems.length co0_0, .slice Ao0_1 o0.fConns.length co0_1, .int .i64 o0.fLast, .int .i64 o0.fOpens] 55 (0, 0)) :: H, (1000, ⟨.slice Ao0_0 o0.fItems.length co0_0, 40, 6, o0.fItems.length, o0.fItems.flatMap GItem.enc⟩) :: (1001, ⟨.slice Ao0_1 o0.fConns.length co0_1, 77, 3, o0.fConns.length, o0.fConns.flatMap Gref08_Conn.enc⟩) :: R, φ⟩)) (sz := 3) (fun _ => rfl) (by decide) hS (fun W hS => rowCl (S := ⟨w0, M, (1000, go0, .cells #[.slice Ao0_0 o0.fItems.length co0_0, .slice Ao0_1 o0.fConns.length co0_1, .int .i64 o0.fLast, .int .i64 o0.fOpens] 55 (0, 0)) :: H, (1000, ⟨.slice Ao0_0 o0.fItems.length co0_0, 40, 6, o0.fItems.length, o0.fItems.flatMap GItem.enc⟩) :: (1001, ⟨.slice Ao0_1 o0.fConns.length co0_1, 77, 3, o0.fConns.length, o0.fConns.flatMap Gref08_Conn.enc⟩) :: R, φ⟩) (tag := 1001) rfl W hS) hx40) ?_
   rintro ⟨ad41, hA43, f42⟩
   refine g_v rfl (r_ix Try.underlying53 Try.sizeOf77 rfl hA43 rfl hx40) <| g_do rfl rfl rfl rfl rfl h39 ?_
   have f44 := fun (W : World) (h : (Sta.ok ⟨w0, M, (1000, go0, .cells #[.slice Ao0_0 o0.fItems.length co0_0, .slice Ao0_1 o0.fConns.length co0_1, .int .i64 o0.fLast, .int .i64 o0.fOpens] 55 (0, 0)) :: H, (1000, ⟨.slice Ao0_0 o0.fItems.length co0_0, 40, 6, o0.fItems.length, o0.fItems.flatMap GItem.enc⟩) :: (1001, ⟨.slice Ao0_1 o0.fConns.length co0_1, 77, 3, o0.fConns.length, o0.fConns.flatMap Gref08_Conn.enc⟩) :: R, φ⟩) W) => Cl.drop (f42 W h) 1
   refine g_v rfl (r_fieldF Try.underlying77 rfl Try.sizeOf3 rfl) <| g_do rfl rfl rfl rfl rfl h39 <| g_v rfl (r_ld rfl Try.isAgg3 (fun W hS => Cl.head (f44 W hS))) <| g_do rfl rfl rfl rfl rfl h39 <| g_v rfl r_move <| g_do rfl rfl rfl rfl rfl h39 <| g_v rfl (r_eql rfl rfl) <| g_v rfl (r_pick1 rfl h39) <| g_nil <| d_then ?_
   refine c_flat [(0, .pointer (some ⟨go0, 0, none⟩)), (2, .int .i64 p2), (8, .int .i64 x1), (25, .bool (decide (x40.fFrom = p2)))] ⟨rfl, rfl, rfl, rfl, trivial⟩ (fun u => ?_)
   refine c_sta ⟨w0, M, (1000, go0, .cells #[.slice Ao0_0 o0.fItems.length co0_0, .slice Ao0_1 o0.fConns.length co0_1, .int .i64 o0.fLast, .int .i64 o0.fOpens] 55 (0, 0)) :: H, (1000, ⟨.slice Ao0_0 o0.fItems.length co0_0, 40, 6, o0.fItems.length, o0.fItems.flatMap GItem.enc⟩) :: (1001, ⟨.slice Ao0_1 o0.fConns.length co0_1, 77, 3, o0.fConns.length, o0.fConns.flatMap Gref08_Conn.enc⟩) :: R, φ⟩ (fun _ h => h) ?_
   refine c_cond rfl (fun h45 => ?_) (fun h45 => ?_)
   ·
    replace hm := ite_t hm (of_decide_eq_true h45)
    refine c_seq <| c_region <| g_v rfl r_move <| g_v rfl (r_nilck rfl) <| g_v rfl (r_field (n := 1) Try.underlying55 rfl Try.sizeOf53 rfl rfl) <| g_v rfl (r_load (tag := 1000) rfl rfl rfl Try.isAgg53) <| g_v rfl r_move ?_
    replace hm := bnd hm
    obtain ⟨x46, hx46, hm⟩ := hm
    refine g_know _ (fun W hS => cl_at (p := (Sta.ok ⟨w0, M, (1000, go0, .cells #[.slice Ao0_0 o0.fItems.length co0_0, .slice Ao0_1 o0.fConns.length co0_1, .int .i64 o0.fLast, .int .i64 o0.fOpens] 55 (0, 0)) :: H, (1000, ⟨.slice Ao0_0 o0.fItems.length co0_0, 40, 6, o0.fItems.length, o0.fItems.flatMap GItem.enc⟩) :: (1001, ⟨.slice Ao0_1 o0.fConns.length co0_1, 77, 3, o0.fConns.length, o0.fConns.flatMap Gref08_Conn.enc⟩) :: R, φ⟩)) (sz := 3) (fun _ => rfl) (by decide) hS (fun W hS => rowCl (S := ⟨w0, M, (1000, go0, .cells #[.slice Ao0_0 o0.fItems.length co0_0, .slice Ao0_1 o0.fConns.length co0_1, .int .i64 o0.fLast, .int .i64 o0.fOpens] 55 (0, 0)) :: H, (1000, ⟨.slice Ao0_0 o0.fItems.length co0_0, 40, 6, o0.fItems.length, o0.fItems.flatMap GItem.enc⟩) :: (1001, ⟨.slice Ao0_1 o0.fConns.length co0_1, 77, 3, o0.fConns.length, o0.fConns.flatMap Gref08_Conn.enc⟩) :: R, φ⟩) (tag := 1001) rfl W hS) hx46) ?_
    rintro ⟨ad47, hA49, f48⟩
    refine g_v rfl (r_ix Try.underlying53 Try.sizeOf77 rfl hA49 rfl hx46) ?_
    have f50 := fun (W : World) (h : (Sta.ok ⟨w0, M, (1000, go0, .cells #[.slice Ao0_0 o0.fItems.length co0_0, .slice Ao0_1 o0.fConns.length co0_1, .int .i64 o0.fLast, .int .i64 o0.fOpens] 55 (0, 0)) :: H, (1000, ⟨.slice Ao0_0 o0.fItems.length co0_0, 40, 6, o0.fItems.length, o0.fItems.flatMap GItem.enc⟩) :: (1001, ⟨.slice Ao0_1 o0.fConns.length co0_1, 77, 3, o0.fConns.length, o0.fConns.flatMap Gref08_Conn.enc⟩) :: R, φ⟩) W) => Cl.drop (f48 W h) 2
    refine g_v rfl (r_fieldF Try.underlying77 rfl Try.sizeOf3 rfl) <| g_v rfl (r_ld rfl Try.isAgg3 (fun W hS => Cl.head (f50 W hS))) <| g_v rfl r_assign <| g_v rfl r_assign <| g_nil <| d_then ?_
    refine c_flat [(6, .int .i64 x46.fTo), (7, .bool true)] ⟨rfl, rfl, trivial⟩ (fun u => ?_)
    refine c_ret <| d_ret_then <| d_ret_then ?_
    replace hm := Option.some.inj hm
    subst hm
    refine d_retC () Try.results23 ?_ trivial (fun W h => h.phi (fun W hφ => hφ)) (.inr rfl)
    refine res_tmp <| res_tmp <| res_nil ?_
    exact rfl
   ·
    replace hm := ite_f hm (of_decide_eq_false h45)
    refine c_skip ?_
    exact d_round () hm Nat.zero_lt_one ⟨rfl, rfl, rfl, trivial⟩ (fun W h => h.phi (fun W hφ => hφ))
  ·
   replace hm := ite_f hm (of_decide_eq_false h39)
   refine g_no rfl rfl rfl rfl rfl h39 <| g_no rfl rfl rfl rfl rfl h39 <| g_no rfl rfl rfl rfl rfl h39 <| g_no rfl rfl rfl rfl rfl h39 <| g_no rfl rfl rfl rfl rfl h39 <| g_no rfl rfl rfl rfl rfl h39 <| g_no rfl rfl rfl rfl rfl h39 <| g_no rfl rfl rfl rfl rfl h39 <| g_no rfl rfl rfl rfl rfl h39 <| g_v rfl (r_pick0 rfl h39) ?_
   refine g_nil <| d_then ?_
   refine c_flat [(0, .pointer (some ⟨go0, 0, none⟩)), (2, .int .i64 p2), (8, .int .i64 x1), (25, .bool false)] ⟨rfl, rfl, rfl, rfl, trivial⟩ (fun u => ?_)
   refine c_sta ⟨w0, M, (1000, go0, .cells #[.slice Ao0_0 o0.fItems.length co0_0, .slice Ao0_1 o0.fConns.length co0_1, .int .i64 o0.fLast, .int .i64 o0.fOpens] 55 (0, 0)) :: H, (1000, ⟨.slice Ao0_0 o0.fItems.length co0_0, 40, 6, o0.fItems.length, o0.fItems.flatMap GItem.enc⟩) :: (1001, ⟨.slice Ao0_1 o0.fConns.length co0_1, 77, 3, o0.fConns.length, o0.fConns.flatMap Gref08_Conn.enc⟩) :: R, φ⟩ (fun _ h => h) <| c_cond0 rfl rfl <| c_skip ?_
   exact d_round () hm Nat.zero_lt_one ⟨rfl, rfl, rfl, trivial⟩ (fun W h => h.phi (fun W hφ => hφ))
 ·
  unfold m_ref08_Net_Peer_j1 at hm
  refine d_flat [(0, .pointer (some ⟨go0, 0, none⟩)), (2, .int .i64 p2), (8, .int .i64 x1)] ⟨rfl, rfl, rfl, trivial⟩ (fun u => ?_)
  refine d_sta ⟨w0, M, (1000, go0, .cells #[.slice Ao0_0 o0.fItems.length co0_0, .slice Ao0_1 o0.fConns.length co0_1, .int .i64 o0.fLast, .int .i64 o0.fOpens] 55 (0, 0)) :: H, (1000, ⟨.slice Ao0_0 o0.fItems.length co0_0, 40, 6, o0.fItems.length, o0.fItems.flatMap GItem.enc⟩) :: (1001, ⟨.slice Ao0_1 o0.fConns.length co0_1, 77, 3, o0.fConns.length, o0.fConns.flatMap Gref08_Conn.enc⟩) :: R, φ⟩ (fun _ h => h) <| d_then <| c_seq ?_
  refine c_cut (ι := Unit) [] (fun _ => []) (fun _ => ⟨w0, M, (1000, go0, .cells #[.slice Ao0_0 o0.fItems.length co0_0, .slice Ao0_1 o0.fConns.length co0_1, .int .i64 o0.fLast, .int .i64 o0.fOpens] 55 (0, 0)) :: H, (1000, ⟨.slice Ao0_0 o0.fItems.length co0_0, 40, 6, o0.fItems.length, o0.fItems.flatMap GItem.enc⟩) :: (1001, ⟨.slice Ao0_1 o0.fConns.length co0_1, 77, 3, o0.fConns.length, o0.fConns.flatMap Gref08_Conn.enc⟩) :: R, φ⟩) (fun _ => m_ref08_Net_Peer_j2 = some r) ?_ (fun _ u hm => ?_)
  ·
   refine c_seq <| c_region <| g_v rfl r_move <| g_v rfl (r_geq rfl rfl) <| g_v rfl r_move ?_
   refine g_if rfl rfl rfl rfl rfl (fun h27 => ?_) (fun h27 => ?_)
   ·
    replace hm := ite_t hm (of_decide_eq_true h27)
    refine g_v rfl r_move <| g_do rfl rfl rfl rfl rfl h27 <| g_v rfl (r_nilck rfl) <| g_do rfl rfl rfl rfl rfl h27 <| g_v rfl (r_field (n := 1) Try.underlying55 rfl Try.sizeOf53 rfl rfl) <| g_do rfl rfl rfl rfl rfl h27 <| g_v rfl (r_load (tag := 1000) rfl rfl rfl Try.isAgg53) <| g_do rfl rfl rfl rfl rfl h27 <| g_v rfl r_move <| g_do rfl rfl rfl rfl rfl h27 ?_
    replace hm := bnd hm
    obtain ⟨x28, hx28, hm⟩ := hm
    refine g_know _ (fun W hS => cl_at (p := (Sta.ok ⟨w0, M, (1000, go0, .cells #[.slice Ao0_0 o0.fItems.length co0_0, .slice Ao0_1 o0.fConns.length co0_1, .int .i64 o0.fLast, .int .i64 o0.fOpens] 55 (0, 0)) :: H, (1000, ⟨.slice Ao0_0 o0.fItems.length co0_0, 40, 6, o0.fItems.length, o0.fItems.flatMap GItem.enc⟩) :: (1001, ⟨.slice Ao0_1 o0.fConns.length co0_1, 77, 3, o0.fConns.length, o0.fConns.flatMap Gref08_Conn.enc⟩) :: R, φ⟩)) (sz := 3) (fun _ => rfl) (by decide) hS (fun W hS => rowCl (S := ⟨w0, M, (1000, go0, .cells #[.slice Ao0_0 o0.fItems.length co0_0, .slice Ao0_1 o0.fConns.length co0_1, .int .i64 o0.fLast, .int .i64 o0.fOpens] 55 (0, 0)) :: H, (1000, ⟨.slice Ao0_0 o0.fItems.length co0_0, 40, 6, o0.fItems.length, o0.fItems.flatMap GItem.enc⟩) :: (1001, ⟨.slice Ao0_1 o0.fConns.length co0_1, 77, 3, o0.fConns.length, o0.fConns.flatMap Gref08_Conn.enc⟩) :: R, φ⟩) (tag := 1001) rfl W hS) hx28) ?_
    rintro ⟨ad29, hA31, f30⟩
    refine g_v rfl (r_ix Try.underlying53 Try.sizeOf77 rfl hA31 rfl hx28) <| g_do rfl rfl rfl rfl rfl h27 ?_
    have f32 := fun (W : World) (h : (Sta.ok ⟨w0, M, (1000, go0, .cells #[.slice Ao0_0 o0.fItems.length co0_0, .slice Ao0_1 o0.fConns.length co0_1, .int .i64 o0.fLast, .int .i64 o0.fOpens] 55 (0, 0)) :: H, (1000, ⟨.slice Ao0_0 o0.fItems.length co0_0, 40, 6, o0.fItems.length, o0.fItems.flatMap GItem.enc⟩) :: (1001, ⟨.slice Ao0_1 o0.fConns.length co0_1, 77, 3, o0.fConns.length, o0.fConns.flatMap Gref08_Conn.enc⟩) :: R, φ⟩) W) => Cl.drop (f30 W h) 2
    refine g_v rfl (r_fieldF Try.underlying77 rfl Try.sizeOf3 rfl) <| g_do rfl rfl rfl rfl rfl h27 <| g_v rfl (r_ld rfl Try.isAgg3 (fun W hS => Cl.head (f32 W hS))) <| g_do rfl rfl rfl rfl rfl h27 <| g_v rfl r_move <| g_do rfl rfl rfl rfl rfl h27 <| g_v rfl (r_eql rfl rfl) <| g_v rfl (r_pick1 rfl h27) <| g_nil <| d_then ?_
    refine c_flat [(0, .pointer (some ⟨go0, 0, none⟩)), (8, .int .i64 x1), (47, .bool (decide (x28.fTo = p2)))] ⟨rfl, rfl, rfl, trivial⟩ (fun u => ?_)
    refine c_cond rfl (fun h33 => ?_) (fun h33 => ?_)
    ·
     replace hm := ite_t hm (of_decide_eq_true h33)
     refine c_seq <| c_region <| g_v rfl r_move <| g_v rfl (r_nilck rfl) <| g_v rfl (r_field (n := 1) Try.underlying55 rfl Try.sizeOf53 rfl rfl) <| g_v rfl (r_load (tag := 1000) rfl rfl rfl Try.isAgg53) <| g_v rfl r_move ?_
     replace hm := bnd hm
     obtain ⟨x34, hx34, hm⟩ := hm
     refine g_know _ (fun W hS => cl_at (p := (Sta.ok ⟨w0, M, (1000, go0, .cells #[.slice Ao0_0 o0.fItems.length co0_0, .slice Ao0_1 o0.fConns.length co0_1, .int .i64 o0.fLast, .int .i64 o0.fOpens] 55 (0, 0)) :: H, (1000, ⟨.slice Ao0_0 o0.fItems.length co0_0, 40, 6, o0.fItems.length, o0.fItems.flatMap GItem.enc⟩) :: (1001, ⟨.slice Ao0_1 o0.fConns.length co0_1, 77, 3, o0.fConns.length, o0.fConns.flatMap Gref08_Conn.enc⟩) :: R, φ⟩)) (sz := 3) (fun _ => rfl) (by decide) hS (fun W hS => rowCl (S := ⟨w0, M, (1000, go0, .cells #[.slice Ao0_0 o0.fItems.length co0_0, .slice Ao0_1 o0.fConns.length co0_1, .int .i64 o0.fLast, .int .i64 o0.fOpens] 55 (0, 0)) :: H, (1000, ⟨.slice Ao0_0 o0.fItems.length co0_0, 40, 6, o0.fItems.length, o0.fItems.flatMap GItem.enc⟩) :: (1001, ⟨.slice Ao0_1 o0.fConns.length co0_1, 77, 3, o0.fConns.length, o0.fConns.flatMap Gref08_Conn.enc⟩) :: R, φ⟩) (tag := 1001) rfl W hS) hx34) ?_
     rintro ⟨ad35, hA37, f36⟩
     refine g_v rfl (r_ix Try.underlying53 Try.sizeOf77 rfl hA37 rfl hx34) ?_
     have f38 := fun (W : World) (h : (Sta.ok ⟨w0, M, (1000, go0, .cells #[.slice Ao0_0 o0.fItems.length co0_0, .slice Ao0_1 o0.fConns.length co0_1, .int .i64 o0.fLast, .int .i64 o0.fOpens] 55 (0, 0)) :: H, (1000, ⟨.slice Ao0_0 o0.fItems.length co0_0, 40, 6, o0.fItems.length, o0.fItems.flatMap GItem.enc⟩) :: (1001, ⟨.slice Ao0_1 o0.fConns.length co0_1, 77, 3, o0.fConns.length, o0.fConns.flatMap Gref08_Conn.enc⟩) :: R, φ⟩) W) => Cl.drop (f36 W h) 1
     refine g_v rfl (r_fieldF Try.underlying77 rfl Try.sizeOf3 rfl) <| g_v rfl (r_ld rfl Try.isAgg3 (fun W hS => Cl.head (f38 W hS))) <| g_v rfl r_assign <| g_v rfl r_assign <| g_nil <| d_then ?_
     refine c_flat [(6, .int .i64 x34.fFrom), (7, .bool true)] ⟨rfl, rfl, trivial⟩ (fun u => ?_)
     refine c_ret <| d_ret_then <| d_ret_then ?_
     replace hm := Option.some.inj hm
     subst hm
     refine d_retC () Try.results23 ?_ trivial (fun W h => h.phi (fun W hφ => hφ)) (.inr rfl)
     refine res_tmp <| res_tmp <| res_nil ?_
     exact rfl
    ·
     replace hm := ite_f hm (of_decide_eq_false h33)
     refine c_skip ?_
     exact d_round () hm Nat.zero_lt_one trivial (fun W h => h.phi (fun W hφ => hφ))
   ·
    replace hm := ite_f hm (of_decide_eq_false h27)
    refine g_no rfl rfl rfl rfl rfl h27 <| g_no rfl rfl rfl rfl rfl h27 <| g_no rfl rfl rfl rfl rfl h27 <| g_no rfl rfl rfl rfl rfl h27 <| g_no rfl rfl rfl rfl rfl h27 <| g_no rfl rfl rfl rfl rfl h27 <| g_no rfl rfl rfl rfl rfl h27 <| g_no rfl rfl rfl rfl rfl h27 <| g_no rfl rfl rfl rfl rfl h27 <| g_v rfl (r_pick0 rfl h27) ?_
    refine g_nil <| d_then <| c_cond0 rfl rfl <| c_skip ?_
    exact d_round () hm Nat.zero_lt_one trivial (fun W h => h.phi (fun W hφ => hφ))
  ·
   unfold m_ref08_Net_Peer_j2 at hm
   refine d_flat [] trivial (fun u => ?_)
   refine d_then <| c_seq <| c_region <| g_v rfl r_assign <| g_v rfl r_assign <| g_nil <| d_then <| c_ret ?_
   replace hm := Option.some.inj hm
   subst hm
   refine d_retC () Try.results23 ?_ trivial (fun W h => h.phi (fun W hφ => hφ)) (.inr rfl)
   refine res_tmp <| res_tmp <| res_nil ?_
   exact rfl
noncomputable def m_ref08_Net_Write (p1 : Int) (p2 : Int) (p3 : ByteArray) (o0 : Gref08_Net) : Option (Bool × Gref08_Net) :=
  (m_ref08_Net_Peer p1 p2 o0).bind fun (z4 : Int × Bool) =>
  if z4.2 = true then
    if 1024 ≤ (o0.fItems.length : Int) then
      some (false, o0)
    else
      (m_ref08_Net_add (⟨0, 3, p2, z4.1, p1, p3⟩ : GItem) o0).bind fun x7 =>
      some (true, (⟨x7.fItems, o0.fConns, x7.fLast, o0.fOpens⟩ : Gref08_Net))
  else
    some (false, o0)
theorem c_ref08_Net_Write {w0 : World} {M : Nat → Prop} {H : List (Nat × Nat × Obj)} {R : List (Nat × Row)} {φ : World → Prop} (p1 : Int) (p2 : Int) (p3 : ByteArray) (go0 : Nat) (o0 : Gref08_Net) (Ao0_0 : Option Addr) (co0_0 : Nat) (hco0_0 : o0.fItems.length ≤ co0_0) (Ao0_1 : Option Addr) (co0_1 : Nat) (hco0_1 : o0.fConns.length ≤ co0_1) (r : Bool × Gref08_Net) (hm : m_ref08_Net_Write p1 p2 p3 o0 = some r) :
    Cn Try.prog 44 #[.pointer (some ⟨go0, 0, none⟩), .int .i64 p1, .int .i64 p2, .string p3] ⟨w0, M, (1000, go0, .cells #[.slice Ao0_0 o0.fItems.length co0_0, .slice Ao0_1 o0.fConns.length co0_1, .int .i64 o0.fLast, .int .i64 o0.fOpens] 55 (0, 0)) :: H, (1000, ⟨.slice Ao0_0 o0.fItems.length co0_0, 40, 6, o0.fItems.length, o0.fItems.flatMap GItem.enc⟩) :: (1001, ⟨.slice Ao0_1 o0.fConns.length co0_1, 77, 3, o0.fConns.length, o0.fConns.flatMap Gref08_Conn.enc⟩) :: R, φ⟩ (fun x : Option Addr × Nat => .bool r.1) (fun x => r.2.fItems.length ≤ x.2) (fun x => ⟨w0, M, (1000, go0, .cells #[.slice x.1 r.2.fItems.length x.2, .slice Ao0_1 o0.fConns.length co0_1, .int .i64 r.2.fLast, .int .i64 o0.fOpens] 55 (0, 0)) :: H, (2000, ⟨.slice x.1 r.2.fItems.length x.2, 40, 6, r.2.fItems.length, r.2.fItems.flatMap GItem.enc⟩) :: (1001, ⟨.slice Ao0_1 o0.fConns.length co0_1, 77, 3, o0.fConns.length, o0.fConns.flatMap Gref08_Conn.enc⟩) :: R, φ⟩) := by
 unfold m_ref08_Net_Write at hm
 refine cn_intro (fn := Try.f44) (N := 35) Try.func44 rfl Try.ntmps44 rfl <| c_seq <| c_region <| g_v rfl r_assign <| g_nil <| d_then <| c_seq <| c_region <| g_v rfl r_move <| g_v rfl r_move ?_
 refine g_v rfl r_move ?_
 replace hm := bnd hm
 obtain ⟨⟨x1, x2⟩, hx3, hm⟩ := hm
 refine g_cn ⟨w0, M, (1000, go0, .cells #[.slice Ao0_0 o0.fItems.length co0_0, .slice Ao0_1 o0.fConns.length co0_1, .int .i64 o0.fLast, .int .i64 o0.fOpens] 55 (0, 0)) :: H, (1000, ⟨.slice Ao0_0 o0.fItems.length co0_0, 40, 6, o0.fItems.length, o0.fItems.flatMap GItem.enc⟩) :: (1001, ⟨.slice Ao0_1 o0.fConns.length co0_1, 77, 3, o0.fConns.length, o0.fConns.flatMap Gref08_Conn.enc⟩) :: R, φ⟩ (fun W h => (ok_front (t := 1000) (t' := 1000) (ok_frontR (t := 1000) (t' := 1000) (ok_frontR (t := 1001) (t' := 1001) h rfl) rfl) rfl)) Try.call23 rfl rfl (c_ref08_Net_Peer p1 p2 go0 o0 Ao0_0 co0_0 hco0_0 Ao0_1 co0_1 hco0_1 _ hx3) (fun _ _ => ?_)
 refine g_sta _ (fun W h => (ok_frontR (t := 1000) (t' := 1000) (ok_frontR (t := 1001) (t' := 1001) (ok_front (t := 1000) (t' := 1000) h rfl) rfl) rfl)) <| g_v rfl r_move <| g_v rfl (r_extract rfl rfl) <| g_v rfl (r_extract rfl rfl) <| g_v rfl r_assign <| g_v rfl r_assign <| g_nil <| d_then ?_
 refine c_flat [(0, .pointer (some ⟨go0, 0, none⟩)), (1, .int .i64 p1), (2, .int .i64 p2), (3, .string p3), (9, .int .i64 x1), (10, .bool x2)] ⟨rfl, rfl, rfl, rfl, rfl, rfl, trivial⟩ (fun u => ?_)
 refine c_sta ⟨w0, M, (1000, go0, .cells #[.slice Ao0_0 o0.fItems.length co0_0, .slice Ao0_1 o0.fConns.length co0_1, .int .i64 o0.fLast, .int .i64 o0.fOpens] 55 (0, 0)) :: H, (1000, ⟨.slice Ao0_0 o0.fItems.length co0_0, 40, 6, o0.fItems.length, o0.fItems.flatMap GItem.enc⟩) :: (1001, ⟨.slice Ao0_1 o0.fConns.length co0_1, 77, 3, o0.fConns.length, o0.fConns.flatMap Gref08_Conn.enc⟩) :: R, φ⟩ (fun _ h => h) <| c_seq <| c_seq <| c_region <| g_v rfl r_move <| g_v rfl (r_not rfl) <| g_v rfl r_move ?_
 refine g_if rfl rfl rfl rfl rfl (fun h5 => ?_) (fun h5 => ?_)
 ·
  have h5' : x2 = true := by revert h5; cases x2 <;> simp
  replace hm := ite_t hm h5'
  refine g_v rfl r_move <| g_do rfl rfl rfl rfl rfl h5 <| g_v rfl (r_nilck rfl) <| g_do rfl rfl rfl rfl rfl h5 <| g_v rfl (r_field (n := 0) Try.underlying55 rfl Try.sizeOf52 rfl rfl) <| g_do rfl rfl rfl rfl rfl h5 <| g_v rfl (r_load (tag := 1000) rfl rfl rfl Try.isAgg52) <| g_do rfl rfl rfl rfl rfl h5 <| g_v rfl (r_lenL Try.underlying52 rfl) <| g_do rfl rfl rfl rfl rfl h5 ?_
  refine g_v rfl (r_geq rfl rfl) <| g_v rfl (r_pick0 rfl h5) <| g_nil <| d_then ?_
  refine c_flat [(0, .pointer (some ⟨go0, 0, none⟩)), (1, .int .i64 p1), (2, .int .i64 p2), (3, .string p3), (9, .int .i64 x1), (27, .bool (decide (1024 ≤ (o0.fItems.length : Int))))] ⟨rfl, rfl, rfl, rfl, rfl, rfl, trivial⟩ (fun u => ?_)
  refine c_cond rfl (fun h6 => ?_) (fun h6 => ?_)
  ·
   replace hm := ite_t hm (of_decide_eq_true h6)
   refine c_seq <| c_region <| g_v rfl r_assign <| g_nil <| d_then <| c_ret <| d_ret_then ?_
   replace hm := Option.some.inj hm
   subst hm
   refine d_sta _ (fun W h => ok_frontR (t := 1000) (t' := 2000) h rfl) ?_
   refine d_retC (Ao0_0, co0_0) Try.results44 ?_ hco0_0 (fun W h => h.phi (fun W hφ => hφ)) (.inr rfl)
   refine res_tmp <| res_nil ?_
   exact rfl
  ·
   replace hm := ite_f hm (of_decide_eq_false h6)
   refine c_skip <| d_then <| c_seq <| c_region <| g_v rfl r_move <| g_v rfl r_move <| g_v rfl r_move <| g_v rfl r_move <| g_v rfl r_move <| g_v rfl (r_build _ rfl (bld40_15 _ _ _ _ _)) ?_
   replace hm := bnd hm
   obtain ⟨x7, hx8, hm⟩ := hm
   refine g_cn ⟨w0, M, (1000, go0, .cells #[.slice Ao0_0 o0.fItems.length co0_0, .slice Ao0_1 o0.fConns.length co0_1, .int .i64 o0.fLast, .int .i64 o0.fOpens] 55 (0, 0)) :: H, (1000, ⟨.slice Ao0_0 o0.fItems.length co0_0, 40, 6, o0.fItems.length, o0.fItems.flatMap GItem.enc⟩) :: (1001, ⟨.slice Ao0_1 o0.fConns.length co0_1, 77, 3, o0.fConns.length, o0.fConns.flatMap Gref08_Conn.enc⟩) :: R, φ⟩ (fun W h => (ok_front (t := 1000) (t' := 1000) (ok_frontR (t := 1000) (t' := 1000) (ok_frontR (t := 1001) (t' := 1001) h rfl) rfl) rfl)) Try.call55 rfl rfl (c_ref08_Net_add (⟨0, 3, p2, x1, p1, p3⟩ : GItem) go0 o0 Ao0_0 co0_0 hco0_0 Ao0_1 co0_1 hco0_1 _ hx8) (fun ⟨A9, c10⟩ hc10 => ?_)
   refine g_sta _ (fun W h => (ok_frontR (t := 2000) (t' := 1000) (ok_frontR (t := 1001) (t' := 1001) (ok_front (t := 1000) (t' := 1000) h rfl) rfl) rfl)) <| g_nil <| d_then <| c_seq <| c_region <| g_v rfl r_assign <| g_nil <| d_then <| c_ret ?_
   replace hm := Option.some.inj hm
   subst hm
   refine d_sta _ (fun W h => ok_frontR (t := 1000) (t' := 2000) h rfl) ?_
   refine d_retC (A9, c10) Try.results44 ?_ hc10 (fun W h => h.phi (fun W hφ => hφ)) (.inr rfl)
   refine res_tmp <| res_nil ?_
   exact rfl
 ·
  have h5' : x2 = false := by revert h5; cases x2 <;> simp
  replace hm := ite_f hm (bool_nt h5')
  refine g_no rfl rfl rfl rfl rfl h5 <| g_no rfl rfl rfl rfl rfl h5 <| g_no rfl rfl rfl rfl rfl h5 <| g_no rfl rfl rfl rfl rfl h5 <| g_no rfl rfl rfl rfl rfl h5 <| g_v rfl (r_pick1 rfl h5) <| g_nil <| d_then <| c_cond1 rfl rfl <| c_seq ?_
  refine c_region <| g_v rfl r_assign <| g_nil <| d_then <| c_ret <| d_ret_then ?_
  replace hm := Option.some.inj hm
  subst hm
  refine d_sta _ (fun W h => ok_frontR (t := 1000) (t' := 2000) h rfl) ?_
  refine d_retC (Ao0_0, co0_0) Try.results44 ?_ hco0_0 (fun W h => h.phi (fun W hφ => hφ)) (.inr rfl)
  refine res_tmp <| res_nil ?_
  exact rfl
noncomputable def m_ref08_Net_drop (p1 : Int) (o0 : Gref08_Net) : Option (Gref08_Conn × Gref08_Net) :=
  (at_ o0.fConns p1).bind fun x2 =>
  (cutHi o0.fConns p1).bind fun l10 =>
  (app 24 ([] : List Gref08_Conn) l10).bind fun l11 =>
  (cutLo o0.fConns (w64 (p1 + 1))).bind fun l15 =>
  (app 24 l11 l15).bind fun l16 =>
  some (x2, (⟨o0.fItems, l16, o0.fLast, o0.fOpens⟩ : Gref08_Net))
theorem c_ref08_Net_drop {w0 : World} {M : Nat → Prop} {H : List (Nat × Nat × Obj)} {R : List (Nat × Row)} {φ : World → Prop} (p1 : Int) (go0 : Nat) (o0 : Gref08_Net) (Ao0_0 : Option Addr) (co0_0 : Nat) (hco0_0 : o0.fItems.length ≤ co0_0) (Ao0_1 : Option Addr) (co0_1 : Nat) (hco0_1 : o0.fConns.length ≤ co0_1) (r : Gref08_Conn × Gref08_Net) (hm : m_ref08_Net_drop p1 o0 = some r) :
    Cn Try.prog 56 #[.pointer (some ⟨go0, 0, none⟩), .int .i64 p1] ⟨w0, M, (1000, go0, .cells #[.slice Ao0_0 o0.fItems.length co0_0, .slice Ao0_1 o0.fConns.length co0_1, .int .i64 o0.fLast, .int .i64 o0.fOpens] 55 (0, 0)) :: H, (1000, ⟨.slice Ao0_0 o0.fItems.length co0_0, 40, 6, o0.fItems.length, o0.fItems.flatMap GItem.enc⟩) :: (1001, ⟨.slice Ao0_1 o0.fConns.length co0_1, 77, 3, o0.fConns.length, o0.fConns.flatMap Gref08_Conn.enc⟩) :: R, φ⟩ (fun x : Option Addr × Nat => .agg #[.int .i64 r.1.fN, .int .i64 r.1.fFrom, .int .i64 r.1.fTo]) (fun x => r.2.fConns.length ≤ x.2) (fun x => ⟨w0, M, (1000, go0, .cells #[.slice Ao0_0 o0.fItems.length co0_0, .slice x.1 r.2.fConns.length x.2, .int .i64 o0.fLast, .int .i64 o0.fOpens] 55 (0, 0)) :: H, (2000, ⟨.slice x.1 r.2.fConns.length x.2, 77, 3, r.2.fConns.length, r.2.fConns.flatMap Gref08_Conn.enc⟩) :: (1000, ⟨.slice Ao0_0 o0.fItems.length co0_0, 40, 6, o0.fItems.length, o0.fItems.flatMap GItem.enc⟩) :: R, φ⟩) := by
 unfold m_ref08_Net_drop at hm
 refine cn_intro (fn := Try.f56) (N := 35) Try.func56 rfl Try.ntmps56 rfl <| c_seq <| c_region ?_
 refine g_e rfl (e_alloc 100040 Try.zeroValue77) (fun g1 _ => ?_)
 refine g_nil <| d_then <| c_seq <| c_region <| g_v rfl r_move <| g_v rfl (r_nilck rfl) <| g_v rfl (r_field (n := 1) Try.underlying55 rfl Try.sizeOf53 rfl rfl) <| g_v rfl (r_load (tag := 1000) rfl rfl rfl Try.isAgg53) <| g_v rfl r_move ?_
 replace hm := bnd hm
 obtain ⟨x2, hx2, hm⟩ := hm
 refine g_know _ (fun W hS => cl_at (p := (Sta.ok ⟨w0, M, (100040, g1, .cells #[.int .i64 0, .int .i64 0, .int .i64 0] 77 (0, 0)) :: (1000, go0, .cells #[.slice Ao0_0 o0.fItems.length co0_0, .slice Ao0_1 o0.fConns.length co0_1, .int .i64 o0.fLast, .int .i64 o0.fOpens] 55 (0, 0)) :: H, (1000, ⟨.slice Ao0_0 o0.fItems.length co0_0, 40, 6, o0.fItems.length, o0.fItems.flatMap GItem.enc⟩) :: (1001, ⟨.slice Ao0_1 o0.fConns.length co0_1, 77, 3, o0.fConns.length, o0.fConns.flatMap Gref08_Conn.enc⟩) :: R, φ⟩)) (sz := 3) (fun _ => rfl) (by decide) hS (fun W hS => rowCl (S := ⟨w0, M, (100040, g1, .cells #[.int .i64 0, .int .i64 0, .int .i64 0] 77 (0, 0)) :: (1000, go0, .cells #[.slice Ao0_0 o0.fItems.length co0_0, .slice Ao0_1 o0.fConns.length co0_1, .int .i64 o0.fLast, .int .i64 o0.fOpens] 55 (0, 0)) :: H, (1000, ⟨.slice Ao0_0 o0.fItems.length co0_0, 40, 6, o0.fItems.length, o0.fItems.flatMap GItem.enc⟩) :: (1001, ⟨.slice Ao0_1 o0.fConns.length co0_1, 77, 3, o0.fConns.length, o0.fConns.flatMap Gref08_Conn.enc⟩) :: R, φ⟩) (tag := 1001) rfl W hS) hx2) ?_
 rintro ⟨ad3, hA5, f4⟩
 refine g_v rfl (r_ix Try.underlying53 Try.sizeOf77 rfl hA5 rfl hx2) <| g_v rfl (r_ldA rfl Try.isAgg77 Try.sizeOf77 (fun W hS => (f4 W hS).take 3) rfl) ?_
 refine g_e rfl (e_alloc 100050 Try.zeroValue77) (fun g6 _ => ?_)
 refine g_storeL (tag := 100050) rfl rfl rfl rfl Try.sizeOf77 rfl rfl <| g_nil <| d_then ?_
 refine c_flat [(0, .pointer (some ⟨go0, 0, none⟩)), (1, .int .i64 p1), (4, .pointer (some ⟨g1, 0, none⟩)), (5, .pointer (some ⟨g6, 0, none⟩))] ⟨rfl, rfl, rfl, rfl, trivial⟩ (fun u => ?_)
 refine c_sta ⟨w0, M, (100050, g6, .cells #[.int .i64 x2.fN, .int .i64 x2.fFrom, .int .i64 x2.fTo] 77 (0, 0)) :: (100040, g1, .cells #[.int .i64 0, .int .i64 0, .int .i64 0] 77 (0, 0)) :: (1000, go0, .cells #[.slice Ao0_0 o0.fItems.length co0_0, .slice Ao0_1 o0.fConns.length co0_1, .int .i64 o0.fLast, .int .i64 o0.fOpens] 55 (0, 0)) :: H, (1000, ⟨.slice Ao0_0 o0.fItems.length co0_0, 40, 6, o0.fItems.length, o0.fItems.flatMap GItem.enc⟩) :: (1001, ⟨.slice Ao0_1 o0.fConns.length co0_1, 77, 3, o0.fConns.length, o0.fConns.flatMap Gref08_Conn.enc⟩) :: R, φ⟩ (fun _ h => h) <| c_seq <| c_region <| g_v rfl r_assign <| g_nil <| d_then <| c_seq <| c_region <| g_v rfl r_move <| g_v rfl r_move ?_
 refine g_v rfl (r_nilck rfl) <| g_v rfl (r_field (n := 1) Try.underlying55 rfl Try.sizeOf53 rfl rfl) <| g_v rfl (r_load (tag := 1000) rfl rfl rfl Try.isAgg53) <| g_v rfl r_move ?_
 refine g_shut (tag := 1001) rfl (fun φ7 q7' => ?_)
 have q7 : ∀ W, φ7 W → φ W := fun W h => (q7' W h).1
 have f8 := fun (W : World) (h : φ7 W) => (q7' W h).2
 replace hm := bnd hm
 obtain ⟨l10, hl10, hm⟩ := hm
 have f9 := fun (W : World) (h : φ7 W) => cl_cutHi (enc := Gref08_Conn.enc) (sz := 3) (fun _ => rfl) hl10 (f8 W h)
 refine g_v rfl (r_lcutHi Try.underlying53 Try.sizeOf77 rfl hco0_1 rfl hl10) <| g_sta _ (fun W h => nilR h 11 77 3) ?_
 replace hm := bnd hm
 obtain ⟨l11, hl11, hm⟩ := hm
 refine g_e rfl (e_appR (enc := Gref08_Conn.enc) (l := []) (l1 := l10) (l2 := l11) (tag := 11) Try.underlying53 inf77_19 rfl (by decide) (by decide) (fun _ => rfl) (fun _ => rfl) rfl (Nat.le_refl 0) rfl rfl (fun W hS => f9 W hS.now) hl11) (fun ⟨A12, c13⟩ hc13 => ?_)
 refine g_v rfl r_assign <| g_nil <| d_then ?_
 refine c_flat [(0, .pointer (some ⟨go0, 0, none⟩)), (1, .int .i64 p1), (4, .pointer (some ⟨g1, 0, none⟩)), (5, .pointer (some ⟨g6, 0, none⟩)), (6, .slice A12 l11.length c13)] ⟨rfl, rfl, rfl, rfl, rfl, trivial⟩ (fun u => ?_)
 refine c_sta ⟨w0, M, (100050, g6, .cells #[.int .i64 x2.fN, .int .i64 x2.fFrom, .int .i64 x2.fTo] 77 (0, 0)) :: (100040, g1, .cells #[.int .i64 0, .int .i64 0, .int .i64 0] 77 (0, 0)) :: (1000, go0, .cells #[.slice Ao0_0 o0.fItems.length co0_0, .slice Ao0_1 o0.fConns.length co0_1, .int .i64 o0.fLast, .int .i64 o0.fOpens] 55 (0, 0)) :: H, (11, ⟨.slice A12 l11.length c13, 77, 3, l11.length, l11.flatMap Gref08_Conn.enc⟩) :: (1000, ⟨.slice Ao0_0 o0.fItems.length co0_0, 40, 6, o0.fItems.length, o0.fItems.flatMap GItem.enc⟩) :: R, φ7⟩ (fun _ h => h) <| c_seq <| c_region <| g_v rfl r_move <| g_v rfl r_move <| g_v rfl r_move <| g_v rfl (r_nilck rfl) <| g_v rfl (r_field (n := 1) Try.underlying55 rfl Try.sizeOf53 rfl rfl) <| g_v rfl (r_load (tag := 1000) rfl rfl rfl Try.isAgg53) <| g_v rfl r_move ?_
 refine g_v rfl (r_add rfl rfl rfl) ?_
 replace hm := bnd hm
 obtain ⟨l15, hl15, hm⟩ := hm
 have f14 := fun (W : World) (h : φ7 W) => cl_cutLo (enc := Gref08_Conn.enc) (sz := 3) (c := co0_1) (fun _ => rfl) hco0_1 hl15 (f8 W h)
 refine g_v rfl (r_lcutLo Try.underlying53 Try.sizeOf77 rfl hco0_1 rfl hl15) ?_
 replace hm := bnd hm
 obtain ⟨l16, hl16, hm⟩ := hm
 refine g_e rfl (e_appR (enc := Gref08_Conn.enc) (l := l11) (l1 := l15) (l2 := l16) (tag := 11) Try.underlying53 inf77_19 rfl (by decide) (by decide) (fun _ => rfl) (fun _ => rfl) rfl hc13 rfl rfl (fun W hS => f14 W hS.now) hl16) (fun ⟨A17, c18⟩ hc18 => ?_)
 refine g_v rfl (r_nilck rfl) <| g_v rfl (r_field (n := 1) Try.underlying55 rfl Try.sizeOf53 rfl rfl) <| g_storeL (tag := 1000) rfl rfl rfl rfl Try.sizeOf53 rfl rfl <| g_nil <| d_then ?_
 refine c_flat [(4, .pointer (some ⟨g1, 0, none⟩)), (5, .pointer (some ⟨g6, 0, none⟩))] ⟨rfl, rfl, trivial⟩ (fun u => ?_)
 refine c_sta ⟨w0, M, (100050, g6, .cells #[.int .i64 x2.fN, .int .i64 x2.fFrom, .int .i64 x2.fTo] 77 (0, 0)) :: (100040, g1, .cells #[.int .i64 0, .int .i64 0, .int .i64 0] 77 (0, 0)) :: (1000, go0, .cells #[.slice Ao0_0 o0.fItems.length co0_0, .slice A17 l16.length c18, .int .i64 o0.fLast, .int .i64 o0.fOpens] 55 (0, 0)) :: H, (11, ⟨.slice A17 l16.length c18, 77, 3, l16.length, l16.flatMap Gref08_Conn.enc⟩) :: (1000, ⟨.slice Ao0_0 o0.fItems.length co0_0, 40, 6, o0.fItems.length, o0.fItems.flatMap GItem.enc⟩) :: R, φ7⟩ (fun _ h => h) <| c_seq <| c_region <| g_v rfl (r_loadA (tag := 100050) rfl rfl Try.isAgg77 Try.sizeOf77 rfl rfl) <| g_storeL (tag := 100040) rfl rfl rfl rfl Try.sizeOf77 rfl rfl <| g_nil <| d_then <| c_ret ?_
 replace hm := Option.some.inj hm
 subst hm
 refine d_sta _ (fun W h => ok_frontR (t := 11) (t' := 2000) h rfl) ?_
 refine d_retC (A17, c18) Try.results56 ?_ hc18 (fun W h => ((h.dropH (t := 100050) rfl).dropH (t := 100040) rfl).phi (fun W hφ => (q7 _ hφ))) (.inr rfl)
 refine res_agg (tag := 100040) rfl rfl Try.isAgg77 Try.sizeOf77 <| res_nil ?_
 exact rfl
noncomputable def m_ref08_Net_Close_j1 (x4 : Gref08_Conn) (p1 : Int) (x5 : Gref08_Net) (o0 : Gref08_Net) (l113 : List GItem) : Option (Bool × Gref08_Net) :=
  (m_ref08_Net_add (⟨0, 4, x4.fTo, x4.fFrom, p1, (⟨#[]⟩ : ByteArray)⟩ : GItem) (⟨l113, x5.fConns, o0.fLast, o0.fOpens⟩ : Gref08_Net)).bind fun x116 =>
  (m_ref08_Net_add (⟨0, 4, x4.fFrom, x4.fTo, p1, (⟨#[]⟩ : ByteArray)⟩ : GItem) (⟨x116.fItems, x5.fConns, x116.fLast, o0.fOpens⟩ : Gref08_Net)).bind fun x121 =>
  some (true, (⟨x121.fItems, x5.fConns, x121.fLast, o0.fOpens⟩ : Gref08_Net))
noncomputable def m_ref08_Net_Close_s2 (o0 : Gref08_Net) (p1 : Int) (l145 : List GItem) (i148 : Int) : Option (((List GItem) × Int) ⊕ (List GItem)) :=
  if i148 < (o0.fItems.length : Int) then
    (at_ o0.fItems i148).bind fun x170 =>
    if x170.fConn ≠ p1 then
      (at_ o0.fItems i148).bind fun x176 =>
      (app 56 l145 [x176]).bind fun l181 =>
      some (.inl (l181, w64 (i148 + 1)))
    else
      some (.inl (l145, w64 (i148 + 1)))
  else
    some (.inr l145)
noncomputable def m_ref08_Net_Close (p1 : Int) (o0 : Gref08_Net) : Option (Bool × Gref08_Net) :=
  (m_ref08_Net_find p1 o0).bind fun x1 =>
  if x1 < 0 then
    some (false, o0)
  else
    (m_ref08_Net_drop x1 o0).bind fun (z10 : Gref08_Conn × Gref08_Net) =>
    (loop (fun s => m_ref08_Net_Close_s2 o0 p1 s.1 s.2) (([] : List GItem), 0)).bind fun e => m_ref08_Net_Close_j1 z10.1 p1 z10.2 o0 e
theorem c_ref08_Net_Close {w0 : World} {M : Nat → Prop} {H : List (Nat × Nat × Obj)} {R : List (Nat × Row)} {φ : World → Prop} (p1 : Int) (go0 : Nat) (o0 : Gref08_Net) (Ao0_0 : Option Addr) (co0_0 : Nat) (hco0_0 : o0.fItems.length ≤ co0_0) (Ao0_1 : Option Addr) (co0_1 : Nat) (hco0_1 : o0.fConns.length ≤ co0_1) (r : Bool × Gref08_Net) (hm : m_ref08_Net_Close p1 o0 = some r) :
    Cn Try.prog 45 #[.pointer (some ⟨go0, 0, none⟩), .int .i64 p1] ⟨w0, M, (1000, go0, .cells #[.slice Ao0_0 o0.fItems.length co0_0, .slice Ao0_1 o0.fConns.length co0_1, .int .i64 o0.fLast, .int .i64 o0.fOpens] 55 (0, 0)) :: H, (1000, ⟨.slice Ao0_0 o0.fItems.length co0_0, 40, 6, o0.fItems.length, o0.fItems.flatMap GItem.enc⟩) :: (1001, ⟨.slice Ao0_1 o0.fConns.length co0_1, 77, 3, o0.fConns.length, o0.fConns.flatMap Gref08_Conn.enc⟩) :: R, φ⟩ (fun x : Option Addr × Nat × Option Addr × Nat => .bool r.1) (fun x => r.2.fItems.length ≤ x.2.1 ∧ r.2.fConns.length ≤ x.2.2.2) (fun x => ⟨w0, M, (1000, go0, .cells #[.slice x.1 r.2.fItems.length x.2.1, .slice x.2.2.1 r.2.fConns.length x.2.2.2, .int .i64 r.2.fLast, .int .i64 o0.fOpens] 55 (0, 0)) :: H, (2000, ⟨.slice x.1 r.2.fItems.length x.2.1, 40, 6, r.2.fItems.length, r.2.fItems.flatMap GItem.enc⟩) :: (2001, ⟨.slice x.2.2.1 r.2.fConns.length x.2.2.2, 77, 3, r.2.fConns.length, r.2.fConns.flatMap Gref08_Conn.enc⟩) :: R, φ⟩) := by
 unfold m_ref08_Net_Close at hm
 refine cn_intro (fn := Try.f45) (N := 66) Try.func45 rfl Try.ntmps45 rfl <| c_seq <| c_region <| g_v rfl r_assign <| g_nil <| d_then <| c_seq <| c_region <| g_v rfl r_move <| g_v rfl r_move ?_
 replace hm := bnd hm
 obtain ⟨x1, hx2, hm⟩ := hm
 refine g_cn ⟨w0, M, (1000, go0, .cells #[.slice Ao0_0 o0.fItems.length co0_0, .slice Ao0_1 o0.fConns.length co0_1, .int .i64 o0.fLast, .int .i64 o0.fOpens] 55 (0, 0)) :: H, (1000, ⟨.slice Ao0_0 o0.fItems.length co0_0, 40, 6, o0.fItems.length, o0.fItems.flatMap GItem.enc⟩) :: (1001, ⟨.slice Ao0_1 o0.fConns.length co0_1, 77, 3, o0.fConns.length, o0.fConns.flatMap Gref08_Conn.enc⟩) :: R, φ⟩ (fun W h => (ok_front (t := 1000) (t' := 1000) (ok_frontR (t := 1000) (t' := 1000) (ok_frontR (t := 1001) (t' := 1001) h rfl) rfl) rfl)) Try.call51 rfl rfl (c_ref08_Net_find p1 go0 o0 Ao0_0 co0_0 hco0_0 Ao0_1 co0_1 hco0_1 _ hx2) (fun _ _ => ?_)
 refine g_sta _ (fun W h => (ok_frontR (t := 1000) (t' := 1000) (ok_frontR (t := 1001) (t' := 1001) (ok_front (t := 1000) (t' := 1000) h rfl) rfl) rfl)) <| g_v rfl r_assign <| g_nil <| d_then <| c_seq <| c_seq <| c_region <| g_v rfl r_move <| g_v rfl (r_lss rfl rfl) <| g_nil ?_
 refine d_then ?_
 refine c_cond rfl (fun h3 => ?_) (fun h3 => ?_)
 ·
  replace hm := ite_t hm (of_decide_eq_true h3)
  refine c_seq <| c_region <| g_v rfl r_assign <| g_nil <| d_then <| c_ret <| d_ret_then ?_
  replace hm := Option.some.inj hm
  subst hm
  refine d_sta _ (fun W h => ok_frontR (t := 1001) (t' := 2001) h rfl) <| d_sta _ (fun W h => ok_frontR (t := 1000) (t' := 2000) h rfl) ?_
  refine d_retC (Ao0_0, co0_0, Ao0_1, co0_1) Try.results45 ?_ ⟨hco0_0, hco0_1⟩ (fun W h => h.phi (fun W hφ => hφ)) (.inr rfl)
  refine res_tmp <| res_nil ?_
  exact rfl
 ·
  replace hm := ite_f hm (of_decide_eq_false h3)
  refine c_skip <| d_then <| c_seq <| c_region <| g_v rfl r_move <| g_v rfl r_move ?_
  replace hm := bnd hm
  obtain ⟨⟨x4, x5⟩, hx6, hm⟩ := hm
  refine g_cn ⟨w0, M, (1000, go0, .cells #[.slice Ao0_0 o0.fItems.length co0_0, .slice Ao0_1 o0.fConns.length co0_1, .int .i64 o0.fLast, .int .i64 o0.fOpens] 55 (0, 0)) :: H, (1000, ⟨.slice Ao0_0 o0.fItems.length co0_0, 40, 6, o0.fItems.length, o0.fItems.flatMap GItem.enc⟩) :: (1001, ⟨.slice Ao0_1 o0.fConns.length co0_1, 77, 3, o0.fConns.length, o0.fConns.flatMap Gref08_Conn.enc⟩) :: R, φ⟩ (fun W h => (ok_front (t := 1000) (t' := 1000) (ok_frontR (t := 1000) (t' := 1000) (ok_frontR (t := 1001) (t' := 1001) h rfl) rfl) rfl)) Try.call56 rfl rfl (c_ref08_Net_drop x1 go0 o0 Ao0_0 co0_0 hco0_0 Ao0_1 co0_1 hco0_1 _ hx6) (fun ⟨A7, c8⟩ hc8 => ?_)
  refine g_sta _ (fun W h => (ok_frontR (t := 2000) (t' := 1001) (ok_frontR (t := 1000) (t' := 1000) (ok_front (t := 1000) (t' := 1000) h rfl) rfl) rfl)) ?_
  refine g_e rfl (e_alloc 100060 Try.zeroValue77) (fun g11 _ => ?_)
  refine g_storeL (tag := 100060) rfl rfl rfl rfl Try.sizeOf77 rfl rfl <| g_nil <| d_then ?_
  refine c_flat [(0, .pointer (some ⟨go0, 0, none⟩)), (1, .int .i64 p1), (6, .pointer (some ⟨g11, 0, none⟩))] ⟨rfl, rfl, rfl, trivial⟩ (fun u => ?_)
  refine c_sta ⟨w0, M, (100060, g11, .cells #[.int .i64 x4.fN, .int .i64 x4.fFrom, .int .i64 x4.fTo] 77 (0, 0)) :: (1000, go0, .cells #[.slice Ao0_0 o0.fItems.length co0_0, .slice A7 x5.fConns.length c8, .int .i64 o0.fLast, .int .i64 o0.fOpens] 55 (0, 0)) :: H, (1001, ⟨.slice A7 x5.fConns.length c8, 77, 3, x5.fConns.length, x5.fConns.flatMap Gref08_Conn.enc⟩) :: (1000, ⟨.slice Ao0_0 o0.fItems.length co0_0, 40, 6, o0.fItems.length, o0.fItems.flatMap GItem.enc⟩) :: R, φ⟩ (fun _ h => h) <| c_seq <| c_region <| g_v rfl r_assign <| g_nil <| d_then <| c_seq <| c_seq <| c_region <| g_v rfl r_assign ?_
  refine g_nil <| d_then <| c_sta _ (fun W h => nilR h 13 40 6) ?_
  refine c_cut (ι := (List GItem) × Option Addr × Nat) [0, 1, 6, 7] (fun ⟨l113, A114, c115⟩ => [(7, .slice A114 l113.length c115)]) (fun ⟨l113, A114, c115⟩ => ⟨w0, M, (100060, g11, .cells #[.int .i64 x4.fN, .int .i64 x4.fFrom, .int .i64 x4.fTo] 77 (0, 0)) :: (1000, go0, .cells #[.slice Ao0_0 o0.fItems.length co0_0, .slice A7 x5.fConns.length c8, .int .i64 o0.fLast, .int .i64 o0.fOpens] 55 (0, 0)) :: H, (13, ⟨.slice A114 l113.length c115, 40, 6, l113.length, l113.flatMap GItem.enc⟩) :: (1001, ⟨.slice A7 x5.fConns.length c8, 77, 3, x5.fConns.length, x5.fConns.flatMap Gref08_Conn.enc⟩) :: (1000, ⟨.slice Ao0_0 o0.fItems.length co0_0, 40, 6, o0.fItems.length, o0.fItems.flatMap GItem.enc⟩) :: R, φ⟩) (fun ⟨l113, A114, c115⟩ => m_ref08_Net_Close_j1 x4 p1 x5 o0 l113 = some r ∧ l113.length ≤ c115) ?_ (fun ⟨l113, A114, c115⟩ u ⟨hm, hc115⟩ => ?_)
  ·
   refine c_block ?_
   replace hm := bnd hm
   obtain ⟨out2, hl2, hr2⟩ := hm
   obtain ⟨n168', hl2⟩ := loop_lp hl2
   refine c_loopU (ι := Nat × (List GItem) × Int × Option Addr × Nat) [0, 1, 6, 7, 8] (fun ⟨n168, l145, i148, A146, c147⟩ => [(7, .slice A146 l145.length c147), (8, .int .i64 i148)]) (fun ⟨n168, l145, i148, A146, c147⟩ => ⟨w0, M, (100060, g11, .cells #[.int .i64 x4.fN, .int .i64 x4.fFrom, .int .i64 x4.fTo] 77 (0, 0)) :: (1000, go0, .cells #[.slice Ao0_0 o0.fItems.length co0_0, .slice A7 x5.fConns.length c8, .int .i64 o0.fLast, .int .i64 o0.fOpens] 55 (0, 0)) :: H, (13, ⟨.slice A146 l145.length c147, 40, 6, l145.length, l145.flatMap GItem.enc⟩) :: (1001, ⟨.slice A7 x5.fConns.length c8, 77, 3, x5.fConns.length, x5.fConns.flatMap Gref08_Conn.enc⟩) :: (1000, ⟨.slice Ao0_0 o0.fItems.length co0_0, 40, 6, o0.fItems.length, o0.fItems.flatMap GItem.enc⟩) :: R, φ⟩) (fun ⟨n168, l145, i148, A146, c147⟩ => Lp (fun s => m_ref08_Net_Close_s2 o0 p1 s.1 s.2) n168 (l145, i148) out2 ∧ l145.length ≤ c147) (fun ⟨n168, l145, i148, A146, c147⟩ => n168) (n168', ([] : List GItem), 0, none, 0) ⟨hl2, (Nat.le_refl 0)⟩ ⟨rfl, rfl, rfl, rfl, rfl, trivial⟩ (fun W h => h.phi (fun W hφ => hφ)) (fun ⟨n168, l145, i148, A146, c147⟩ u ⟨hlp, hc147⟩ => ?_)
   obtain ⟨o2, hm, hnx2⟩ := lp_step hlp
   clear hlp
   replace hm : m_ref08_Net_Close_s2 o0 p1 l145 i148 = some o2 := hm
   unfold m_ref08_Net_Close_s2 at hm
   refine c_flat [(0, .pointer (some ⟨go0, 0, none⟩)), (1, .int .i64 p1), (6, .pointer (some ⟨g11, 0, none⟩)), (7, .slice A146 l145.length c147), (8, .int .i64 i148)] ⟨rfl, rfl, rfl, rfl, rfl, trivial⟩ (fun u => ?_)
   refine c_sta ⟨w0, M, (100060, g11, .cells #[.int .i64 x4.fN, .int .i64 x4.fFrom, .int .i64 x4.fTo] 77 (0, 0)) :: (1000, go0, .cells #[.slice Ao0_0 o0.fItems.length co0_0, .slice A7 x5.fConns.length c8, .int .i64 o0.fLast, .int .i64 o0.fOpens] 55 (0, 0)) :: H, (13, ⟨.slice A146 l145.length c147, 40, 6, l145.length, l145.flatMap GItem.enc⟩) :: (1001, ⟨.slice A7 x5.fConns.length c8, 77, 3, x5.fConns.length, x5.fConns.flatMap Gref08_Conn.enc⟩) :: (1000, ⟨.slice Ao0_0 o0.fItems.length co0_0, 40, 6, o0.fItems.length, o0.fItems.flatMap GItem.enc⟩) :: R, φ⟩ (fun _ h => h) <| c_seq <| c_seq <| c_region <| g_v rfl r_move <| g_v rfl r_move <| g_v rfl (r_nilck rfl) <| g_v rfl (r_field (n := 0) Try.underlying55 rfl Try.sizeOf52 rfl rfl) <| g_v rfl (r_load (tag := 1000) rfl rfl rfl Try.isAgg52) <| g_v rfl (r_lenL Try.underlying52 rfl) ?_
   refine g_v rfl (r_lss rfl rfl) <| g_nil <| d_then ?_
   refine c_cond rfl (fun h169 => ?_) (fun h169 => ?_)
   ·
    replace hm := ite_t hm (of_decide_eq_true h169)
    refine c_skip <| d_then <| c_seq <| c_block <| c_seq <| c_region <| g_v rfl r_move <| g_v rfl (r_nilck rfl) <| g_v rfl (r_field (n := 0) Try.underlying55 rfl Try.sizeOf52 rfl rfl) <| g_v rfl (r_load (tag := 1000) rfl rfl rfl Try.isAgg52) ?_
    refine g_v rfl r_move ?_
    replace hm := bnd hm
    obtain ⟨x170, hx170, hm⟩ := hm
    refine g_know _ (fun W hS => cl_at (p := (Sta.ok ⟨w0, M, (100060, g11, .cells #[.int .i64 x4.fN, .int .i64 x4.fFrom, .int .i64 x4.fTo] 77 (0, 0)) :: (1000, go0, .cells #[.slice Ao0_0 o0.fItems.length co0_0, .slice A7 x5.fConns.length c8, .int .i64 o0.fLast, .int .i64 o0.fOpens] 55 (0, 0)) :: H, (13, ⟨.slice A146 l145.length c147, 40, 6, l145.length, l145.flatMap GItem.enc⟩) :: (1001, ⟨.slice A7 x5.fConns.length c8, 77, 3, x5.fConns.length, x5.fConns.flatMap Gref08_Conn.enc⟩) :: (1000, ⟨.slice Ao0_0 o0.fItems.length co0_0, 40, 6, o0.fItems.length, o0.fItems.flatMap GItem.enc⟩) :: R, φ⟩)) (sz := 6) (fun _ => rfl) (by decide) hS (fun W hS => rowCl (S := ⟨w0, M, (100060, g11, .cells #[.int .i64 x4.fN, .int .i64 x4.fFrom, .int .i64 x4.fTo] 77 (0, 0)) :: (1000, go0, .cells #[.slice Ao0_0 o0.fItems.length co0_0, .slice A7 x5.fConns.length c8, .int .i64 o0.fLast, .int .i64 o0.fOpens] 55 (0, 0)) :: H, (13, ⟨.slice A146 l145.length c147, 40, 6, l145.length, l145.flatMap GItem.enc⟩) :: (1001, ⟨.slice A7 x5.fConns.length c8, 77, 3, x5.fConns.length, x5.fConns.flatMap Gref08_Conn.enc⟩) :: (1000, ⟨.slice Ao0_0 o0.fItems.length co0_0, 40, 6, o0.fItems.length, o0.fItems.flatMap GItem.enc⟩) :: R, φ⟩) (tag := 1000) rfl W hS) hx170) ?_
    rintro ⟨ad171, hA173, f172⟩
    refine g_v rfl (r_ix Try.underlying52 Try.sizeOf40 rfl hA173 rfl hx170) ?_
    have f174 := fun (W : World) (h : (Sta.ok ⟨w0, M, (100060, g11, .cells #[.int .i64 x4.fN, .int .i64 x4.fFrom, .int .i64 x4.fTo] 77 (0, 0)) :: (1000, go0, .cells #[.slice Ao0_0 o0.fItems.length co0_0, .slice A7 x5.fConns.length c8, .int .i64 o0.fLast, .int .i64 o0.fOpens] 55 (0, 0)) :: H, (13, ⟨.slice A146 l145.length c147, 40, 6, l145.length, l145.flatMap GItem.enc⟩) :: (1001, ⟨.slice A7 x5.fConns.length c8, 77, 3, x5.fConns.length, x5.fConns.flatMap Gref08_Conn.enc⟩) :: (1000, ⟨.slice Ao0_0 o0.fItems.length co0_0, 40, 6, o0.fItems.length, o0.fItems.flatMap GItem.enc⟩) :: R, φ⟩) W) => Cl.drop (f172 W h) 4
    refine g_v rfl (r_fieldF Try.underlying40 rfl Try.sizeOf3 rfl) <| g_v rfl (r_ld rfl Try.isAgg3 (fun W hS => Cl.head (f174 W hS))) <| g_v rfl r_move <| g_v rfl (r_neq rfl rfl) <| g_nil <| d_then ?_
    refine c_flat [(0, .pointer (some ⟨go0, 0, none⟩)), (1, .int .i64 p1), (6, .pointer (some ⟨g11, 0, none⟩)), (7, .slice A146 l145.length c147), (8, .int .i64 i148), (35, .bool (decide (x170.fConn ≠ p1)))] ⟨rfl, rfl, rfl, rfl, rfl, rfl, trivial⟩ (fun u => ?_)
    refine c_cond rfl (fun h175 => ?_) (fun h175 => ?_)
    ·
     replace hm := ite_t hm (of_decide_eq_true h175)
     refine c_region <| g_v rfl r_move <| g_v rfl r_move <| g_v rfl (r_nilck rfl) <| g_v rfl (r_field (n := 0) Try.underlying55 rfl Try.sizeOf52 rfl rfl) <| g_v rfl (r_load (tag := 1000) rfl rfl rfl Try.isAgg52) <| g_v rfl r_move ?_
     replace hm := bnd hm
     obtain ⟨x176, hx176, hm⟩ := hm
     refine g_know _ (fun W hS => cl_at (p := (Sta.ok ⟨w0, M, (100060, g11, .cells #[.int .i64 x4.fN, .int .i64 x4.fFrom, .int .i64 x4.fTo] 77 (0, 0)) :: (1000, go0, .cells #[.slice Ao0_0 o0.fItems.length co0_0, .slice A7 x5.fConns.length c8, .int .i64 o0.fLast, .int .i64 o0.fOpens] 55 (0, 0)) :: H, (13, ⟨.slice A146 l145.length c147, 40, 6, l145.length, l145.flatMap GItem.enc⟩) :: (1001, ⟨.slice A7 x5.fConns.length c8, 77, 3, x5.fConns.length, x5.fConns.flatMap Gref08_Conn.enc⟩) :: (1000, ⟨.slice Ao0_0 o0.fItems.length co0_0, 40, 6, o0.fItems.length, o0.fItems.flatMap GItem.enc⟩) :: R, φ⟩)) (sz := 6) (fun _ => rfl) (by decide) hS (fun W hS => rowCl (S := ⟨w0, M, (100060, g11, .cells #[.int .i64 x4.fN, .int .i64 x4.fFrom, .int .i64 x4.fTo] 77 (0, 0)) :: (1000, go0, .cells #[.slice Ao0_0 o0.fItems.length co0_0, .slice A7 x5.fConns.length c8, .int .i64 o0.fLast, .int .i64 o0.fOpens] 55 (0, 0)) :: H, (13, ⟨.slice A146 l145.length c147, 40, 6, l145.length, l145.flatMap GItem.enc⟩) :: (1001, ⟨.slice A7 x5.fConns.length c8, 77, 3, x5.fConns.length, x5.fConns.flatMap Gref08_Conn.enc⟩) :: (1000, ⟨.slice Ao0_0 o0.fItems.length co0_0, 40, 6, o0.fItems.length, o0.fItems.flatMap GItem.enc⟩) :: R, φ⟩) (tag := 1000) rfl W hS) hx176) ?_
     rintro ⟨ad177, hA179, f178⟩
     refine g_v rfl (r_ix Try.underlying52 Try.sizeOf40 rfl hA179 rfl hx176) <| g_v rfl (r_ldA rfl Try.isAgg40 Try.sizeOf40 (fun W hS => (f178 W hS).take 6) rfl) ?_
     refine g_e rfl (e_lit (tag := 100440) (l := [x176]) (enc := GItem.enc) (sz := 6) rfl Try.underlying52 (lit40_2 _ _ _ _ _ _) rfl rfl (fun _ => rfl)) (fun g180 _ => ?_)
     replace hm := bnd hm
     obtain ⟨l181, hl181, hm⟩ := hm
     refine g_e rfl (e_appR (enc := GItem.enc) (l := l145) (l1 := [x176]) (l2 := l181) (tag := 13) Try.underlying52 inf40_3 rfl (by decide) (by decide) (fun _ => rfl) (fun _ => rfl) rfl hc147 rfl rfl (fun W hS => rowCl (tag := 100440) rfl W hS) hl181) (fun ⟨A182, c183⟩ hc183 => ?_)
     refine g_v rfl r_assign <| g_nil <| d_normal_block <| d_then ?_
     refine c_flat [(0, .pointer (some ⟨go0, 0, none⟩)), (1, .int .i64 p1), (6, .pointer (some ⟨g11, 0, none⟩)), (7, .slice A182 l181.length c183), (8, .int .i64 i148)] ⟨rfl, rfl, rfl, rfl, rfl, trivial⟩ (fun u => ?_)
     refine c_sta ⟨w0, M, (100060, g11, .cells #[.int .i64 x4.fN, .int .i64 x4.fFrom, .int .i64 x4.fTo] 77 (0, 0)) :: (1000, go0, .cells #[.slice Ao0_0 o0.fItems.length co0_0, .slice A7 x5.fConns.length c8, .int .i64 o0.fLast, .int .i64 o0.fOpens] 55 (0, 0)) :: H, (100440, ⟨.slice (some ⟨g180, 0, none⟩) [x176].length 1, 40, 6, [x176].length, [x176].flatMap GItem.enc⟩) :: (13, ⟨.slice A182 l181.length c183, 40, 6, l181.length, l181.flatMap GItem.enc⟩) :: (1001, ⟨.slice A7 x5.fConns.length c8, 77, 3, x5.fConns.length, x5.fConns.flatMap Gref08_Conn.enc⟩) :: (1000, ⟨.slice Ao0_0 o0.fItems.length co0_0, 40, 6, o0.fItems.length, o0.fItems.flatMap GItem.enc⟩) :: R, φ⟩ (fun _ h => h) <| c_region <| g_v rfl r_move <| g_v rfl (r_add rfl rfl rfl) <| g_v rfl r_assign <| g_nil ?_
     obtain ⟨n184, hn184, hlp⟩ := nx_inl hm hnx2
     exact d_round (n184, l181, w64 (i148 + 1), A182, c183) ⟨hlp, hc183⟩ hn184 ⟨rfl, rfl, rfl, rfl, rfl, trivial⟩ (fun W h => (h.dropR (t := 100440) rfl).phi (fun W hφ => hφ))
    ·
     replace hm := ite_f hm (of_decide_eq_false h175)
     refine c_skip <| d_normal_block <| d_then <| c_region <| g_v rfl r_move <| g_v rfl (r_add rfl rfl rfl) <| g_v rfl r_assign <| g_nil ?_
     obtain ⟨n185, hn185, hlp⟩ := nx_inl hm hnx2
     exact d_round (n185, l145, w64 (i148 + 1), A146, c147) ⟨hlp, hc147⟩ hn185 ⟨rfl, rfl, rfl, rfl, rfl, trivial⟩ (fun W h => h.phi (fun W hφ => hφ))
   ·
    replace hm := ite_f hm (of_decide_eq_false h169)
    refine c_exit <| d_exit_then <| d_exit_then <| d_exit_block ?_
    replace hm := nx_out (C := (fun e => m_ref08_Net_Close_j1 x4 p1 x5 o0 e = some r)) hm hnx2 hr2
    exact d_round (l145, A146, c147) ⟨hm, hc147⟩ Nat.zero_lt_one ⟨rfl, rfl, rfl, rfl, trivial⟩ (fun W h => h.phi (fun W hφ => hφ))
  ·
   unfold m_ref08_Net_Close_j1 at hm
   refine d_flat [(0, .pointer (some ⟨go0, 0, none⟩)), (1, .int .i64 p1), (6, .pointer (some ⟨g11, 0, none⟩)), (7, .slice A114 l113.length c115)] ⟨rfl, rfl, rfl, rfl, trivial⟩ (fun u => ?_)
   refine d_sta ⟨w0, M, (100060, g11, .cells #[.int .i64 x4.fN, .int .i64 x4.fFrom, .int .i64 x4.fTo] 77 (0, 0)) :: (1000, go0, .cells #[.slice Ao0_0 o0.fItems.length co0_0, .slice A7 x5.fConns.length c8, .int .i64 o0.fLast, .int .i64 o0.fOpens] 55 (0, 0)) :: H, (13, ⟨.slice A114 l113.length c115, 40, 6, l113.length, l113.flatMap GItem.enc⟩) :: (1001, ⟨.slice A7 x5.fConns.length c8, 77, 3, x5.fConns.length, x5.fConns.flatMap Gref08_Conn.enc⟩) :: (1000, ⟨.slice Ao0_0 o0.fItems.length co0_0, 40, 6, o0.fItems.length, o0.fItems.flatMap GItem.enc⟩) :: R, φ⟩ (fun _ h => h) <| d_then <| c_seq <| c_region <| g_v rfl r_move <| g_v rfl r_move <| g_v rfl (r_nilck rfl) <| g_v rfl (r_field (n := 0) Try.underlying55 rfl Try.sizeOf52 rfl rfl) <| g_storeL (tag := 1000) rfl rfl rfl rfl Try.sizeOf52 rfl rfl <| g_nil ?_
   refine d_then <| c_seq <| c_region <| g_v rfl r_move <| g_v rfl (r_field (n := 2) Try.underlying77 rfl Try.sizeOf3 rfl rfl) <| g_v rfl (r_load (tag := 100060) rfl rfl rfl Try.isAgg3) <| g_v rfl (r_field (n := 1) Try.underlying77 rfl Try.sizeOf3 rfl rfl) <| g_v rfl (r_load (tag := 100060) rfl rfl rfl Try.isAgg3) <| g_v rfl r_move <| g_v rfl (r_build _ rfl (bld40_14 _ _ _ _)) ?_
   replace hm := bnd hm
   obtain ⟨x116, hx117, hm⟩ := hm
   refine g_cn ⟨w0, M, (1000, go0, .cells #[.slice A114 l113.length c115, .slice A7 x5.fConns.length c8, .int .i64 o0.fLast, .int .i64 o0.fOpens] 55 (0, 0)) :: (100060, g11, .cells #[.int .i64 x4.fN, .int .i64 x4.fFrom, .int .i64 x4.fTo] 77 (0, 0)) :: H, (1000, ⟨.slice A114 l113.length c115, 40, 6, l113.length, l113.flatMap GItem.enc⟩) :: (1001, ⟨.slice A7 x5.fConns.length c8, 77, 3, x5.fConns.length, x5.fConns.flatMap Gref08_Conn.enc⟩) :: (1000, ⟨.slice Ao0_0 o0.fItems.length co0_0, 40, 6, o0.fItems.length, o0.fItems.flatMap GItem.enc⟩) :: R, φ⟩ (fun W h => (ok_front (t := 1000) (t' := 1000) (ok_frontR (t := 13) (t' := 1000) (ok_frontR (t := 1001) (t' := 1001) h rfl) rfl) rfl)) Try.call55 rfl rfl (c_ref08_Net_add (⟨0, 4, x4.fTo, x4.fFrom, p1, (⟨#[]⟩ : ByteArray)⟩ : GItem) go0 (⟨l113, x5.fConns, o0.fLast, o0.fOpens⟩ : Gref08_Net) A114 c115 hc115 A7 c8 hc8 _ hx117) (fun ⟨A118, c119⟩ hc119 => ?_)
   refine g_sta _ (fun W h => (ok_frontR (t := 2000) (t' := 13) (ok_frontR (t := 1001) (t' := 1001) (ok_front (t := 1000) (t' := 1000) h rfl) rfl) rfl)) <| g_nil <| d_then ?_
   refine c_flat [(0, .pointer (some ⟨go0, 0, none⟩)), (1, .int .i64 p1), (6, .pointer (some ⟨g11, 0, none⟩))] ⟨rfl, rfl, rfl, trivial⟩ (fun u => ?_)
   refine c_sta ⟨w0, M, (1000, go0, .cells #[.slice A118 x116.fItems.length c119, .slice A7 x5.fConns.length c8, .int .i64 x116.fLast, .int .i64 o0.fOpens] 55 (0, 0)) :: (100060, g11, .cells #[.int .i64 x4.fN, .int .i64 x4.fFrom, .int .i64 x4.fTo] 77 (0, 0)) :: H, (13, ⟨.slice A118 x116.fItems.length c119, 40, 6, x116.fItems.length, x116.fItems.flatMap GItem.enc⟩) :: (1001, ⟨.slice A7 x5.fConns.length c8, 77, 3, x5.fConns.length, x5.fConns.flatMap Gref08_Conn.enc⟩) :: (1000, ⟨.slice Ao0_0 o0.fItems.length co0_0, 40, 6, o0.fItems.length, o0.fItems.flatMap GItem.enc⟩) :: R, φ⟩ (fun _ h => h) <| c_seq <| c_region <| g_v rfl r_move <| g_v rfl (r_field (n := 1) Try.underlying77 rfl Try.sizeOf3 rfl rfl) <| g_v rfl (r_load (tag := 100060) rfl rfl rfl Try.isAgg3) <| g_v rfl (r_field (n := 2) Try.underlying77 rfl Try.sizeOf3 rfl rfl) <| g_v rfl (r_load (tag := 100060) rfl rfl rfl Try.isAgg3) <| g_v rfl r_move <| g_v rfl (r_build _ rfl (bld40_14 _ _ _ _)) ?_
   replace hm := bnd hm
   obtain ⟨x121, hx122, hm⟩ := hm
   refine g_cn ⟨w0, M, (1000, go0, .cells #[.slice A118 x116.fItems.length c119, .slice A7 x5.fConns.length c8, .int .i64 x116.fLast, .int .i64 o0.fOpens] 55 (0, 0)) :: (100060, g11, .cells #[.int .i64 x4.fN, .int .i64 x4.fFrom, .int .i64 x4.fTo] 77 (0, 0)) :: H, (1000, ⟨.slice A118 x116.fItems.length c119, 40, 6, x116.fItems.length, x116.fItems.flatMap GItem.enc⟩) :: (1001, ⟨.slice A7 x5.fConns.length c8, 77, 3, x5.fConns.length, x5.fConns.flatMap Gref08_Conn.enc⟩) :: (1000, ⟨.slice Ao0_0 o0.fItems.length co0_0, 40, 6, o0.fItems.length, o0.fItems.flatMap GItem.enc⟩) :: R, φ⟩ (fun W h => (ok_front (t := 1000) (t' := 1000) (ok_frontR (t := 13) (t' := 1000) (ok_frontR (t := 1001) (t' := 1001) h rfl) rfl) rfl)) Try.call55 rfl rfl (c_ref08_Net_add (⟨0, 4, x4.fFrom, x4.fTo, p1, (⟨#[]⟩ : ByteArray)⟩ : GItem) go0 (⟨x116.fItems, x5.fConns, x116.fLast, o0.fOpens⟩ : Gref08_Net) A118 c119 hc119 A7 c8 hc8 _ hx122) (fun ⟨A123, c124⟩ hc124 => ?_)
   refine g_sta _ (fun W h => (ok_frontR (t := 2000) (t' := 13) (ok_frontR (t := 1001) (t' := 1001) (ok_front (t := 1000) (t' := 1000) h rfl) rfl) rfl)) <| g_nil <| d_then <| c_seq <| c_region <| g_v rfl r_assign <| g_nil <| d_then ?_
   refine c_flat [(4, .bool true)] ⟨rfl, trivial⟩ (fun u => ?_)
   refine c_sta ⟨w0, M, (1000, go0, .cells #[.slice A123 x121.fItems.length c124, .slice A7 x5.fConns.length c8, .int .i64 x121.fLast, .int .i64 o0.fOpens] 55 (0, 0)) :: (100060, g11, .cells #[.int .i64 x4.fN, .int .i64 x4.fFrom, .int .i64 x4.fTo] 77 (0, 0)) :: H, (13, ⟨.slice A123 x121.fItems.length c124, 40, 6, x121.fItems.length, x121.fItems.flatMap GItem.enc⟩) :: (1001, ⟨.slice A7 x5.fConns.length c8, 77, 3, x5.fConns.length, x5.fConns.flatMap Gref08_Conn.enc⟩) :: (1000, ⟨.slice Ao0_0 o0.fItems.length co0_0, 40, 6, o0.fItems.length, o0.fItems.flatMap GItem.enc⟩) :: R, φ⟩ (fun _ h => h) <| c_ret ?_
   replace hm := Option.some.inj hm
   subst hm
   refine d_sta _ (fun W h => ok_frontR (t := 1001) (t' := 2001) h rfl) <| d_sta _ (fun W h => ok_frontR (t := 13) (t' := 2000) h rfl) ?_
   refine d_retC (A123, c124, A7, c8) Try.results45 ?_ ⟨hc124, hc8⟩ (fun W h => ((h.dropR (t := 1000) rfl).dropH (t := 100060) rfl).phi (fun W hφ => hφ)) (.inr rfl)
   refine res_tmp <| res_nil ?_
   exact rfl
noncomputable def m_net_Net_Lose_c1 (p0 : GItem) (o0 : Int) : Option Bool :=
  if p0.fFrom = o0 then
    some true
  else
    some (decide (p0.fTo = o0))
theorem c_net_Net_Lose_c1 {w0 : World} {M : Nat → Prop} {H : List (Nat × Nat × Obj)} {R : List (Nat × Row)} {φ : World → Prop} (p0 : GItem) (go0 : Nat) (o0 : Int) (r : Bool) (hm : m_net_Net_Lose_c1 p0 o0 = some r) :
    Cn Try.prog 38 #[.agg #[.int .i64 p0.fNumber, .int .i64 p0.fKind, .int .i64 p0.fFrom, .int .i64 p0.fTo, .int .i64 p0.fConn, .string p0.fBody], .pointer (some ⟨go0, 0, none⟩)] ⟨w0, M, (1000, go0, .cells #[.int .i64 o0] 3 (0, 0)) :: H, R, φ⟩ (fun x : Unit => .bool r) (fun x => True) (fun x => ⟨w0, M, (1000, go0, .cells #[.int .i64 o0] 3 (0, 0)) :: H, R, φ⟩) := by
 unfold m_net_Net_Lose_c1 at hm
 refine cn_intro (fn := Try.f38) (N := 14) Try.func38 rfl Try.ntmps38 rfl <| c_seq <| c_region ?_
 refine g_e rfl (e_box 100020 rfl) (fun g1 _ => ?_)
 refine g_v rfl r_assign <| g_nil <| d_then <| c_seq <| c_region <| g_v rfl (r_field (n := 2) Try.underlying40 rfl Try.sizeOf3 rfl rfl) <| g_v rfl (r_load (tag := 100020) rfl rfl rfl Try.isAgg3) <| g_v rfl (r_load (tag := 1000) rfl rfl rfl Try.isAgg3) <| g_v rfl (r_eql rfl rfl) <| g_v rfl r_move ?_
 refine g_if rfl rfl rfl rfl rfl (fun h2 => ?_) (fun h2 => ?_)
 ·
  replace hm := ite_f hm (of_decide_eq_false h2)
  refine g_v rfl (r_field (n := 3) Try.underlying40 rfl Try.sizeOf3 rfl rfl) <| g_do rfl rfl rfl rfl rfl h2 <| g_v rfl (r_load (tag := 100020) rfl rfl rfl Try.isAgg3) <| g_do rfl rfl rfl rfl rfl h2 <| g_v rfl (r_load (tag := 1000) rfl rfl rfl Try.isAgg3) <| g_do rfl rfl rfl rfl rfl h2 <| g_v rfl (r_eql rfl rfl) <| g_v rfl (r_pick0 rfl h2) <| g_v rfl r_assign <| g_nil ?_
  refine d_then ?_
  refine c_flat [(3, .bool (decide (p0.fTo = o0)))] ⟨rfl, trivial⟩ (fun u => ?_)
  refine c_sta ⟨w0, M, (100020, g1, .cells #[.int .i64 p0.fNumber, .int .i64 p0.fKind, .int .i64 p0.fFrom, .int .i64 p0.fTo, .int .i64 p0.fConn, .string p0.fBody] 40 (0, 0)) :: (1000, go0, .cells #[.int .i64 o0] 3 (0, 0)) :: H, R, φ⟩ (fun _ h => h) <| c_ret ?_
  replace hm := Option.some.inj hm
  subst hm
  refine d_retC () Try.results38 ?_ trivial (fun W h => (h.dropH (t := 100020) rfl).phi (fun W hφ => hφ)) (.inr rfl)
  refine res_tmp <| res_nil ?_
  exact rfl
 ·
  replace hm := ite_t hm (of_decide_eq_true h2)
  refine g_no rfl rfl rfl rfl rfl h2 <| g_no rfl rfl rfl rfl rfl h2 <| g_no rfl rfl rfl rfl rfl h2 <| g_v rfl (r_pick1 rfl h2) <| g_v rfl r_assign <| g_nil <| d_then ?_
  refine c_flat [(3, .bool true)] ⟨rfl, trivial⟩ (fun u => ?_)
  refine c_sta ⟨w0, M, (100020, g1, .cells #[.int .i64 p0.fNumber, .int .i64 p0.fKind, .int .i64 p0.fFrom, .int .i64 p0.fTo, .int .i64 p0.fConn, .string p0.fBody] 40 (0, 0)) :: (1000, go0, .cells #[.int .i64 o0] 3 (0, 0)) :: H, R, φ⟩ (fun _ h => h) <| c_ret ?_
  replace hm := Option.some.inj hm
  subst hm
  refine d_retC () Try.results38 ?_ trivial (fun W h => (h.dropH (t := 100020) rfl).phi (fun W hφ => hφ)) (.inr rfl)
  refine res_tmp <| res_nil ?_
  exact rfl
noncomputable def m_slices_IndexFunc_54_2_j1  : Option Int :=
  some (-1)
noncomputable def m_slices_IndexFunc_54_2_s2 (p0 : List GItem) (o0 : Int) (i30 : Int) : Option (Int ⊕ (Unit ⊕ Int)) :=
  if i30 < (p0.length : Int) then
    (at_ p0 i30).bind fun x42 =>
    (m_net_Net_Lose_c1 x42 o0).bind fun x46 =>
    if x46 = true then
      some (.inr (.inr i30))
    else
      some (.inl (w64 (i30 + 1)))
  else
    some (.inr (.inl ()))
noncomputable def m_slices_IndexFunc_54_2 (p0 : List GItem) (o0 : Int) : Option Int :=
  (loop (fun s => m_slices_IndexFunc_54_2_s2 p0 o0 s) 0).bind fun e => Sum.elim (fun e => m_slices_IndexFunc_54_2_j1) (fun x => some x) e
theorem c_slices_IndexFunc_54_2 {w0 : World} {M : Nat → Prop} {H : List (Nat × Nat × Obj)} {R : List (Nat × Row)} {φ : World → Prop} (p0 : List GItem) (Ap0_0 : Option Addr) (cp0_0 : Nat) (hcp0_0 : p0.length ≤ cp0_0) (fp0_0 : ∀ W, (Sta.mk w0 M H R φ).ok W → Cl W Ap0_0 (p0.flatMap GItem.enc)) (go0 : Nat) (o0 : Int) (r : Int) (hm : m_slices_IndexFunc_54_2 p0 o0 = some r) :
    Cn Try.prog 54 #[.slice Ap0_0 p0.length cp0_0, .func (.func 38) #[] #[.pointer (some ⟨go0, 0, none⟩)]] ⟨w0, M, (1000, go0, .cells #[.int .i64 o0] 3 (0, 0)) :: H, R, φ⟩ (fun x : Unit => .int .i64 r) (fun x => True) (fun x => ⟨w0, M, (1000, go0, .cells #[.int .i64 o0] 3 (0, 0)) :: H, R, φ⟩) := by
 unfold m_slices_IndexFunc_54_2 at hm
 refine cn_intro (fn := Try.f54) (N := 19) Try.func54 rfl Try.ntmps54 rfl <| c_seq <| c_region <| g_v rfl r_assign <| g_nil <| d_then <| c_seq <| c_seq <| c_region <| g_v rfl r_move ?_
 refine g_v rfl (r_lenL Try.underlying52 rfl) <| g_v rfl r_move <| g_nil <| d_then ?_
 refine c_cut (ι := Unit) [] (fun _ => []) (fun _ => ⟨w0, M, (1000, go0, .cells #[.int .i64 o0] 3 (0, 0)) :: H, R, φ⟩) (fun _ => m_slices_IndexFunc_54_2_j1 = some r) ?_ (fun _ u hm => ?_)
 ·
  refine c_block ?_
  replace hm := bnd hm
  obtain ⟨out2, hl2, hr2⟩ := hm
  obtain ⟨n40', hl2⟩ := loop_lp hl2
  refine c_loopU (ι := Nat × Int) [0, 1, 7, 8] (fun ⟨n40, i30⟩ => [(8, .int .i64 i30)]) (fun ⟨n40, i30⟩ => ⟨w0, M, (1000, go0, .cells #[.int .i64 o0] 3 (0, 0)) :: H, R, φ⟩) (fun ⟨n40, i30⟩ => Lp (fun s => m_slices_IndexFunc_54_2_s2 p0 o0 s) n40 i30 out2) (fun ⟨n40, i30⟩ => n40) (n40', 0) hl2 ⟨rfl, rfl, rfl, rfl, trivial⟩ (fun W h => h.phi (fun W hφ => hφ)) (fun ⟨n40, i30⟩ u hlp => ?_)
  obtain ⟨o2, hm, hnx2⟩ := lp_step hlp
  clear hlp
  replace hm : m_slices_IndexFunc_54_2_s2 p0 o0 i30 = some o2 := hm
  unfold m_slices_IndexFunc_54_2_s2 at hm
  refine c_flat [(0, .slice Ap0_0 p0.length cp0_0), (1, .func (.func 38) #[] #[.pointer (some ⟨go0, 0, none⟩)]), (7, .int .i64 (p0.length : Int)), (8, .int .i64 i30)] ⟨rfl, rfl, rfl, rfl, trivial⟩ (fun u => ?_)
  refine c_sta ⟨w0, M, (1000, go0, .cells #[.int .i64 o0] 3 (0, 0)) :: H, R, φ⟩ (fun _ h => h) <| c_seq <| c_region <| g_v rfl (r_lss rfl rfl) <| g_nil <| d_then <| c_seq ?_
  refine c_cond rfl (fun h41 => ?_) (fun h41 => ?_)
  ·
   replace hm := ite_t hm (of_decide_eq_true h41)
   refine c_skip <| d_then <| c_seq <| c_block <| c_seq <| c_region <| g_v rfl r_move <| g_v rfl r_assign <| g_nil <| d_then ?_
   refine c_seq <| c_region <| g_v rfl r_move <| g_v rfl r_move <| g_v rfl r_move ?_
   replace hm := bnd hm
   obtain ⟨x42, hx42, hm⟩ := hm
   refine g_know _ (fun W hS => cl_at (p := (Sta.mk w0 M H R φ).ok) (sz := 6) (fun _ => rfl) (by decide) (ok_pre (H1 := [_]) (R1 := []) hS (fun W h => h)) fp0_0 hx42) ?_
   rintro ⟨ad43, hA45, f44⟩
   refine g_v rfl (r_ix Try.underlying52 Try.sizeOf40 rfl hA45 rfl hx42) <| g_v rfl (r_ldA rfl Try.isAgg40 Try.sizeOf40 (fun W hS => (f44 W (ok_pre (H1 := [_]) (R1 := []) hS (fun W h => h))).take 6) rfl) ?_
   replace hm := bnd hm
   obtain ⟨x46, hx47, hm⟩ := hm
   refine g_cnv ⟨w0, M, (1000, go0, .cells #[.int .i64 o0] 3 (0, 0)) :: H, R, φ⟩ (fun W h => (ok_front (t := 1000) (t' := 1000) h rfl)) Try.call38 rfl rfl rfl (c_net_Net_Lose_c1 x42 go0 o0 _ hx47) (fun _ _ => ?_)
   refine g_sta _ (fun W h => (ok_front (t := 1000) (t' := 1000) h rfl)) <| g_nil <| d_then ?_
   refine c_flat [(0, .slice Ap0_0 p0.length cp0_0), (1, .func (.func 38) #[] #[.pointer (some ⟨go0, 0, none⟩)]), (5, .int .i64 i30), (7, .int .i64 (p0.length : Int)), (8, .int .i64 i30), (16, .bool x46)] ⟨rfl, rfl, rfl, rfl, rfl, rfl, trivial⟩ (fun u => ?_)
   refine c_cond rfl (fun h48 => ?_) (fun h48 => ?_)
   ·
    replace hm := ite_t hm h48
    refine c_seq <| c_region <| g_v rfl r_move <| g_v rfl r_assign <| g_nil <| d_then <| c_ret <| d_ret_block <| d_ret_then <| d_ret_then ?_
    refine d_ret_block <| d_ret_then <| d_ret_then ?_
    replace hm := nx_out (C := (fun e => Sum.elim (fun e => m_slices_IndexFunc_54_2_j1) (fun x => some x) e = some r)) hm hnx2 hr2
    replace hm : some i30 = some r := hm
    replace hm := Option.some.inj hm
    subst hm
    refine d_retC () Try.results54 ?_ trivial (fun W h => h.phi (fun W hφ => hφ)) (.inr rfl)
    refine res_tmp <| res_nil ?_
    exact rfl
   ·
    replace hm := ite_f hm (bool_nt h48)
    refine c_skip <| d_normal_block <| d_then <| c_region <| g_v rfl (r_add rfl rfl rfl) <| g_v rfl r_move <| g_nil ?_
    obtain ⟨n49, hn49, hlp⟩ := nx_inl hm hnx2
    exact d_round (n49, w64 (i30 + 1)) hlp hn49 ⟨rfl, rfl, rfl, rfl, trivial⟩ (fun W h => h.phi (fun W hφ => hφ))
  ·
   replace hm := ite_f hm (of_decide_eq_false h41)
   refine c_exit <| d_exit_then <| d_exit_then <| d_exit_block ?_
   replace hm := nx_out (C := (fun e => Sum.elim (fun e => m_slices_IndexFunc_54_2_j1) (fun x => some x) e = some r)) hm hnx2 hr2
   exact d_round () hm Nat.zero_lt_one trivial (fun W h => h.phi (fun W hφ => hφ))
 ·
  unfold m_slices_IndexFunc_54_2_j1 at hm
  refine d_flat [] trivial (fun u => ?_)
  refine d_sta ⟨w0, M, (1000, go0, .cells #[.int .i64 o0] 3 (0, 0)) :: H, R, φ⟩ (fun _ h => h) <| d_then <| c_seq <| c_region <| g_v rfl r_assign <| g_nil <| d_then <| c_ret ?_
  replace hm := Option.some.inj hm
  subst hm
  refine d_retC () Try.results54 ?_ trivial (fun W h => h.phi (fun W hφ => hφ)) (.inr rfl)
  refine res_tmp <| res_nil ?_
  exact rfl
noncomputable def m_slices_DeleteFunc_31_2_j1  (l49 : List GItem) (i52 : Int) : Option (List GItem) :=
  (cutLo l49 i52).bind fun l53 =>
  (cutHi l49 i52).bind fun l54 =>
  some l54
noncomputable def m_slices_DeleteFunc_31_2_s2 (o0 : Int) (l75 : List GItem) (i78 : Int) (i79 : Int) : Option (((List GItem) × Int × Int) ⊕ ((List GItem) × Int)) :=
  if i79 < (l75.length : Int) then
    (at_ l75 i79).bind fun x101 =>
    (m_net_Net_Lose_c1 x101 o0).bind fun x106 =>
    if x106 = true then
      some (.inl (l75, i78, w64 (i79 + 1)))
    else
      (at_ l75 i78).bind fun x109 =>
      (setAt l75 i78 x101).bind fun l113 =>
      some (.inl (l113, w64 (i78 + 1), w64 (i79 + 1)))
  else
    some (.inr (l75, i78))
noncomputable def m_slices_DeleteFunc_31_2 (p0 : List GItem) (o0 : Int) : Option (List GItem) :=
  (m_slices_IndexFunc_54_2 p0 o0).bind fun x1 =>
  if x1 = (-1) then
    some p0
  else
    (loop (fun s => m_slices_DeleteFunc_31_2_s2 o0 s.1 s.2.1 s.2.2) (p0, x1, w64 (x1 + 1))).bind fun e => m_slices_DeleteFunc_31_2_j1 e.1 e.2
theorem c_slices_DeleteFunc_31_2 {w0 : World} {M : Nat → Prop} {H : List (Nat × Nat × Obj)} {R : List (Nat × Row)} {φ : World → Prop} (p0 : List GItem) (Ap0_0 : Option Addr) (cp0_0 : Nat) (hcp0_0 : p0.length ≤ cp0_0) (go0 : Nat) (o0 : Int) (r : (List GItem)) (hm : m_slices_DeleteFunc_31_2 p0 o0 = some r) :
    Cn Try.prog 31 #[.slice Ap0_0 p0.length cp0_0, .func (.func 38) #[] #[.pointer (some ⟨go0, 0, none⟩)]] ⟨w0, M, (1000, go0, .cells #[.int .i64 o0] 3 (0, 0)) :: H, (1000, ⟨.slice Ap0_0 p0.length cp0_0, 40, 6, p0.length, p0.flatMap GItem.enc⟩) :: R, φ⟩ (fun x : Option Addr × Nat => .slice x.1 r.length x.2) (fun x => r.length ≤ x.2) (fun x => ⟨w0, M, (1000, go0, .cells #[.int .i64 o0] 3 (0, 0)) :: H, (2000, ⟨.slice x.1 r.length x.2, 40, 6, r.length, r.flatMap GItem.enc⟩) :: R, φ⟩) := by
 unfold m_slices_DeleteFunc_31_2 at hm
 refine cn_intro (fn := Try.f31) (N := 42) Try.func31 rfl Try.ntmps31 rfl <| c_seq <| c_region <| g_v rfl r_assign <| g_nil <| d_then <| c_seq <| c_region <| g_v rfl r_move <| g_v rfl r_move ?_
 replace hm := bnd hm
 obtain ⟨x1, hx2, hm⟩ := hm
 refine g_cn ⟨w0, M, (1000, go0, .cells #[.int .i64 o0] 3 (0, 0)) :: H, (1000, ⟨.slice Ap0_0 p0.length cp0_0, 40, 6, p0.length, p0.flatMap GItem.enc⟩) :: R, φ⟩ (fun W h => (ok_front (t := 1000) (t' := 1000) h rfl)) Try.call54 rfl rfl (c_slices_IndexFunc_54_2 p0 Ap0_0 cp0_0 hcp0_0 (fun W hS => rowCl (tag := 1000) rfl W hS) go0 o0 _ hx2) (fun _ _ => ?_)
 refine g_sta _ (fun W h => (ok_front (t := 1000) (t' := 1000) h rfl)) <| g_v rfl r_assign <| g_nil <| d_then <| c_seq <| c_seq <| c_region <| g_v rfl r_move <| g_v rfl (r_eql rfl rfl) <| g_nil ?_
 refine d_then ?_
 refine c_cond rfl (fun h3 => ?_) (fun h3 => ?_)
 ·
  replace hm := ite_t hm (of_decide_eq_true h3)
  refine c_seq <| c_region <| g_v rfl r_move <| g_v rfl r_assign <| g_nil <| d_then ?_
  refine c_flat [(4, .slice Ap0_0 p0.length cp0_0)] ⟨rfl, trivial⟩ (fun u => ?_)
  refine c_sta ⟨w0, M, (1000, go0, .cells #[.int .i64 o0] 3 (0, 0)) :: H, (1000, ⟨.slice Ap0_0 p0.length cp0_0, 40, 6, p0.length, p0.flatMap GItem.enc⟩) :: R, φ⟩ (fun _ h => h) <| c_ret <| d_ret_then ?_
  replace hm := Option.some.inj hm
  subst hm
  refine d_sta _ (fun W h => ok_frontR (t := 1000) (t' := 2000) h rfl) ?_
  refine d_retC (Ap0_0, cp0_0) Try.results31 ?_ hcp0_0 (fun W h => h.phi (fun W hφ => hφ)) (.inr rfl)
  refine res_tmp <| res_nil ?_
  exact rfl
 ·
  replace hm := ite_f hm (of_decide_eq_false h3)
  refine c_skip <| d_then <| c_seq <| c_seq <| c_region <| g_v rfl r_move <| g_v rfl (r_add rfl rfl rfl) <| g_v rfl r_assign <| g_nil <| d_then ?_
  refine c_flat [(0, .slice Ap0_0 p0.length cp0_0), (1, .func (.func 38) #[] #[.pointer (some ⟨go0, 0, none⟩)]), (5, .int .i64 x1), (6, .int .i64 (w64 (x1 + 1)))] ⟨rfl, rfl, rfl, rfl, trivial⟩ (fun u => ?_)
  refine c_sta ⟨w0, M, (1000, go0, .cells #[.int .i64 o0] 3 (0, 0)) :: H, (1000, ⟨.slice Ap0_0 p0.length cp0_0, 40, 6, p0.length, p0.flatMap GItem.enc⟩) :: R, φ⟩ (fun _ h => h) ?_
  refine c_cut (ι := (List GItem) × Int) [0, 5] (fun ⟨l49, i52⟩ => [(0, .slice Ap0_0 l49.length cp0_0), (5, .int .i64 i52)]) (fun ⟨l49, i52⟩ => ⟨w0, M, (1000, go0, .cells #[.int .i64 o0] 3 (0, 0)) :: H, (1000, ⟨.slice Ap0_0 l49.length cp0_0, 40, 6, l49.length, l49.flatMap GItem.enc⟩) :: R, φ⟩) (fun ⟨l49, i52⟩ => m_slices_DeleteFunc_31_2_j1 l49 i52 = some r ∧ (l49.length ≤ cp0_0 ∧ l49.length = p0.length)) ?_ (fun ⟨l49, i52⟩ u ⟨hm, hl49⟩ => ?_)
  ·
   refine c_block ?_
   replace hm := bnd hm
   obtain ⟨out2, hl2, hr2⟩ := hm
   obtain ⟨n99', hl2⟩ := loop_lp hl2
   refine c_loopU (ι := Nat × (List GItem) × Int × Int) [0, 1, 5, 6] (fun ⟨n99, l75, i78, i79⟩ => [(0, .slice Ap0_0 l75.length cp0_0), (5, .int .i64 i78), (6, .int .i64 i79)]) (fun ⟨n99, l75, i78, i79⟩ => ⟨w0, M, (1000, go0, .cells #[.int .i64 o0] 3 (0, 0)) :: H, (1000, ⟨.slice Ap0_0 l75.length cp0_0, 40, 6, l75.length, l75.flatMap GItem.enc⟩) :: R, φ⟩) (fun ⟨n99, l75, i78, i79⟩ => Lp (fun s => m_slices_DeleteFunc_31_2_s2 o0 s.1 s.2.1 s.2.2) n99 (l75, i78, i79) out2 ∧ (l75.length ≤ cp0_0 ∧ l75.length = p0.length)) (fun ⟨n99, l75, i78, i79⟩ => n99) (n99', p0, x1, w64 (x1 + 1)) ⟨hl2, ⟨hcp0_0, rfl⟩⟩ ⟨rfl, rfl, rfl, rfl, trivial⟩ (fun W h => h.phi (fun W hφ => hφ)) (fun ⟨n99, l75, i78, i79⟩ u ⟨hlp, hl75⟩ => ?_)
   obtain ⟨o2, hm, hnx2⟩ := lp_step hlp
   clear hlp
   replace hm : m_slices_DeleteFunc_31_2_s2 o0 l75 i78 i79 = some o2 := hm
   unfold m_slices_DeleteFunc_31_2_s2 at hm
   refine c_flat [(0, .slice Ap0_0 l75.length cp0_0), (1, .func (.func 38) #[] #[.pointer (some ⟨go0, 0, none⟩)]), (5, .int .i64 i78), (6, .int .i64 i79)] ⟨rfl, rfl, rfl, rfl, trivial⟩ (fun u => ?_)
   refine c_sta ⟨w0, M, (1000, go0, .cells #[.int .i64 o0] 3 (0, 0)) :: H, (1000, ⟨.slice Ap0_0 l75.length cp0_0, 40, 6, l75.length, l75.flatMap GItem.enc⟩) :: R, φ⟩ (fun _ h => h) <| c_seq <| c_seq <| c_region <| g_v rfl r_move <| g_v rfl r_move <| g_v rfl (r_lenL Try.underlying52 rfl) <| g_v rfl (r_lss rfl rfl) <| g_nil <| d_then ?_
   refine c_cond rfl (fun h100 => ?_) (fun h100 => ?_)
   ·
    replace hm := ite_t hm (of_decide_eq_true h100)
    refine c_skip <| d_then <| c_seq <| c_block <| c_seq <| c_region <| g_v rfl r_move <| g_v rfl r_move ?_
    replace hm := bnd hm
    obtain ⟨x101, hx101, hm⟩ := hm
    refine g_know _ (fun W hS => cl_at (p := (Sta.ok ⟨w0, M, (1000, go0, .cells #[.int .i64 o0] 3 (0, 0)) :: H, (1000, ⟨.slice Ap0_0 l75.length cp0_0, 40, 6, l75.length, l75.flatMap GItem.enc⟩) :: R, φ⟩)) (sz := 6) (fun _ => rfl) (by decide) hS (fun W hS => rowCl (S := ⟨w0, M, (1000, go0, .cells #[.int .i64 o0] 3 (0, 0)) :: H, (1000, ⟨.slice Ap0_0 l75.length cp0_0, 40, 6, l75.length, l75.flatMap GItem.enc⟩) :: R, φ⟩) (tag := 1000) rfl W hS) hx101) ?_
    rintro ⟨ad102, hA104, f103⟩
    refine g_v rfl (r_ix Try.underlying52 Try.sizeOf40 rfl hA104 rfl hx101) <| g_v rfl (r_ldA rfl Try.isAgg40 Try.sizeOf40 (fun W hS => (f103 W hS).take 6) rfl) ?_
    refine g_e rfl (e_alloc 100070 Try.zeroValue40) (fun g105 _ => ?_)
    refine g_storeL (tag := 100070) rfl rfl rfl rfl Try.sizeOf40 rfl rfl <| g_nil <| d_then ?_
    refine c_flat [(0, .slice Ap0_0 l75.length cp0_0), (1, .func (.func 38) #[] #[.pointer (some ⟨go0, 0, none⟩)]), (5, .int .i64 i78), (6, .int .i64 i79), (7, .pointer (some ⟨g105, 0, none⟩))] ⟨rfl, rfl, rfl, rfl, rfl, trivial⟩ (fun u => ?_)
    refine c_sta ⟨w0, M, (100070, g105, .cells #[.int .i64 x101.fNumber, .int .i64 x101.fKind, .int .i64 x101.fFrom, .int .i64 x101.fTo, .int .i64 x101.fConn, .string x101.fBody] 40 (0, 0)) :: (1000, go0, .cells #[.int .i64 o0] 3 (0, 0)) :: H, (1000, ⟨.slice Ap0_0 l75.length cp0_0, 40, 6, l75.length, l75.flatMap GItem.enc⟩) :: R, φ⟩ (fun _ h => h) <| c_seq <| c_region <| g_v rfl r_move <| g_v rfl (r_loadA (tag := 100070) rfl rfl Try.isAgg40 Try.sizeOf40 rfl rfl) ?_
    replace hm := bnd hm
    obtain ⟨x106, hx107, hm⟩ := hm
    refine g_cnv ⟨w0, M, (1000, go0, .cells #[.int .i64 o0] 3 (0, 0)) :: (100070, g105, .cells #[.int .i64 x101.fNumber, .int .i64 x101.fKind, .int .i64 x101.fFrom, .int .i64 x101.fTo, .int .i64 x101.fConn, .string x101.fBody] 40 (0, 0)) :: H, (1000, ⟨.slice Ap0_0 l75.length cp0_0, 40, 6, l75.length, l75.flatMap GItem.enc⟩) :: R, φ⟩ (fun W h => (ok_front (t := 1000) (t' := 1000) h rfl)) Try.call38 rfl rfl rfl (c_net_Net_Lose_c1 x101 go0 o0 _ hx107) (fun _ _ => ?_)
    refine g_sta _ (fun W h => (ok_front (t := 1000) (t' := 1000) h rfl)) <| g_v rfl (r_not rfl) <| g_nil <| d_then ?_
    refine c_cond rfl (fun h108 => ?_) (fun h108 => ?_)
    ·
     have h108' : x106 = false := by revert h108; cases x106 <;> simp
     replace hm := ite_f hm (bool_nt h108')
     refine c_seq <| c_region <| g_v rfl r_move <| g_v rfl r_move <| g_v rfl (r_loadA (tag := 100070) rfl rfl Try.isAgg40 Try.sizeOf40 rfl rfl) ?_
     replace hm := bnd hm
     obtain ⟨x109, hx109, hm⟩ := hm
     refine g_know _ (fun W hS => cl_at (p := (Sta.ok ⟨w0, M, (1000, go0, .cells #[.int .i64 o0] 3 (0, 0)) :: (100070, g105, .cells #[.int .i64 x101.fNumber, .int .i64 x101.fKind, .int .i64 x101.fFrom, .int .i64 x101.fTo, .int .i64 x101.fConn, .string x101.fBody] 40 (0, 0)) :: H, (1000, ⟨.slice Ap0_0 l75.length cp0_0, 40, 6, l75.length, l75.flatMap GItem.enc⟩) :: R, φ⟩)) (sz := 6) (fun _ => rfl) (by decide) hS (fun W hS => rowCl (S := ⟨w0, M, (1000, go0, .cells #[.int .i64 o0] 3 (0, 0)) :: (100070, g105, .cells #[.int .i64 x101.fNumber, .int .i64 x101.fKind, .int .i64 x101.fFrom, .int .i64 x101.fTo, .int .i64 x101.fConn, .string x101.fBody] 40 (0, 0)) :: H, (1000, ⟨.slice Ap0_0 l75.length cp0_0, 40, 6, l75.length, l75.flatMap GItem.enc⟩) :: R, φ⟩) (tag := 1000) rfl W hS) hx109) ?_
     rintro ⟨ad110, hA112, f111⟩
     refine g_v rfl (r_ix Try.underlying52 Try.sizeOf40 rfl hA112 rfl hx109) ?_
     replace hm := bnd hm
     obtain ⟨l113, hl113, hm⟩ := hm
     refine g_stR (tag := 1000) (enc := GItem.enc) (l := l75) (off := 0) (vs := [.int .i64 x101.fNumber, .int .i64 x101.fKind, .int .i64 x101.fFrom, .int .i64 x101.fTo, .int .i64 x101.fConn, .string x101.fBody]) (add0 rfl) hA112 rfl rfl hx109 hl113 rfl (Nat.le_of_ble_eq_true rfl) (fun _ => rfl) rfl rfl Try.sizeOf40 ?_
     rw [show l75.length = l113.length from (setAt_lenE hl113).symm]
     refine g_nil <| d_then ?_
     refine c_flat [(0, .slice Ap0_0 l113.length cp0_0), (1, .func (.func 38) #[] #[.pointer (some ⟨go0, 0, none⟩)]), (5, .int .i64 i78), (6, .int .i64 i79)] ⟨rfl, rfl, rfl, rfl, trivial⟩ (fun u => ?_)
     refine c_sta ⟨w0, M, (1000, go0, .cells #[.int .i64 o0] 3 (0, 0)) :: (100070, g105, .cells #[.int .i64 x101.fNumber, .int .i64 x101.fKind, .int .i64 x101.fFrom, .int .i64 x101.fTo, .int .i64 x101.fConn, .string x101.fBody] 40 (0, 0)) :: H, (1000, ⟨.slice Ap0_0 l113.length cp0_0, 40, 6, l113.length, l113.flatMap GItem.enc⟩) :: R, φ⟩ (fun _ h => h) <| c_region <| g_v rfl r_move <| g_v rfl (r_add rfl rfl rfl) <| g_v rfl r_assign <| g_nil <| d_normal_block <| d_then <| c_region <| g_v rfl r_move ?_
     refine g_v rfl (r_add rfl rfl rfl) <| g_v rfl r_assign <| g_nil ?_
     obtain ⟨n114, hn114, hlp⟩ := nx_inl hm hnx2
     exact d_round (n114, l113, w64 (i78 + 1), w64 (i79 + 1)) ⟨hlp, ⟨(setAt_len hl75.1 hl113), ((setAt_lenE hl113).trans hl75.2)⟩⟩ hn114 ⟨rfl, rfl, rfl, rfl, trivial⟩ (fun W h => (h.dropH (t := 100070) rfl).phi (fun W hφ => hφ))
    ·
     have h108' : x106 = true := by revert h108; cases x106 <;> simp
     replace hm := ite_t hm h108'
     refine c_skip <| d_normal_block <| d_then <| c_region <| g_v rfl r_move <| g_v rfl (r_add rfl rfl rfl) <| g_v rfl r_assign <| g_nil ?_
     obtain ⟨n115, hn115, hlp⟩ := nx_inl hm hnx2
     exact d_round (n115, l75, i78, w64 (i79 + 1)) ⟨hlp, ⟨hl75.1, hl75.2⟩⟩ hn115 ⟨rfl, rfl, rfl, rfl, trivial⟩ (fun W h => (h.dropH (t := 100070) rfl).phi (fun W hφ => hφ))
   ·
    replace hm := ite_f hm (of_decide_eq_false h100)
    refine c_exit <| d_exit_then <| d_exit_then <| d_exit_block ?_
    replace hm := nx_out (C := (fun e => m_slices_DeleteFunc_31_2_j1 e.1 e.2 = some r)) hm hnx2 hr2
    exact d_round (l75, i78) ⟨hm, ⟨hl75.1, hl75.2⟩⟩ Nat.zero_lt_one ⟨rfl, rfl, trivial⟩ (fun W h => h.phi (fun W hφ => hφ))
  ·
   unfold m_slices_DeleteFunc_31_2_j1 at hm
   refine d_flat [(0, .slice Ap0_0 l49.length cp0_0), (5, .int .i64 i52)] ⟨rfl, rfl, trivial⟩ (fun u => ?_)
   refine d_sta ⟨w0, M, (1000, go0, .cells #[.int .i64 o0] 3 (0, 0)) :: H, (1000, ⟨.slice Ap0_0 l49.length cp0_0, 40, 6, l49.length, l49.flatMap GItem.enc⟩) :: R, φ⟩ (fun _ h => h) <| d_then <| c_seq <| c_region <| g_v rfl r_move <| g_v rfl r_move ?_
   replace hm := bnd hm
   obtain ⟨l53, hl53, hm⟩ := hm
   refine g_v rfl (r_lcutLo Try.underlying52 Try.sizeOf40 rfl hl49.1 rfl hl53) ?_
   replace hm := bnd hm
   obtain ⟨l54, hl54, hm⟩ := hm
   refine g_sta _ (fun W h => row_cut (tag := 1000) (enc := GItem.enc) (fun _ => rfl) rfl hl54 h) <| g_e0 (e_clearLo (tag := 1000) (enc := GItem.enc) Try.underlying52 Try.zeroValue40 rfl rfl hl54 hl53 rfl hl49.1 rfl) <| g_nil <| d_then <| c_seq <| c_region <| g_v rfl r_move <| g_v rfl r_move <| g_v rfl (r_lcutHi Try.underlying52 Try.sizeOf40 rfl hl49.1 rfl hl54) <| g_v rfl r_assign ?_
   refine g_nil <| d_then <| c_ret ?_
   replace hm := Option.some.inj hm
   subst hm
   refine d_sta _ (fun W h => ok_frontR (t := 1000) (t' := 2000) h rfl) ?_
   refine d_retC (Ap0_0, cp0_0) Try.results31 ?_ (cutHi_len hl49.1 hl54) (fun W h => h.phi (fun W hφ => hφ)) (.inr rfl)
   refine res_tmp <| res_nil ?_
   exact rfl
noncomputable def m_net_Net_Lose_c2 (p0 : Gnet_conn) (o0 : Int) : Option Bool :=
  (m_net_conn_has p0 o0).bind fun x2 =>
  some x2
theorem c_net_Net_Lose_c2 {w0 : World} {M : Nat → Prop} {H : List (Nat × Nat × Obj)} {R : List (Nat × Row)} {φ : World → Prop} (p0 : Gnet_conn) (go0 : Nat) (o0 : Int) (r : Bool) (hm : m_net_Net_Lose_c2 p0 o0 = some r) :
    Cn Try.prog 42 #[.agg #[.int .i64 p0.fnumber, .int .i64 p0.fends.a0, .int .i64 p0.fends.a1], .pointer (some ⟨go0, 0, none⟩)] ⟨w0, M, (1000, go0, .cells #[.int .i64 o0] 3 (0, 0)) :: H, R, φ⟩ (fun x : Unit => .bool r) (fun x => True) (fun x => ⟨w0, M, (1000, go0, .cells #[.int .i64 o0] 3 (0, 0)) :: H, R, φ⟩) := by
 unfold m_net_Net_Lose_c2 at hm
 refine cn_intro (fn := Try.f42) (N := 7) Try.func42 rfl Try.ntmps42 rfl <| c_seq <| c_region ?_
 refine g_e rfl (e_box 100020 rfl) (fun g1 _ => ?_)
 refine g_v rfl r_assign <| g_nil <| d_then <| c_seq <| c_region <| g_v rfl (r_loadA (tag := 100020) rfl rfl Try.isAgg63 Try.sizeOf63 rfl rfl) <| g_v rfl (r_load (tag := 1000) rfl rfl rfl Try.isAgg3) ?_
 replace hm := bnd hm
 obtain ⟨x2, hx3, hm⟩ := hm
 refine g_cn ⟨w0, M, _, _, φ⟩ (fun _ h => h) Try.call39 rfl rfl (c_net_conn_has p0 o0 _ hx3) (fun _ _ => ?_)
 refine g_v rfl r_assign <| g_nil <| d_then <| c_ret ?_
 replace hm := Option.some.inj hm
 subst hm
 refine d_retC () Try.results42 ?_ trivial (fun W h => (h.dropH (t := 100020) rfl).phi (fun W hφ => hφ)) (.inr rfl)
 refine res_tmp <| res_nil ?_
 exact rfl
noncomputable def m_slices_IndexFunc_52_2_j1  : Option Int :=
  some (-1)
noncomputable def m_slices_IndexFunc_52_2_s2 (p0 : List Gnet_conn) (o0 : Int) (i30 : Int) : Option (Int ⊕ (Unit ⊕ Int)) :=
  if i30 < (p0.length : Int) then
    (at_ p0 i30).bind fun x42 =>
    (m_net_Net_Lose_c2 x42 o0).bind fun x46 =>
    if x46 = true then
      some (.inr (.inr i30))
    else
      some (.inl (w64 (i30 + 1)))
  else
    some (.inr (.inl ()))
noncomputable def m_slices_IndexFunc_52_2 (p0 : List Gnet_conn) (o0 : Int) : Option Int :=
  (loop (fun s => m_slices_IndexFunc_52_2_s2 p0 o0 s) 0).bind fun e => Sum.elim (fun e => m_slices_IndexFunc_52_2_j1) (fun x => some x) e
theorem c_slices_IndexFunc_52_2 {w0 : World} {M : Nat → Prop} {H : List (Nat × Nat × Obj)} {R : List (Nat × Row)} {φ : World → Prop} (p0 : List Gnet_conn) (Ap0_0 : Option Addr) (cp0_0 : Nat) (hcp0_0 : p0.length ≤ cp0_0) (fp0_0 : ∀ W, (Sta.mk w0 M H R φ).ok W → Cl W Ap0_0 (p0.flatMap Gnet_conn.enc)) (go0 : Nat) (o0 : Int) (r : Int) (hm : m_slices_IndexFunc_52_2 p0 o0 = some r) :
    Cn Try.prog 52 #[.slice Ap0_0 p0.length cp0_0, .func (.func 42) #[] #[.pointer (some ⟨go0, 0, none⟩)]] ⟨w0, M, (1000, go0, .cells #[.int .i64 o0] 3 (0, 0)) :: H, R, φ⟩ (fun x : Unit => .int .i64 r) (fun x => True) (fun x => ⟨w0, M, (1000, go0, .cells #[.int .i64 o0] 3 (0, 0)) :: H, R, φ⟩) := by
 unfold m_slices_IndexFunc_52_2 at hm
 refine cn_intro (fn := Try.f52) (N := 19) Try.func52 rfl Try.ntmps52 rfl <| c_seq <| c_region <| g_v rfl r_assign <| g_nil <| d_then <| c_seq <| c_seq <| c_region <| g_v rfl r_move ?_
 refine g_v rfl (r_lenL Try.underlying59 rfl) <| g_v rfl r_move <| g_nil <| d_then ?_
 refine c_cut (ι := Unit) [] (fun _ => []) (fun _ => ⟨w0, M, (1000, go0, .cells #[.int .i64 o0] 3 (0, 0)) :: H, R, φ⟩) (fun _ => m_slices_IndexFunc_52_2_j1 = some r) ?_ (fun _ u hm => ?_)
 ·
  refine c_block ?_
  replace hm := bnd hm
  obtain ⟨out2, hl2, hr2⟩ := hm
  obtain ⟨n40', hl2⟩ := loop_lp hl2
  refine c_loopU (ι := Nat × Int) [0, 1, 7, 8] (fun ⟨n40, i30⟩ => [(8, .int .i64 i30)]) (fun ⟨n40, i30⟩ => ⟨w0, M, (1000, go0, .cells #[.int .i64 o0] 3 (0, 0)) :: H, R, φ⟩) (fun ⟨n40, i30⟩ => Lp (fun s => m_slices_IndexFunc_52_2_s2 p0 o0 s) n40 i30 out2) (fun ⟨n40, i30⟩ => n40) (n40', 0) hl2 ⟨rfl, rfl, rfl, rfl, trivial⟩ (fun W h => h.phi (fun W hφ => hφ)) (fun ⟨n40, i30⟩ u hlp => ?_)
  obtain ⟨o2, hm, hnx2⟩ := lp_step hlp
  clear hlp
  replace hm : m_slices_IndexFunc_52_2_s2 p0 o0 i30 = some o2 := hm
  unfold m_slices_IndexFunc_52_2_s2 at hm
  refine c_flat [(0, .slice Ap0_0 p0.length cp0_0), (1, .func (.func 42) #[] #[.pointer (some ⟨go0, 0, none⟩)]), (7, .int .i64 (p0.length : Int)), (8, .int .i64 i30)] ⟨rfl, rfl, rfl, rfl, trivial⟩ (fun u => ?_)
  refine c_sta ⟨w0, M, (1000, go0, .cells #[.int .i64 o0] 3 (0, 0)) :: H, R, φ⟩ (fun _ h => h) <| c_seq <| c_region <| g_v rfl (r_lss rfl rfl) <| g_nil <| d_then <| c_seq ?_
  refine c_cond rfl (fun h41 => ?_) (fun h41 => ?_)
  ·
   replace hm := ite_t hm (of_decide_eq_true h41)
   refine c_skip <| d_then <| c_seq <| c_block <| c_seq <| c_region <| g_v rfl r_move <| g_v rfl r_assign <| g_nil <| d_then ?_
   refine c_seq <| c_region <| g_v rfl r_move <| g_v rfl r_move <| g_v rfl r_move ?_
   replace hm := bnd hm
   obtain ⟨x42, hx42, hm⟩ := hm
   refine g_know _ (fun W hS => cl_at (p := (Sta.mk w0 M H R φ).ok) (sz := 3) (fun _ => rfl) (by decide) (ok_pre (H1 := [_]) (R1 := []) hS (fun W h => h)) fp0_0 hx42) ?_
   rintro ⟨ad43, hA45, f44⟩
   refine g_v rfl (r_ix Try.underlying59 Try.sizeOf63 rfl hA45 rfl hx42) <| g_v rfl (r_ldA rfl Try.isAgg63 Try.sizeOf63 (fun W hS => (f44 W (ok_pre (H1 := [_]) (R1 := []) hS (fun W h => h))).take 3) rfl) ?_
   replace hm := bnd hm
   obtain ⟨x46, hx47, hm⟩ := hm
   refine g_cnv ⟨w0, M, (1000, go0, .cells #[.int .i64 o0] 3 (0, 0)) :: H, R, φ⟩ (fun W h => (ok_front (t := 1000) (t' := 1000) h rfl)) Try.call42 rfl rfl rfl (c_net_Net_Lose_c2 x42 go0 o0 _ hx47) (fun _ _ => ?_)
   refine g_sta _ (fun W h => (ok_front (t := 1000) (t' := 1000) h rfl)) <| g_nil <| d_then ?_
   refine c_flat [(0, .slice Ap0_0 p0.length cp0_0), (1, .func (.func 42) #[] #[.pointer (some ⟨go0, 0, none⟩)]), (5, .int .i64 i30), (7, .int .i64 (p0.length : Int)), (8, .int .i64 i30), (16, .bool x46)] ⟨rfl, rfl, rfl, rfl, rfl, rfl, trivial⟩ (fun u => ?_)
   refine c_cond rfl (fun h48 => ?_) (fun h48 => ?_)
   ·
    replace hm := ite_t hm h48
    refine c_seq <| c_region <| g_v rfl r_move <| g_v rfl r_assign <| g_nil <| d_then <| c_ret <| d_ret_block <| d_ret_then <| d_ret_then ?_
    refine d_ret_block <| d_ret_then <| d_ret_then ?_
    replace hm := nx_out (C := (fun e => Sum.elim (fun e => m_slices_IndexFunc_52_2_j1) (fun x => some x) e = some r)) hm hnx2 hr2
    replace hm : some i30 = some r := hm
    replace hm := Option.some.inj hm
    subst hm
    refine d_retC () Try.results52 ?_ trivial (fun W h => h.phi (fun W hφ => hφ)) (.inr rfl)
    refine res_tmp <| res_nil ?_
    exact rfl
   ·
    replace hm := ite_f hm (bool_nt h48)
    refine c_skip <| d_normal_block <| d_then <| c_region <| g_v rfl (r_add rfl rfl rfl) <| g_v rfl r_move <| g_nil ?_
    obtain ⟨n49, hn49, hlp⟩ := nx_inl hm hnx2
    exact d_round (n49, w64 (i30 + 1)) hlp hn49 ⟨rfl, rfl, rfl, rfl, trivial⟩ (fun W h => h.phi (fun W hφ => hφ))
  ·
   replace hm := ite_f hm (of_decide_eq_false h41)
   refine c_exit <| d_exit_then <| d_exit_then <| d_exit_block ?_
   replace hm := nx_out (C := (fun e => Sum.elim (fun e => m_slices_IndexFunc_52_2_j1) (fun x => some x) e = some r)) hm hnx2 hr2
   exact d_round () hm Nat.zero_lt_one trivial (fun W h => h.phi (fun W hφ => hφ))
 ·
  unfold m_slices_IndexFunc_52_2_j1 at hm
  refine d_flat [] trivial (fun u => ?_)
  refine d_sta ⟨w0, M, (1000, go0, .cells #[.int .i64 o0] 3 (0, 0)) :: H, R, φ⟩ (fun _ h => h) <| d_then <| c_seq <| c_region <| g_v rfl r_assign <| g_nil <| d_then <| c_ret ?_
  replace hm := Option.some.inj hm
  subst hm
  refine d_retC () Try.results52 ?_ trivial (fun W h => h.phi (fun W hφ => hφ)) (.inr rfl)
  refine res_tmp <| res_nil ?_
  exact rfl
noncomputable def m_slices_DeleteFunc_41_j1  (l49 : List Gnet_conn) (i52 : Int) : Option (List Gnet_conn) :=
  (cutLo l49 i52).bind fun l53 =>
  (cutHi l49 i52).bind fun l54 =>
  some l54
noncomputable def m_slices_DeleteFunc_41_s2 (o0 : Int) (l75 : List Gnet_conn) (i78 : Int) (i79 : Int) : Option (((List Gnet_conn) × Int × Int) ⊕ ((List Gnet_conn) × Int)) :=
  if i79 < (l75.length : Int) then
    (at_ l75 i79).bind fun x101 =>
    (m_net_Net_Lose_c2 x101 o0).bind fun x106 =>
    if x106 = true then
      some (.inl (l75, i78, w64 (i79 + 1)))
    else
      (at_ l75 i78).bind fun x109 =>
      (setAt l75 i78 x101).bind fun l113 =>
      some (.inl (l113, w64 (i78 + 1), w64 (i79 + 1)))
  else
    some (.inr (l75, i78))
noncomputable def m_slices_DeleteFunc_41 (p0 : List Gnet_conn) (o0 : Int) : Option (List Gnet_conn) :=
  (m_slices_IndexFunc_52_2 p0 o0).bind fun x1 =>
  if x1 = (-1) then
    some p0
  else
    (loop (fun s => m_slices_DeleteFunc_41_s2 o0 s.1 s.2.1 s.2.2) (p0, x1, w64 (x1 + 1))).bind fun e => m_slices_DeleteFunc_41_j1 e.1 e.2
theorem c_slices_DeleteFunc_41 {w0 : World} {M : Nat → Prop} {H : List (Nat × Nat × Obj)} {R : List (Nat × Row)} {φ : World → Prop} (p0 : List Gnet_conn) (Ap0_0 : Option Addr) (cp0_0 : Nat) (hcp0_0 : p0.length ≤ cp0_0) (go0 : Nat) (o0 : Int) (r : (List Gnet_conn)) (hm : m_slices_DeleteFunc_41 p0 o0 = some r) :
    Cn Try.prog 41 #[.slice Ap0_0 p0.length cp0_0, .func (.func 42) #[] #[.pointer (some ⟨go0, 0, none⟩)]] ⟨w0, M, (1000, go0, .cells #[.int .i64 o0] 3 (0, 0)) :: H, (1000, ⟨.slice Ap0_0 p0.length cp0_0, 63, 3, p0.length, p0.flatMap Gnet_conn.enc⟩) :: R, φ⟩ (fun x : Option Addr × Nat => .slice x.1 r.length x.2) (fun x => r.length ≤ x.2) (fun x => ⟨w0, M, (1000, go0, .cells #[.int .i64 o0] 3 (0, 0)) :: H, (2000, ⟨.slice x.1 r.length x.2, 63, 3, r.length, r.flatMap Gnet_conn.enc⟩) :: R, φ⟩) := by
 unfold m_slices_DeleteFunc_41 at hm
 refine cn_intro (fn := Try.f41) (N := 42) Try.func41 rfl Try.ntmps41 rfl <| c_seq <| c_region <| g_v rfl r_assign <| g_nil <| d_then <| c_seq <| c_region <| g_v rfl r_move <| g_v rfl r_move ?_
 replace hm := bnd hm
 obtain ⟨x1, hx2, hm⟩ := hm
 refine g_cn ⟨w0, M, (1000, go0, .cells #[.int .i64 o0] 3 (0, 0)) :: H, (1000, ⟨.slice Ap0_0 p0.length cp0_0, 63, 3, p0.length, p0.flatMap Gnet_conn.enc⟩) :: R, φ⟩ (fun W h => (ok_front (t := 1000) (t' := 1000) h rfl)) Try.call52 rfl rfl (c_slices_IndexFunc_52_2 p0 Ap0_0 cp0_0 hcp0_0 (fun W hS => rowCl (tag := 1000) rfl W hS) go0 o0 _ hx2) (fun _ _ => ?_)
 refine g_sta _ (fun W h => (ok_front (t := 1000) (t' := 1000) h rfl)) <| g_v rfl r_assign <| g_nil <| d_then <| c_seq <| c_seq <| c_region <| g_v rfl r_move <| g_v rfl (r_eql rfl rfl) <| g_nil ?_
 refine d_then ?_
 refine c_cond rfl (fun h3 => ?_) (fun h3 => ?_)
 ·
  replace hm := ite_t hm (of_decide_eq_true h3)
  refine c_seq <| c_region <| g_v rfl r_move <| g_v rfl r_assign <| g_nil <| d_then ?_
  refine c_flat [(4, .slice Ap0_0 p0.length cp0_0)] ⟨rfl, trivial⟩ (fun u => ?_)
  refine c_sta ⟨w0, M, (1000, go0, .cells #[.int .i64 o0] 3 (0, 0)) :: H, (1000, ⟨.slice Ap0_0 p0.length cp0_0, 63, 3, p0.length, p0.flatMap Gnet_conn.enc⟩) :: R, φ⟩ (fun _ h => h) <| c_ret <| d_ret_then ?_
  replace hm := Option.some.inj hm
  subst hm
  refine d_sta _ (fun W h => ok_frontR (t := 1000) (t' := 2000) h rfl) ?_
  refine d_retC (Ap0_0, cp0_0) Try.results41 ?_ hcp0_0 (fun W h => h.phi (fun W hφ => hφ)) (.inr rfl)
  refine res_tmp <| res_nil ?_
  exact rfl
 ·
  replace hm := ite_f hm (of_decide_eq_false h3)
  refine c_skip <| d_then <| c_seq <| c_seq <| c_region <| g_v rfl r_move <| g_v rfl (r_add rfl rfl rfl) <| g_v rfl r_assign <| g_nil <| d_then ?_
  refine c_flat [(0, .slice Ap0_0 p0.length cp0_0), (1, .func (.func 42) #[] #[.pointer (some ⟨go0, 0, none⟩)]), (5, .int .i64 x1), (6, .int .i64 (w64 (x1 + 1)))] ⟨rfl, rfl, rfl, rfl, trivial⟩ (fun u => ?_)
  refine c_sta ⟨w0, M, (1000, go0, .cells #[.int .i64 o0] 3 (0, 0)) :: H, (1000, ⟨.slice Ap0_0 p0.length cp0_0, 63, 3, p0.length, p0.flatMap Gnet_conn.enc⟩) :: R, φ⟩ (fun _ h => h) ?_
  refine c_cut (ι := (List Gnet_conn) × Int) [0, 5] (fun ⟨l49, i52⟩ => [(0, .slice Ap0_0 l49.length cp0_0), (5, .int .i64 i52)]) (fun ⟨l49, i52⟩ => ⟨w0, M, (1000, go0, .cells #[.int .i64 o0] 3 (0, 0)) :: H, (1000, ⟨.slice Ap0_0 l49.length cp0_0, 63, 3, l49.length, l49.flatMap Gnet_conn.enc⟩) :: R, φ⟩) (fun ⟨l49, i52⟩ => m_slices_DeleteFunc_41_j1 l49 i52 = some r ∧ (l49.length ≤ cp0_0 ∧ l49.length = p0.length)) ?_ (fun ⟨l49, i52⟩ u ⟨hm, hl49⟩ => ?_)
  ·
   refine c_block ?_
   replace hm := bnd hm
   obtain ⟨out2, hl2, hr2⟩ := hm
   obtain ⟨n99', hl2⟩ := loop_lp hl2
   refine c_loopU (ι := Nat × (List Gnet_conn) × Int × Int) [0, 1, 5, 6] (fun ⟨n99, l75, i78, i79⟩ => [(0, .slice Ap0_0 l75.length cp0_0), (5, .int .i64 i78), (6, .int .i64 i79)]) (fun ⟨n99, l75, i78, i79⟩ => ⟨w0, M, (1000, go0, .cells #[.int .i64 o0] 3 (0, 0)) :: H, (1000, ⟨.slice Ap0_0 l75.length cp0_0, 63, 3, l75.length, l75.flatMap Gnet_conn.enc⟩) :: R, φ⟩) (fun ⟨n99, l75, i78, i79⟩ => Lp (fun s => m_slices_DeleteFunc_41_s2 o0 s.1 s.2.1 s.2.2) n99 (l75, i78, i79) out2 ∧ (l75.length ≤ cp0_0 ∧ l75.length = p0.length)) (fun ⟨n99, l75, i78, i79⟩ => n99) (n99', p0, x1, w64 (x1 + 1)) ⟨hl2, ⟨hcp0_0, rfl⟩⟩ ⟨rfl, rfl, rfl, rfl, trivial⟩ (fun W h => h.phi (fun W hφ => hφ)) (fun ⟨n99, l75, i78, i79⟩ u ⟨hlp, hl75⟩ => ?_)
   obtain ⟨o2, hm, hnx2⟩ := lp_step hlp
   clear hlp
   replace hm : m_slices_DeleteFunc_41_s2 o0 l75 i78 i79 = some o2 := hm
   unfold m_slices_DeleteFunc_41_s2 at hm
   refine c_flat [(0, .slice Ap0_0 l75.length cp0_0), (1, .func (.func 42) #[] #[.pointer (some ⟨go0, 0, none⟩)]), (5, .int .i64 i78), (6, .int .i64 i79)] ⟨rfl, rfl, rfl, rfl, trivial⟩ (fun u => ?_)
   refine c_sta ⟨w0, M, (1000, go0, .cells #[.int .i64 o0] 3 (0, 0)) :: H, (1000, ⟨.slice Ap0_0 l75.length cp0_0, 63, 3, l75.length, l75.flatMap Gnet_conn.enc⟩) :: R, φ⟩ (fun _ h => h) <| c_seq <| c_seq <| c_region <| g_v rfl r_move <| g_v rfl r_move <| g_v rfl (r_lenL Try.underlying59 rfl) <| g_v rfl (r_lss rfl rfl) <| g_nil <| d_then ?_
   refine c_cond rfl (fun h100 => ?_) (fun h100 => ?_)
   ·
    replace hm := ite_t hm (of_decide_eq_true h100)
    refine c_skip <| d_then <| c_seq <| c_block <| c_seq <| c_region <| g_v rfl r_move <| g_v rfl r_move ?_
    replace hm := bnd hm
    obtain ⟨x101, hx101, hm⟩ := hm
    refine g_know _ (fun W hS => cl_at (p := (Sta.ok ⟨w0, M, (1000, go0, .cells #[.int .i64 o0] 3 (0, 0)) :: H, (1000, ⟨.slice Ap0_0 l75.length cp0_0, 63, 3, l75.length, l75.flatMap Gnet_conn.enc⟩) :: R, φ⟩)) (sz := 3) (fun _ => rfl) (by decide) hS (fun W hS => rowCl (S := ⟨w0, M, (1000, go0, .cells #[.int .i64 o0] 3 (0, 0)) :: H, (1000, ⟨.slice Ap0_0 l75.length cp0_0, 63, 3, l75.length, l75.flatMap Gnet_conn.enc⟩) :: R, φ⟩) (tag := 1000) rfl W hS) hx101) ?_
    rintro ⟨ad102, hA104, f103⟩
    refine g_v rfl (r_ix Try.underlying59 Try.sizeOf63 rfl hA104 rfl hx101) <| g_v rfl (r_ldA rfl Try.isAgg63 Try.sizeOf63 (fun W hS => (f103 W hS).take 3) rfl) ?_
    refine g_e rfl (e_alloc 100070 Try.zeroValue63) (fun g105 _ => ?_)
    refine g_storeL (tag := 100070) rfl rfl rfl rfl Try.sizeOf63 rfl rfl <| g_nil <| d_then ?_
    refine c_flat [(0, .slice Ap0_0 l75.length cp0_0), (1, .func (.func 42) #[] #[.pointer (some ⟨go0, 0, none⟩)]), (5, .int .i64 i78), (6, .int .i64 i79), (7, .pointer (some ⟨g105, 0, none⟩))] ⟨rfl, rfl, rfl, rfl, rfl, trivial⟩ (fun u => ?_)
    refine c_sta ⟨w0, M, (100070, g105, .cells #[.int .i64 x101.fnumber, .int .i64 x101.fends.a0, .int .i64 x101.fends.a1] 63 (0, 0)) :: (1000, go0, .cells #[.int .i64 o0] 3 (0, 0)) :: H, (1000, ⟨.slice Ap0_0 l75.length cp0_0, 63, 3, l75.length, l75.flatMap Gnet_conn.enc⟩) :: R, φ⟩ (fun _ h => h) <| c_seq <| c_region <| g_v rfl r_move <| g_v rfl (r_loadA (tag := 100070) rfl rfl Try.isAgg63 Try.sizeOf63 rfl rfl) ?_
    replace hm := bnd hm
    obtain ⟨x106, hx107, hm⟩ := hm
    refine g_cnv ⟨w0, M, (1000, go0, .cells #[.int .i64 o0] 3 (0, 0)) :: (100070, g105, .cells #[.int .i64 x101.fnumber, .int .i64 x101.fends.a0, .int .i64 x101.fends.a1] 63 (0, 0)) :: H, (1000, ⟨.slice Ap0_0 l75.length cp0_0, 63, 3, l75.length, l75.flatMap Gnet_conn.enc⟩) :: R, φ⟩ (fun W h => (ok_front (t := 1000) (t' := 1000) h rfl)) Try.call42 rfl rfl rfl (c_net_Net_Lose_c2 x101 go0 o0 _ hx107) (fun _ _ => ?_)
    refine g_sta _ (fun W h => (ok_front (t := 1000) (t' := 1000) h rfl)) <| g_v rfl (r_not rfl) <| g_nil <| d_then ?_
    refine c_cond rfl (fun h108 => ?_) (fun h108 => ?_)
    ·
     have h108' : x106 = false := by revert h108; cases x106 <;> simp
     replace hm := ite_f hm (bool_nt h108')
     refine c_seq <| c_region <| g_v rfl r_move <| g_v rfl r_move <| g_v rfl (r_loadA (tag := 100070) rfl rfl Try.isAgg63 Try.sizeOf63 rfl rfl) ?_
     replace hm := bnd hm
     obtain ⟨x109, hx109, hm⟩ := hm
     refine g_know _ (fun W hS => cl_at (p := (Sta.ok ⟨w0, M, (1000, go0, .cells #[.int .i64 o0] 3 (0, 0)) :: (100070, g105, .cells #[.int .i64 x101.fnumber, .int .i64 x101.fends.a0, .int .i64 x101.fends.a1] 63 (0, 0)) :: H, (1000, ⟨.slice Ap0_0 l75.length cp0_0, 63, 3, l75.length, l75.flatMap Gnet_conn.enc⟩) :: R, φ⟩)) (sz := 3) (fun _ => rfl) (by decide) hS (fun W hS => rowCl (S := ⟨w0, M, (1000, go0, .cells #[.int .i64 o0] 3 (0, 0)) :: (100070, g105, .cells #[.int .i64 x101.fnumber, .int .i64 x101.fends.a0, .int .i64 x101.fends.a1] 63 (0, 0)) :: H, (1000, ⟨.slice Ap0_0 l75.length cp0_0, 63, 3, l75.length, l75.flatMap Gnet_conn.enc⟩) :: R, φ⟩) (tag := 1000) rfl W hS) hx109) ?_
     rintro ⟨ad110, hA112, f111⟩
     refine g_v rfl (r_ix Try.underlying59 Try.sizeOf63 rfl hA112 rfl hx109) ?_
     replace hm := bnd hm
     obtain ⟨l113, hl113, hm⟩ := hm
     refine g_stR (tag := 1000) (enc := Gnet_conn.enc) (l := l75) (off := 0) (vs := [.int .i64 x101.fnumber, .int .i64 x101.fends.a0, .int .i64 x101.fends.a1]) (add0 rfl) hA112 rfl rfl hx109 hl113 rfl (Nat.le_of_ble_eq_true rfl) (fun _ => rfl) rfl rfl Try.sizeOf63 ?_
     rw [show l75.length = l113.length from (setAt_lenE hl113).symm]
     refine g_nil <| d_then ?_
     refine c_flat [(0, .slice Ap0_0 l113.length cp0_0), (1, .func (.func 42) #[] #[.pointer (some ⟨go0, 0, none⟩)]), (5, .int .i64 i78), (6, .int .i64 i79)] ⟨rfl, rfl, rfl, rfl, trivial⟩ (fun u => ?_)
     refine c_sta ⟨w0, M, (1000, go0, .cells #[.int .i64 o0] 3 (0, 0)) :: (100070, g105, .cells #[.int .i64 x101.fnumber, .int .i64 x101.fends.a0, .int .i64 x101.fends.a1] 63 (0, 0)) :: H, (1000, ⟨.slice Ap0_0 l113.length cp0_0, 63, 3, l113.length, l113.flatMap Gnet_conn.enc⟩) :: R, φ⟩ (fun _ h => h) <| c_region <| g_v rfl r_move <| g_v rfl (r_add rfl rfl rfl) <| g_v rfl r_assign <| g_nil <| d_normal_block <| d_then <| c_region <| g_v rfl r_move ?_
     refine g_v rfl (r_add rfl rfl rfl) <| g_v rfl r_assign <| g_nil ?_
     obtain ⟨n114, hn114, hlp⟩ := nx_inl hm hnx2
     exact d_round (n114, l113, w64 (i78 + 1), w64 (i79 + 1)) ⟨hlp, ⟨(setAt_len hl75.1 hl113), ((setAt_lenE hl113).trans hl75.2)⟩⟩ hn114 ⟨rfl, rfl, rfl, rfl, trivial⟩ (fun W h => (h.dropH (t := 100070) rfl).phi (fun W hφ => hφ))
    ·
     have h108' : x106 = true := by revert h108; cases x106 <;> simp
     replace hm := ite_t hm h108'
     refine c_skip <| d_normal_block <| d_then <| c_region <| g_v rfl r_move <| g_v rfl (r_add rfl rfl rfl) <| g_v rfl r_assign <| g_nil ?_
     obtain ⟨n115, hn115, hlp⟩ := nx_inl hm hnx2
     exact d_round (n115, l75, i78, w64 (i79 + 1)) ⟨hlp, ⟨hl75.1, hl75.2⟩⟩ hn115 ⟨rfl, rfl, rfl, rfl, trivial⟩ (fun W h => (h.dropH (t := 100070) rfl).phi (fun W hφ => hφ))
   ·
    replace hm := ite_f hm (of_decide_eq_false h100)
    refine c_exit <| d_exit_then <| d_exit_then <| d_exit_block ?_
    replace hm := nx_out (C := (fun e => m_slices_DeleteFunc_41_j1 e.1 e.2 = some r)) hm hnx2 hr2
    exact d_round (l75, i78) ⟨hm, ⟨hl75.1, hl75.2⟩⟩ Nat.zero_lt_one ⟨rfl, rfl, trivial⟩ (fun W h => h.phi (fun W hφ => hφ))
  ·
   unfold m_slices_DeleteFunc_41_j1 at hm
   refine d_flat [(0, .slice Ap0_0 l49.length cp0_0), (5, .int .i64 i52)] ⟨rfl, rfl, trivial⟩ (fun u => ?_)
   refine d_sta ⟨w0, M, (1000, go0, .cells #[.int .i64 o0] 3 (0, 0)) :: H, (1000, ⟨.slice Ap0_0 l49.length cp0_0, 63, 3, l49.length, l49.flatMap Gnet_conn.enc⟩) :: R, φ⟩ (fun _ h => h) <| d_then <| c_seq <| c_region <| g_v rfl r_move <| g_v rfl r_move ?_
   replace hm := bnd hm
   obtain ⟨l53, hl53, hm⟩ := hm
   refine g_v rfl (r_lcutLo Try.underlying59 Try.sizeOf63 rfl hl49.1 rfl hl53) ?_
   replace hm := bnd hm
   obtain ⟨l54, hl54, hm⟩ := hm
   refine g_sta _ (fun W h => row_cut (tag := 1000) (enc := Gnet_conn.enc) (fun _ => rfl) rfl hl54 h) <| g_e0 (e_clearLo (tag := 1000) (enc := Gnet_conn.enc) Try.underlying59 Try.zeroValue63 rfl rfl hl54 hl53 rfl hl49.1 rfl) <| g_nil <| d_then <| c_seq <| c_region <| g_v rfl r_move <| g_v rfl r_move <| g_v rfl (r_lcutHi Try.underlying59 Try.sizeOf63 rfl hl49.1 rfl hl54) <| g_v rfl r_assign ?_
   refine g_nil <| d_then <| c_ret ?_
   replace hm := Option.some.inj hm
   subst hm
   refine d_sta _ (fun W h => ok_frontR (t := 1000) (t' := 2000) h rfl) ?_
   refine d_retC (Ap0_0, cp0_0) Try.results41 ?_ (cutHi_len hl49.1 hl54) (fun W h => h.phi (fun W hφ => hφ)) (.inr rfl)
   refine res_tmp <| res_nil ?_
   exact rfl
noncomputable def m_net_Net_Lose_j1 (o0 : Gnet_Net) (p1 : Int) (l87 : List GItem) (i90 : Int) (i91 : Int) : Option (Int × Gnet_Net) :=
  (m_slices_DeleteFunc_41 o0.fconns p1).bind fun x92 =>
  some (i90, (⟨l87, x92, i91, o0.fopens⟩ : Gnet_Net))
noncomputable def m_net_Net_Lose_s2 (o0 : Gnet_Net) (p1 : Int) (l134 : List GItem) (i137 : Int) (i138 : Int) (i139 : Int) : Option (((List GItem) × Int × Int × Int) ⊕ ((List GItem) × Int × Int)) :=
  if i138 < (o0.fconns.length : Int) then
    (at_ o0.fconns i138).bind fun x178 =>
    (m_net_conn_has x178 p1).bind fun x183 =>
    if x183 = true then
      (m_net_conn_other x178 p1).bind fun x200 =>
      (m_net_Net_closed x178 x200 (⟨l134, o0.fconns, i139, o0.fopens⟩ : Gnet_Net)).bind fun x202 =>
      some (.inl (x202.fitems, i137, w64 (i138 + 1), x202.flast))
    else
      some (.inl (l134, i137, w64 (i138 + 1), i139))
  else
    some (.inr (l134, i137, i139))
noncomputable def m_net_Net_Lose (p1 : Int) (o0 : Gnet_Net) : Option (Int × Gnet_Net) :=
  (m_slices_DeleteFunc_31_2 o0.fitems p1).bind fun x2 =>
  (loop (fun s => m_net_Net_Lose_s2 o0 p1 s.1 s.2.1 s.2.2.1 s.2.2.2) (x2, w64 ((o0.fitems.length : Int) - (x2.length : Int)), 0, o0.flast)).bind fun e => m_net_Net_Lose_j1 o0 p1 e.1 e.2.1 e.2.2
theorem c_net_Net_Lose {w0 : World} {M : Nat → Prop} {H : List (Nat × Nat × Obj)} {R : List (Nat × Row)} {φ : World → Prop} (p1 : Int) (go0 : Nat) (o0 : Gnet_Net) (Ao0_0 : Option Addr) (co0_0 : Nat) (hco0_0 : o0.fitems.length ≤ co0_0) (Ao0_1 : Option Addr) (co0_1 : Nat) (hco0_1 : o0.fconns.length ≤ co0_1) (r : Int × Gnet_Net) (hm : m_net_Net_Lose p1 o0 = some r) :
    Cn Try.prog 19 #[.pointer (some ⟨go0, 0, none⟩), .int .i64 p1] ⟨w0, M, (1000, go0, .cells #[.slice Ao0_0 o0.fitems.length co0_0, .slice Ao0_1 o0.fconns.length co0_1, .int .i64 o0.flast, .int .i64 o0.fopens] 61 (0, 0)) :: H, (1000, ⟨.slice Ao0_0 o0.fitems.length co0_0, 40, 6, o0.fitems.length, o0.fitems.flatMap GItem.enc⟩) :: (1001, ⟨.slice Ao0_1 o0.fconns.length co0_1, 63, 3, o0.fconns.length, o0.fconns.flatMap Gnet_conn.enc⟩) :: R, φ⟩ (fun x : Option Addr × Nat × Option Addr × Nat => .int .i64 r.1) (fun x => r.2.fitems.length ≤ x.2.1 ∧ r.2.fconns.length ≤ x.2.2.2) (fun x => ⟨w0, M, (1000, go0, .cells #[.slice x.1 r.2.fitems.length x.2.1, .slice x.2.2.1 r.2.fconns.length x.2.2.2, .int .i64 r.2.flast, .int .i64 o0.fopens] 61 (0, 0)) :: H, (2000, ⟨.slice x.1 r.2.fitems.length x.2.1, 40, 6, r.2.fitems.length, r.2.fitems.flatMap GItem.enc⟩) :: (2001, ⟨.slice x.2.2.1 r.2.fconns.length x.2.2.2, 63, 3, r.2.fconns.length, r.2.fconns.flatMap Gnet_conn.enc⟩) :: R, φ⟩) := by
 unfold m_net_Net_Lose at hm
 refine cn_intro (fn := Try.f19) (N := 61) Try.func19 rfl Try.ntmps19 rfl <| c_seq <| c_region ?_
 refine g_e rfl (e_box 100030 rfl) (fun g1 _ => ?_)
 refine g_v rfl r_assign <| g_nil <| d_then <| c_seq <| c_seq <| c_region <| g_v rfl r_move <| g_v rfl (r_eqlP1 Try.underlying24 rfl rfl) <| g_nil <| d_then ?_
 refine c_cond0 rfl rfl <| c_skip <| d_then <| c_seq <| c_region <| g_v rfl r_move <| g_v rfl (r_nilck rfl) <| g_v rfl (r_field (n := 0) Try.underlying61 rfl Try.sizeOf52 rfl rfl) <| g_v rfl (r_load (tag := 1000) rfl rfl rfl Try.isAgg52) <| g_v rfl (r_lenL Try.underlying52 rfl) ?_
 refine g_v rfl r_assign <| g_nil <| d_then ?_
 refine c_flat [(0, .pointer (some ⟨go0, 0, none⟩)), (3, .pointer (some ⟨g1, 0, none⟩)), (5, .int .i64 (o0.fitems.length : Int))] ⟨rfl, rfl, rfl, trivial⟩ (fun u => ?_)
 refine c_sta ⟨w0, M, (100030, g1, .cells #[.int .i64 p1] 3 (0, 0)) :: (1000, go0, .cells #[.slice Ao0_0 o0.fitems.length co0_0, .slice Ao0_1 o0.fconns.length co0_1, .int .i64 o0.flast, .int .i64 o0.fopens] 61 (0, 0)) :: H, (1000, ⟨.slice Ao0_0 o0.fitems.length co0_0, 40, 6, o0.fitems.length, o0.fitems.flatMap GItem.enc⟩) :: (1001, ⟨.slice Ao0_1 o0.fconns.length co0_1, 63, 3, o0.fconns.length, o0.fconns.flatMap Gnet_conn.enc⟩) :: R, φ⟩ (fun _ h => h) <| c_seq <| c_region <| g_v rfl r_move <| g_v rfl r_move <| g_v rfl (r_nilck rfl) <| g_v rfl (r_field (n := 0) Try.underlying61 rfl Try.sizeOf52 rfl rfl) <| g_v rfl (r_load (tag := 1000) rfl rfl rfl Try.isAgg52) <| g_v rfl (r_mkf rfl) ?_
 replace hm := bnd hm
 obtain ⟨x2, hx3, hm⟩ := hm
 refine g_cn ⟨w0, M, (1000, g1, .cells #[.int .i64 p1] 3 (0, 0)) :: (1000, go0, .cells #[.slice Ao0_0 o0.fitems.length co0_0, .slice Ao0_1 o0.fconns.length co0_1, .int .i64 o0.flast, .int .i64 o0.fopens] 61 (0, 0)) :: H, (1000, ⟨.slice Ao0_0 o0.fitems.length co0_0, 40, 6, o0.fitems.length, o0.fitems.flatMap GItem.enc⟩) :: (1001, ⟨.slice Ao0_1 o0.fconns.length co0_1, 63, 3, o0.fconns.length, o0.fconns.flatMap Gnet_conn.enc⟩) :: R, φ⟩ (fun W h => (ok_front (t := 100030) (t' := 1000) (ok_frontR (t := 1000) (t' := 1000) h rfl) rfl)) Try.call31 rfl rfl (c_slices_DeleteFunc_31_2 o0.fitems Ao0_0 co0_0 hco0_0 g1 p1 _ hx3) (fun ⟨A4, c5⟩ hc5 => ?_)
 refine g_sta _ (fun W h => (ok_frontR (t := 2000) (t' := 1000) (ok_front (t := 1000) (t' := 100030) h rfl) rfl)) <| g_v rfl (r_nilck rfl) <| g_v rfl (r_field (n := 0) Try.underlying61 rfl Try.sizeOf52 rfl rfl) <| g_storeL (tag := 1000) rfl rfl rfl rfl Try.sizeOf52 rfl rfl <| g_nil <| d_then ?_
 refine c_flat [(0, .pointer (some ⟨go0, 0, none⟩)), (3, .pointer (some ⟨g1, 0, none⟩)), (5, .int .i64 (o0.fitems.length : Int))] ⟨rfl, rfl, rfl, trivial⟩ (fun u => ?_)
 refine c_sta ⟨w0, M, (100030, g1, .cells #[.int .i64 p1] 3 (0, 0)) :: (1000, go0, .cells #[.slice A4 x2.length c5, .slice Ao0_1 o0.fconns.length co0_1, .int .i64 o0.flast, .int .i64 o0.fopens] 61 (0, 0)) :: H, (1000, ⟨.slice A4 x2.length c5, 40, 6, x2.length, x2.flatMap GItem.enc⟩) :: (1001, ⟨.slice Ao0_1 o0.fconns.length co0_1, 63, 3, o0.fconns.length, o0.fconns.flatMap Gnet_conn.enc⟩) :: R, φ⟩ (fun _ h => h) <| c_seq <| c_region <| g_v rfl r_move <| g_v rfl r_move <| g_v rfl (r_nilck rfl) <| g_v rfl (r_field (n := 0) Try.underlying61 rfl Try.sizeOf52 rfl rfl) <| g_v rfl (r_load (tag := 1000) rfl rfl rfl Try.isAgg52) <| g_v rfl (r_lenL Try.underlying52 rfl) <| g_v rfl (r_sub rfl rfl rfl) ?_
 refine g_v rfl r_assign <| g_nil <| d_then <| c_seq <| c_seq <| c_region <| g_v rfl r_move <| g_v rfl (r_nilck rfl) <| g_v rfl (r_field (n := 1) Try.underlying61 rfl Try.sizeOf59 rfl rfl) <| g_v rfl (r_load (tag := 1000) rfl rfl rfl Try.isAgg59) ?_
 refine g_v rfl (r_lenL Try.underlying59 rfl) <| g_v rfl r_move <| g_nil <| d_then ?_
 refine c_flat [(0, .pointer (some ⟨go0, 0, none⟩)), (3, .pointer (some ⟨g1, 0, none⟩)), (6, .int .i64 (w64 ((o0.fitems.length : Int) - (x2.length : Int)))), (35, .slice Ao0_1 o0.fconns.length co0_1), (36, .int .i64 (o0.fconns.length : Int)), (37, .int .i64 0)] ⟨rfl, rfl, rfl, rfl, rfl, rfl, trivial⟩ (fun u => ?_)
 refine c_cut (ι := (List GItem) × Int × Int × Option Addr × Nat) [0, 3, 6] (fun ⟨l87, i90, i91, A88, c89⟩ => [(6, .int .i64 i90)]) (fun ⟨l87, i90, i91, A88, c89⟩ => ⟨w0, M, (100030, g1, .cells #[.int .i64 p1] 3 (0, 0)) :: (1000, go0, .cells #[.slice A88 l87.length c89, .slice Ao0_1 o0.fconns.length co0_1, .int .i64 i91, .int .i64 o0.fopens] 61 (0, 0)) :: H, (1000, ⟨.slice A88 l87.length c89, 40, 6, l87.length, l87.flatMap GItem.enc⟩) :: (1001, ⟨.slice Ao0_1 o0.fconns.length co0_1, 63, 3, o0.fconns.length, o0.fconns.flatMap Gnet_conn.enc⟩) :: R, φ⟩) (fun ⟨l87, i90, i91, A88, c89⟩ => m_net_Net_Lose_j1 o0 p1 l87 i90 i91 = some r ∧ l87.length ≤ c89) ?_ (fun ⟨l87, i90, i91, A88, c89⟩ u ⟨hm, hc89⟩ => ?_)
 ·
  refine c_block ?_
  replace hm := bnd hm
  obtain ⟨out2, hl2, hr2⟩ := hm
  obtain ⟨n176', hl2⟩ := loop_lp hl2
  refine c_loopU (ι := Nat × (List GItem) × Int × Int × Int × Option Addr × Nat) [0, 3, 6, 35, 36, 37] (fun ⟨n176, l134, i137, i138, i139, A135, c136⟩ => [(6, .int .i64 i137), (37, .int .i64 i138)]) (fun ⟨n176, l134, i137, i138, i139, A135, c136⟩ => ⟨w0, M, (100030, g1, .cells #[.int .i64 p1] 3 (0, 0)) :: (1000, go0, .cells #[.slice A135 l134.length c136, .slice Ao0_1 o0.fconns.length co0_1, .int .i64 i139, .int .i64 o0.fopens] 61 (0, 0)) :: H, (1000, ⟨.slice A135 l134.length c136, 40, 6, l134.length, l134.flatMap GItem.enc⟩) :: (1001, ⟨.slice Ao0_1 o0.fconns.length co0_1, 63, 3, o0.fconns.length, o0.fconns.flatMap Gnet_conn.enc⟩) :: R, φ⟩) (fun ⟨n176, l134, i137, i138, i139, A135, c136⟩ => Lp (fun s => m_net_Net_Lose_s2 o0 p1 s.1 s.2.1 s.2.2.1 s.2.2.2) n176 (l134, i137, i138, i139) out2 ∧ l134.length ≤ c136) (fun ⟨n176, l134, i137, i138, i139, A135, c136⟩ => n176) (n176', x2, w64 ((o0.fitems.length : Int) - (x2.length : Int)), 0, o0.flast, A4, c5) ⟨hl2, hc5⟩ ⟨rfl, rfl, rfl, rfl, rfl, rfl, trivial⟩ (fun W h => h.phi (fun W hφ => hφ)) (fun ⟨n176, l134, i137, i138, i139, A135, c136⟩ u ⟨hlp, hc136⟩ => ?_)
  obtain ⟨o2, hm, hnx2⟩ := lp_step hlp
  clear hlp
  replace hm : m_net_Net_Lose_s2 o0 p1 l134 i137 i138 i139 = some o2 := hm
  unfold m_net_Net_Lose_s2 at hm
  refine c_flat [(0, .pointer (some ⟨go0, 0, none⟩)), (3, .pointer (some ⟨g1, 0, none⟩)), (6, .int .i64 i137), (35, .slice Ao0_1 o0.fconns.length co0_1), (36, .int .i64 (o0.fconns.length : Int)), (37, .int .i64 i138)] ⟨rfl, rfl, rfl, rfl, rfl, rfl, trivial⟩ (fun u => ?_)
  refine c_sta ⟨w0, M, (100030, g1, .cells #[.int .i64 p1] 3 (0, 0)) :: (1000, go0, .cells #[.slice A135 l134.length c136, .slice Ao0_1 o0.fconns.length co0_1, .int .i64 i139, .int .i64 o0.fopens] 61 (0, 0)) :: H, (1000, ⟨.slice A135 l134.length c136, 40, 6, l134.length, l134.flatMap GItem.enc⟩) :: (1001, ⟨.slice Ao0_1 o0.fconns.length co0_1, 63, 3, o0.fconns.length, o0.fconns.flatMap Gnet_conn.enc⟩) :: R, φ⟩ (fun _ h => h) <| c_seq <| c_region <| g_v rfl (r_lss rfl rfl) <| g_nil <| d_then <| c_seq ?_
  refine c_cond rfl (fun h177 => ?_) (fun h177 => ?_)
  ·
   replace hm := ite_t hm (of_decide_eq_true h177)
   refine c_skip <| d_then <| c_seq <| c_block <| c_seq <| c_region ?_
   replace hm := bnd hm
   obtain ⟨x178, hx178, hm⟩ := hm
   refine g_know _ (fun W hS => cl_at (p := (Sta.ok ⟨w0, M, (100030, g1, .cells #[.int .i64 p1] 3 (0, 0)) :: (1000, go0, .cells #[.slice A135 l134.length c136, .slice Ao0_1 o0.fconns.length co0_1, .int .i64 i139, .int .i64 o0.fopens] 61 (0, 0)) :: H, (1000, ⟨.slice A135 l134.length c136, 40, 6, l134.length, l134.flatMap GItem.enc⟩) :: (1001, ⟨.slice Ao0_1 o0.fconns.length co0_1, 63, 3, o0.fconns.length, o0.fconns.flatMap Gnet_conn.enc⟩) :: R, φ⟩)) (sz := 3) (fun _ => rfl) (by decide) hS (fun W hS => rowCl (S := ⟨w0, M, (100030, g1, .cells #[.int .i64 p1] 3 (0, 0)) :: (1000, go0, .cells #[.slice A135 l134.length c136, .slice Ao0_1 o0.fconns.length co0_1, .int .i64 i139, .int .i64 o0.fopens] 61 (0, 0)) :: H, (1000, ⟨.slice A135 l134.length c136, 40, 6, l134.length, l134.flatMap GItem.enc⟩) :: (1001, ⟨.slice Ao0_1 o0.fconns.length co0_1, 63, 3, o0.fconns.length, o0.fconns.flatMap Gnet_conn.enc⟩) :: R, φ⟩) (tag := 1001) rfl W hS) hx178) ?_
   rintro ⟨ad179, hA181, f180⟩
   refine g_v rfl (r_ix Try.underlying59 Try.sizeOf63 rfl hA181 rfl hx178) <| g_v rfl (r_ldA rfl Try.isAgg63 Try.sizeOf63 (fun W hS => (f180 W hS).take 3) rfl) ?_
   refine g_e rfl (e_alloc 100080 Try.zeroValue63) (fun g182 _ => ?_)
   refine g_storeL (tag := 100080) rfl rfl rfl rfl Try.sizeOf63 rfl rfl <| g_nil <| d_then <| c_seq <| c_region <| g_v rfl (r_loadA (tag := 100080) rfl rfl Try.isAgg63 Try.sizeOf63 rfl rfl) <| g_v rfl (r_load (tag := 100030) rfl rfl rfl Try.isAgg3) ?_
   replace hm := bnd hm
   obtain ⟨x183, hx184, hm⟩ := hm
   refine g_cn ⟨w0, M, _, _, φ⟩ (fun _ h => h) Try.call39 rfl rfl (c_net_conn_has x178 p1 _ hx184) (fun _ _ => ?_)
   refine g_nil <| d_then ?_
   refine c_cond rfl (fun h185 => ?_) (fun h185 => ?_)
   ·
    replace hm := ite_t hm h185
    refine ga_start (n := 6) ⟨w0, M, (100080, g182, .cells #[.int .i64 x178.fnumber, .int .i64 x178.fends.a0, .int .i64 x178.fends.a1] 63 (0, 0)) :: (100030, g1, .cells #[.int .i64 p1] 3 (0, 0)) :: H, R, φ⟩ [] #[false, false, false, false, false, false] (fun W h => (((h.dropR (t := 1000) rfl).dropR (t := 1001) rfl).dropH (t := 1000) rfl).phi (fun W hφ => hφ)) mixed rfl rfl <| ga_v (i := 0) (bz 6 1) rfl (by kernel_rfl) (fun _ _ _ _ h => h) rfl (r_move) <| ga_v (i := 1) (bz 6 3) rfl (by kernel_rfl) (fun _ _ _ _ h => h) rfl (r_loadA (tag := 100080) rfl rfl Try.isAgg63 Try.sizeOf63 rfl rfl) <| ga_v (i := 2) (bz 6 7) rfl (by kernel_rfl) (fun _ _ _ _ h => h) rfl (r_loadA (tag := 100080) rfl rfl Try.isAgg63 Try.sizeOf63 rfl rfl) <| ga_r (i := 3) (bz 6 15) rfl (by kernel_rfl) (by decide) rfl (r_load (tag := 100030) rfl rfl rfl Try.isAgg3) ?_
    replace hm := bnd hm
    obtain ⟨x200, hx201, hm⟩ := hm
    refine ga_cn (first := #[]) (i := 4) (bz 6 31) rfl (by kernel_rfl) (by decide)  ⟨w0, M, _, _, φ⟩ (fun _ h => h) Try.call40 rfl rfl rfl (c_net_conn_other x178 p1 _ hx201) (fun _ W _ h => (((h.dropR (t := 1000) rfl).dropR (t := 1001) rfl).dropH (t := 1000) rfl).phi (fun W hφ => hφ)) (fun _ _ => ?_)
    replace hm := bnd hm
    obtain ⟨x202, hx203, hm⟩ := hm
    refine ga_cn (first := #[]) (i := 5) (bz 6 63) rfl (by kernel_rfl) (by decide)  ⟨w0, M, (1000, go0, .cells #[.slice A135 l134.length c136, .slice Ao0_1 o0.fconns.length co0_1, .int .i64 i139, .int .i64 o0.fopens] 61 (0, 0)) :: (100080, g182, .cells #[.int .i64 x178.fnumber, .int .i64 x178.fends.a0, .int .i64 x178.fends.a1] 63 (0, 0)) :: (100030, g1, .cells #[.int .i64 p1] 3 (0, 0)) :: H, (1000, ⟨.slice A135 l134.length c136, 40, 6, l134.length, l134.flatMap GItem.enc⟩) :: (1001, ⟨.slice Ao0_1 o0.fconns.length co0_1, 63, 3, o0.fconns.length, o0.fconns.flatMap Gnet_conn.enc⟩) :: R, φ⟩ (fun W h => (ok_front (t := 1000) (t' := 1000) (ok_frontR (t := 1000) (t' := 1000) (ok_frontR (t := 1001) (t' := 1001) h rfl) rfl) rfl)) Try.call33 rfl rfl rfl (c_net_Net_closed x178 x200 go0 (⟨l134, o0.fconns, i139, o0.fopens⟩ : Gnet_Net) A135 c136 hc136 Ao0_1 co0_1 hco0_1 _ hx203) (fun ⟨A204, c205⟩ W hc205 h => ((((ok_frontR (t := 2000) (t' := 1000) (ok_frontR (t := 1001) (t' := 1001) (ok_front (t := 1000) (t' := 1000) h rfl) rfl) rfl).dropR (t := 1000) rfl).dropR (t := 1001) rfl).dropH (t := 1000) rfl).phi (fun W hφ => hφ)) (fun ⟨A204, c205⟩ hc205 => ?_)
    refine ga_sta _ (fun W h => (ok_frontR (t := 2000) (t' := 1000) (ok_frontR (t := 1001) (t' := 1001) (ok_front (t := 1000) (t' := 1000) h rfl) rfl) rfl)) <| ga_done (by kernel_rfl) <| d_normal_block <| d_then ?_
    refine c_flat [(0, .pointer (some ⟨go0, 0, none⟩)), (3, .pointer (some ⟨g1, 0, none⟩)), (6, .int .i64 i137), (35, .slice Ao0_1 o0.fconns.length co0_1), (36, .int .i64 (o0.fconns.length : Int)), (37, .int .i64 i138)] ⟨rfl, rfl, rfl, rfl, rfl, rfl, trivial⟩ (fun u => ?_)
    refine c_sta ⟨w0, M, (1000, go0, .cells #[.slice A204 x202.fitems.length c205, .slice Ao0_1 o0.fconns.length co0_1, .int .i64 x202.flast, .int .i64 o0.fopens] 61 (0, 0)) :: (100080, g182, .cells #[.int .i64 x178.fnumber, .int .i64 x178.fends.a0, .int .i64 x178.fends.a1] 63 (0, 0)) :: (100030, g1, .cells #[.int .i64 p1] 3 (0, 0)) :: H, (1000, ⟨.slice A204 x202.fitems.length c205, 40, 6, x202.fitems.length, x202.fitems.flatMap GItem.enc⟩) :: (1001, ⟨.slice Ao0_1 o0.fconns.length co0_1, 63, 3, o0.fconns.length, o0.fconns.flatMap Gnet_conn.enc⟩) :: R, φ⟩ (fun _ h => h) <| c_region <| g_v rfl (r_add rfl rfl rfl) <| g_v rfl r_move <| g_nil ?_
    obtain ⟨n207, hn207, hlp⟩ := nx_inl hm hnx2
    exact d_round (n207, x202.fitems, i137, w64 (i138 + 1), x202.flast, A204, c205) ⟨hlp, hc205⟩ hn207 ⟨rfl, rfl, rfl, rfl, rfl, rfl, trivial⟩ (fun W h => (ok_front (t := 100030) (t' := 100030) (ok_front (t := 1000) (t' := 1000) (h.dropH (t := 100080) rfl) rfl) rfl).phi (fun W hφ => hφ))
   ·
    replace hm := ite_f hm (bool_nt h185)
    refine c_skip <| d_normal_block <| d_then <| c_region <| g_v rfl (r_add rfl rfl rfl) <| g_v rfl r_move <| g_nil ?_
    obtain ⟨n208, hn208, hlp⟩ := nx_inl hm hnx2
    exact d_round (n208, l134, i137, w64 (i138 + 1), i139, A135, c136) ⟨hlp, hc136⟩ hn208 ⟨rfl, rfl, rfl, rfl, rfl, rfl, trivial⟩ (fun W h => (h.dropH (t := 100080) rfl).phi (fun W hφ => hφ))
  ·
   replace hm := ite_f hm (of_decide_eq_false h177)
   refine c_exit <| d_exit_then <| d_exit_then <| d_exit_block ?_
   replace hm := nx_out (C := (fun e => m_net_Net_Lose_j1 o0 p1 e.1 e.2.1 e.2.2 = some r)) hm hnx2 hr2
   exact d_round (l134, i137, i139, A135, c136) ⟨hm, hc136⟩ Nat.zero_lt_one ⟨rfl, rfl, rfl, trivial⟩ (fun W h => h.phi (fun W hφ => hφ))
 ·
  unfold m_net_Net_Lose_j1 at hm
  refine d_flat [(0, .pointer (some ⟨go0, 0, none⟩)), (3, .pointer (some ⟨g1, 0, none⟩)), (6, .int .i64 i90)] ⟨rfl, rfl, rfl, trivial⟩ (fun u => ?_)
  refine d_sta ⟨w0, M, (100030, g1, .cells #[.int .i64 p1] 3 (0, 0)) :: (1000, go0, .cells #[.slice A88 l87.length c89, .slice Ao0_1 o0.fconns.length co0_1, .int .i64 i91, .int .i64 o0.fopens] 61 (0, 0)) :: H, (1000, ⟨.slice A88 l87.length c89, 40, 6, l87.length, l87.flatMap GItem.enc⟩) :: (1001, ⟨.slice Ao0_1 o0.fconns.length co0_1, 63, 3, o0.fconns.length, o0.fconns.flatMap Gnet_conn.enc⟩) :: R, φ⟩ (fun _ h => h) <| d_then <| c_seq <| c_region <| g_v rfl r_move <| g_v rfl r_move <| g_v rfl (r_nilck rfl) <| g_v rfl (r_field (n := 1) Try.underlying61 rfl Try.sizeOf59 rfl rfl) <| g_v rfl (r_load (tag := 1000) rfl rfl rfl Try.isAgg59) <| g_v rfl (r_mkf rfl) ?_
  replace hm := bnd hm
  obtain ⟨x92, hx93, hm⟩ := hm
  refine g_cn ⟨w0, M, (1000, g1, .cells #[.int .i64 p1] 3 (0, 0)) :: (1000, go0, .cells #[.slice A88 l87.length c89, .slice Ao0_1 o0.fconns.length co0_1, .int .i64 i91, .int .i64 o0.fopens] 61 (0, 0)) :: H, (1000, ⟨.slice Ao0_1 o0.fconns.length co0_1, 63, 3, o0.fconns.length, o0.fconns.flatMap Gnet_conn.enc⟩) :: (1000, ⟨.slice A88 l87.length c89, 40, 6, l87.length, l87.flatMap GItem.enc⟩) :: R, φ⟩ (fun W h => (ok_front (t := 100030) (t' := 1000) (ok_frontR (t := 1001) (t' := 1000) h rfl) rfl)) Try.call41 rfl rfl (c_slices_DeleteFunc_41 o0.fconns Ao0_1 co0_1 hco0_1 g1 p1 _ hx93) (fun ⟨A94, c95⟩ hc95 => ?_)
  refine g_sta _ (fun W h => (ok_frontR (t := 2000) (t' := 1001) (ok_front (t := 1000) (t' := 100030) h rfl) rfl)) <| g_v rfl (r_nilck rfl) <| g_v rfl (r_field (n := 1) Try.underlying61 rfl Try.sizeOf59 rfl rfl) <| g_storeL (tag := 1000) rfl rfl rfl rfl Try.sizeOf59 rfl rfl <| g_nil <| d_then ?_
  refine c_flat [(6, .int .i64 i90)] ⟨rfl, trivial⟩ (fun u => ?_)
  refine c_sta ⟨w0, M, (100030, g1, .cells #[.int .i64 p1] 3 (0, 0)) :: (1000, go0, .cells #[.slice A88 l87.length c89, .slice A94 x92.length c95, .int .i64 i91, .int .i64 o0.fopens] 61 (0, 0)) :: H, (1001, ⟨.slice A94 x92.length c95, 63, 3, x92.length, x92.flatMap Gnet_conn.enc⟩) :: (1000, ⟨.slice A88 l87.length c89, 40, 6, l87.length, l87.flatMap GItem.enc⟩) :: R, φ⟩ (fun _ h => h) <| c_seq <| c_region <| g_v rfl r_move <| g_v rfl r_assign <| g_nil <| d_then <| c_ret ?_
  replace hm := Option.some.inj hm
  subst hm
  refine d_sta _ (fun W h => ok_frontR (t := 1001) (t' := 2001) h rfl) <| d_sta _ (fun W h => ok_frontR (t := 1000) (t' := 2000) h rfl) ?_
  refine d_retC (A88, c89, A94, c95) Try.results19 ?_ ⟨hc89, hc95⟩ (fun W h => (h.dropH (t := 100030) rfl).phi (fun W hφ => hφ)) (.inr rfl)
  refine res_tmp <| res_nil ?_
  exact rfl
noncomputable def m_ref08_Net_Lose_j2 (o0 : Gref08_Net) (l208 : List GItem) (l211 : List Gref08_Conn) (i214 : Int) (i215 : Int) : Option (Int × Gref08_Net) :=
  some (i214, (⟨l208, l211, i215, o0.fOpens⟩ : Gref08_Net))
noncomputable def m_ref08_Net_Lose_j5 (p1 : Int) (x290 : Gref08_Conn) (l248 : List GItem) (x299 : Gref08_Net) (i256 : Int) (o0 : Gref08_Net) (i254 : Int) (i255 : Int) (i306 : Int) : Option (((List GItem) × (List Gref08_Conn) × Int × Int × Int) ⊕ ((List GItem) × (List Gref08_Conn) × Int × Int)) :=
  (m_ref08_Net_add (⟨0, 4, p1, i306, x290.fN, (⟨#[]⟩ : ByteArray)⟩ : GItem) (⟨l248, x299.fConns, i256, o0.fOpens⟩ : Gref08_Net)).bind fun x307 =>
  some (.inl (x307.fItems, x299.fConns, i254, i255, x307.fLast))
noncomputable def m_ref08_Net_Lose_j4 (i255 : Int) (l248 : List GItem) (l251 : List Gref08_Conn) (i256 : Int) (o0 : Gref08_Net) (x290 : Gref08_Conn) (p1 : Int) (i254 : Int) : Option (((List GItem) × (List Gref08_Conn) × Int × Int × Int) ⊕ ((List GItem) × (List Gref08_Conn) × Int × Int)) :=
  (m_ref08_Net_drop i255 (⟨l248, l251, i256, o0.fOpens⟩ : Gref08_Net)).bind fun (z304 : Gref08_Conn × Gref08_Net) =>
  if x290.fFrom = p1 then
    m_ref08_Net_Lose_j5 p1 x290 l248 z304.2 i256 o0 i254 i255 x290.fTo
  else
    m_ref08_Net_Lose_j5 p1 x290 l248 z304.2 i256 o0 i254 i255 x290.fFrom
noncomputable def m_ref08_Net_Lose_s3 (p1 : Int) (o0 : Gref08_Net) (l248 : List GItem) (l251 : List Gref08_Conn) (i254 : Int) (i255 : Int) (i256 : Int) : Option (((List GItem) × (List Gref08_Conn) × Int × Int × Int) ⊕ ((List GItem) × (List Gref08_Conn) × Int × Int)) :=
  if i255 < (l251.length : Int) then
    (at_ l251 i255).bind fun x290 =>
    if x290.fFrom ≠ p1 then
      if x290.fTo ≠ p1 then
        some (.inl (l248, l251, i254, w64 (i255 + 1), i256))
      else
        m_ref08_Net_Lose_j4 i255 l248 l251 i256 o0 x290 p1 i254
    else
      m_ref08_Net_Lose_j4 i255 l248 l251 i256 o0 x290 p1 i254
  else
    some (.inr (l248, l251, i254, i256))
noncomputable def m_ref08_Net_Lose_j1 (p1 : Int) (o0 : Gref08_Net) (l132 : List GItem) : Option (Int × Gref08_Net) :=
  (loop (fun s => m_ref08_Net_Lose_s3 p1 o0 s.1 s.2.1 s.2.2.1 s.2.2.2.1 s.2.2.2.2) (l132, o0.fConns, w64 ((o0.fItems.length : Int) - (l132.length : Int)), 0, o0.fLast)).bind fun e => m_ref08_Net_Lose_j2 o0 e.1 e.2.1 e.2.2.1 e.2.2.2
noncomputable def m_ref08_Net_Lose_s6 (o0 : Gref08_Net) (p1 : Int) (l342 : List GItem) (i345 : Int) : Option (((List GItem) × Int) ⊕ (List GItem)) :=
  if i345 < (o0.fItems.length : Int) then
    (at_ o0.fItems i345).bind fun x373 =>
    if x373.fFrom ≠ p1 then
      (at_ o0.fItems i345).bind fun x379 =>
      if x379.fTo ≠ p1 then
        (at_ o0.fItems i345).bind fun x385 =>
        (app 56 l342 [x385]).bind fun l390 =>
        some (.inl (l390, w64 (i345 + 1)))
      else
        some (.inl (l342, w64 (i345 + 1)))
    else
      some (.inl (l342, w64 (i345 + 1)))
  else
    some (.inr l342)
noncomputable def m_ref08_Net_Lose (p1 : Int) (o0 : Gref08_Net) : Option (Int × Gref08_Net) :=
  (loop (fun s => m_ref08_Net_Lose_s6 o0 p1 s.1 s.2) (([] : List GItem), 0)).bind fun e => m_ref08_Net_Lose_j1 p1 o0 e
theorem c_ref08_Net_Lose {w0 : World} {M : Nat → Prop} {H : List (Nat × Nat × Obj)} {R : List (Nat × Row)} {φ : World → Prop} (p1 : Int) (go0 : Nat) (o0 : Gref08_Net) (Ao0_0 : Option Addr) (co0_0 : Nat) (hco0_0 : o0.fItems.length ≤ co0_0) (Ao0_1 : Option Addr) (co0_1 : Nat) (hco0_1 : o0.fConns.length ≤ co0_1) (r : Int × Gref08_Net) (hm : m_ref08_Net_Lose p1 o0 = some r) :
    Cn Try.prog 46 #[.pointer (some ⟨go0, 0, none⟩), .int .i64 p1] ⟨w0, M, (1000, go0, .cells #[.slice Ao0_0 o0.fItems.length co0_0, .slice Ao0_1 o0.fConns.length co0_1, .int .i64 o0.fLast, .int .i64 o0.fOpens] 55 (0, 0)) :: H, (1000, ⟨.slice Ao0_0 o0.fItems.length co0_0, 40, 6, o0.fItems.length, o0.fItems.flatMap GItem.enc⟩) :: (1001, ⟨.slice Ao0_1 o0.fConns.length co0_1, 77, 3, o0.fConns.length, o0.fConns.flatMap Gref08_Conn.enc⟩) :: R, φ⟩ (fun x : Option Addr × Nat × Option Addr × Nat => .int .i64 r.1) (fun x => r.2.fItems.length ≤ x.2.1 ∧ r.2.fConns.length ≤ x.2.2.2) (fun x => ⟨w0, M, (1000, go0, .cells #[.slice x.1 r.2.fItems.length x.2.1, .slice x.2.2.1 r.2.fConns.length x.2.2.2, .int .i64 r.2.fLast, .int .i64 o0.fOpens] 55 (0, 0)) :: H, (2000, ⟨.slice x.1 r.2.fItems.length x.2.1, 40, 6, r.2.fItems.length, r.2.fItems.flatMap GItem.enc⟩) :: (2001, ⟨.slice x.2.2.1 r.2.fConns.length x.2.2.2, 77, 3, r.2.fConns.length, r.2.fConns.flatMap Gref08_Conn.enc⟩) :: R, φ⟩) := by
 unfold m_ref08_Net_Lose at hm
 refine cn_intro (fn := Try.f46) (N := 109) Try.func46 rfl Try.ntmps46 rfl <| c_seq <| c_region <| g_v rfl r_assign <| g_nil <| d_then <| c_seq <| c_region <| g_v rfl r_assign <| g_nil ?_
 refine d_then <| c_seq <| c_seq <| c_region <| g_v rfl r_assign <| g_nil <| d_then <| c_sta _ (fun W h => nilR h 13 40 6) ?_
 refine c_cut (ι := (List GItem) × Option Addr × Nat) [0, 1, 5] (fun ⟨l132, A133, c134⟩ => [(5, .slice A133 l132.length c134)]) (fun ⟨l132, A133, c134⟩ => ⟨w0, M, (1000, go0, .cells #[.slice Ao0_0 o0.fItems.length co0_0, .slice Ao0_1 o0.fConns.length co0_1, .int .i64 o0.fLast, .int .i64 o0.fOpens] 55 (0, 0)) :: H, (13, ⟨.slice A133 l132.length c134, 40, 6, l132.length, l132.flatMap GItem.enc⟩) :: (1000, ⟨.slice Ao0_0 o0.fItems.length co0_0, 40, 6, o0.fItems.length, o0.fItems.flatMap GItem.enc⟩) :: (1001, ⟨.slice Ao0_1 o0.fConns.length co0_1, 77, 3, o0.fConns.length, o0.fConns.flatMap Gref08_Conn.enc⟩) :: R, φ⟩) (fun ⟨l132, A133, c134⟩ => m_ref08_Net_Lose_j1 p1 o0 l132 = some r ∧ l132.length ≤ c134) ?_ (fun ⟨l132, A133, c134⟩ u ⟨hm, hc134⟩ => ?_)
 ·
  refine c_block ?_
  replace hm := bnd hm
  obtain ⟨out6, hl6, hr6⟩ := hm
  obtain ⟨n371', hl6⟩ := loop_lp hl6
  refine c_loopU (ι := Nat × (List GItem) × Int × Option Addr × Nat) [0, 1, 5, 6] (fun ⟨n371, l342, i345, A343, c344⟩ => [(5, .slice A343 l342.length c344), (6, .int .i64 i345)]) (fun ⟨n371, l342, i345, A343, c344⟩ => ⟨w0, M, (1000, go0, .cells #[.slice Ao0_0 o0.fItems.length co0_0, .slice Ao0_1 o0.fConns.length co0_1, .int .i64 o0.fLast, .int .i64 o0.fOpens] 55 (0, 0)) :: H, (13, ⟨.slice A343 l342.length c344, 40, 6, l342.length, l342.flatMap GItem.enc⟩) :: (1000, ⟨.slice Ao0_0 o0.fItems.length co0_0, 40, 6, o0.fItems.length, o0.fItems.flatMap GItem.enc⟩) :: (1001, ⟨.slice Ao0_1 o0.fConns.length co0_1, 77, 3, o0.fConns.length, o0.fConns.flatMap Gref08_Conn.enc⟩) :: R, φ⟩) (fun ⟨n371, l342, i345, A343, c344⟩ => Lp (fun s => m_ref08_Net_Lose_s6 o0 p1 s.1 s.2) n371 (l342, i345) out6 ∧ l342.length ≤ c344) (fun ⟨n371, l342, i345, A343, c344⟩ => n371) (n371', ([] : List GItem), 0, none, 0) ⟨hl6, (Nat.le_refl 0)⟩ ⟨rfl, rfl, rfl, rfl, trivial⟩ (fun W h => h.phi (fun W hφ => hφ)) (fun ⟨n371, l342, i345, A343, c344⟩ u ⟨hlp, hc344⟩ => ?_)
  obtain ⟨o6, hm, hnx6⟩ := lp_step hlp
  clear hlp
  replace hm : m_ref08_Net_Lose_s6 o0 p1 l342 i345 = some o6 := hm
  unfold m_ref08_Net_Lose_s6 at hm
  refine c_flat [(0, .pointer (some ⟨go0, 0, none⟩)), (1, .int .i64 p1), (5, .slice A343 l342.length c344), (6, .int .i64 i345)] ⟨rfl, rfl, rfl, rfl, trivial⟩ (fun u => ?_)
  refine c_sta ⟨w0, M, (1000, go0, .cells #[.slice Ao0_0 o0.fItems.length co0_0, .slice Ao0_1 o0.fConns.length co0_1, .int .i64 o0.fLast, .int .i64 o0.fOpens] 55 (0, 0)) :: H, (13, ⟨.slice A343 l342.length c344, 40, 6, l342.length, l342.flatMap GItem.enc⟩) :: (1000, ⟨.slice Ao0_0 o0.fItems.length co0_0, 40, 6, o0.fItems.length, o0.fItems.flatMap GItem.enc⟩) :: (1001, ⟨.slice Ao0_1 o0.fConns.length co0_1, 77, 3, o0.fConns.length, o0.fConns.flatMap Gref08_Conn.enc⟩) :: R, φ⟩ (fun _ h => h) <| c_seq <| c_seq <| c_region <| g_v rfl r_move <| g_v rfl r_move <| g_v rfl (r_nilck rfl) <| g_v rfl (r_field (n := 0) Try.underlying55 rfl Try.sizeOf52 rfl rfl) <| g_v rfl (r_load (tag := 1000) rfl rfl rfl Try.isAgg52) <| g_v rfl (r_lenL Try.underlying52 rfl) ?_
  refine g_v rfl (r_lss rfl rfl) <| g_nil <| d_then ?_
  refine c_cond rfl (fun h372 => ?_) (fun h372 => ?_)
  ·
   replace hm := ite_t hm (of_decide_eq_true h372)
   refine c_skip <| d_then <| c_seq <| c_block <| c_seq <| c_region <| g_v rfl r_move <| g_v rfl (r_nilck rfl) <| g_v rfl (r_field (n := 0) Try.underlying55 rfl Try.sizeOf52 rfl rfl) <| g_v rfl (r_load (tag := 1000) rfl rfl rfl Try.isAgg52) ?_
   refine g_v rfl r_move ?_
   replace hm := bnd hm
   obtain ⟨x373, hx373, hm⟩ := hm
   refine g_know _ (fun W hS => cl_at (p := (Sta.ok ⟨w0, M, (1000, go0, .cells #[.slice Ao0_0 o0.fItems.length co0_0, .slice Ao0_1 o0.fConns.length co0_1, .int .i64 o0.fLast, .int .i64 o0.fOpens] 55 (0, 0)) :: H, (13, ⟨.slice A343 l342.length c344, 40, 6, l342.length, l342.flatMap GItem.enc⟩) :: (1000, ⟨.slice Ao0_0 o0.fItems.length co0_0, 40, 6, o0.fItems.length, o0.fItems.flatMap GItem.enc⟩) :: (1001, ⟨.slice Ao0_1 o0.fConns.length co0_1, 77, 3, o0.fConns.length, o0.fConns.flatMap Gref08_Conn.enc⟩) :: R, φ⟩)) (sz := 6) (fun _ => rfl) (by decide) hS (fun W hS => rowCl (S := ⟨w0, M, (1000, go0, .cells #[.slice Ao0_0 o0.fItems.length co0_0, .slice Ao0_1 o0.fConns.length co0_1, .int .i64 o0.fLast, .int .i64 o0.fOpens] 55 (0, 0)) :: H, (13, ⟨.slice A343 l342.length c344, 40, 6, l342.length, l342.flatMap GItem.enc⟩) :: (1000, ⟨.slice Ao0_0 o0.fItems.length co0_0, 40, 6, o0.fItems.length, o0.fItems.flatMap GItem.enc⟩) :: (1001, ⟨.slice Ao0_1 o0.fConns.length co0_1, 77, 3, o0.fConns.length, o0.fConns.flatMap Gref08_Conn.enc⟩) :: R, φ⟩) (tag := 1000) rfl W hS) hx373) ?_
   rintro ⟨ad374, hA376, f375⟩
   refine g_v rfl (r_ix Try.underlying52 Try.sizeOf40 rfl hA376 rfl hx373) ?_
   have f377 := fun (W : World) (h : (Sta.ok ⟨w0, M, (1000, go0, .cells #[.slice Ao0_0 o0.fItems.length co0_0, .slice Ao0_1 o0.fConns.length co0_1, .int .i64 o0.fLast, .int .i64 o0.fOpens] 55 (0, 0)) :: H, (13, ⟨.slice A343 l342.length c344, 40, 6, l342.length, l342.flatMap GItem.enc⟩) :: (1000, ⟨.slice Ao0_0 o0.fItems.length co0_0, 40, 6, o0.fItems.length, o0.fItems.flatMap GItem.enc⟩) :: (1001, ⟨.slice Ao0_1 o0.fConns.length co0_1, 77, 3, o0.fConns.length, o0.fConns.flatMap Gref08_Conn.enc⟩) :: R, φ⟩) W) => Cl.drop (f375 W h) 2
   refine g_v rfl (r_fieldF Try.underlying40 rfl Try.sizeOf3 rfl) <| g_v rfl (r_ld rfl Try.isAgg3 (fun W hS => Cl.head (f377 W hS))) <| g_v rfl r_move <| g_v rfl (r_neq rfl rfl) <| g_v rfl r_move ?_
   refine g_if rfl rfl rfl rfl rfl (fun h378 => ?_) (fun h378 => ?_)
   ·
    replace hm := ite_t hm (of_decide_eq_true h378)
    refine g_v rfl r_move <| g_do rfl rfl rfl rfl rfl h378 <| g_v rfl (r_nilck rfl) <| g_do rfl rfl rfl rfl rfl h378 <| g_v rfl (r_field (n := 0) Try.underlying55 rfl Try.sizeOf52 rfl rfl) <| g_do rfl rfl rfl rfl rfl h378 <| g_v rfl (r_load (tag := 1000) rfl rfl rfl Try.isAgg52) <| g_do rfl rfl rfl rfl rfl h378 <| g_v rfl r_move <| g_do rfl rfl rfl rfl rfl h378 ?_
    replace hm := bnd hm
    obtain ⟨x379, hx379, hm⟩ := hm
    refine g_know _ (fun W hS => cl_at (p := (Sta.ok ⟨w0, M, (1000, go0, .cells #[.slice Ao0_0 o0.fItems.length co0_0, .slice Ao0_1 o0.fConns.length co0_1, .int .i64 o0.fLast, .int .i64 o0.fOpens] 55 (0, 0)) :: H, (13, ⟨.slice A343 l342.length c344, 40, 6, l342.length, l342.flatMap GItem.enc⟩) :: (1000, ⟨.slice Ao0_0 o0.fItems.length co0_0, 40, 6, o0.fItems.length, o0.fItems.flatMap GItem.enc⟩) :: (1001, ⟨.slice Ao0_1 o0.fConns.length co0_1, 77, 3, o0.fConns.length, o0.fConns.flatMap Gref08_Conn.enc⟩) :: R, φ⟩)) (sz := 6) (fun _ => rfl) (by decide) hS (fun W hS => rowCl (S := ⟨w0, M, (1000, go0, .cells #[.slice Ao0_0 o0.fItems.length co0_0, .slice Ao0_1 o0.fConns.length co0_1, .int .i64 o0.fLast, .int .i64 o0.fOpens] 55 (0, 0)) :: H, (13, ⟨.slice A343 l342.length c344, 40, 6, l342.length, l342.flatMap GItem.enc⟩) :: (1000, ⟨.slice Ao0_0 o0.fItems.length co0_0, 40, 6, o0.fItems.length, o0.fItems.flatMap GItem.enc⟩) :: (1001, ⟨.slice Ao0_1 o0.fConns.length co0_1, 77, 3, o0.fConns.length, o0.fConns.flatMap Gref08_Conn.enc⟩) :: R, φ⟩) (tag := 1000) rfl W hS) hx379) ?_
    rintro ⟨ad380, hA382, f381⟩
    refine g_v rfl (r_ix Try.underlying52 Try.sizeOf40 rfl hA382 rfl hx379) <| g_do rfl rfl rfl rfl rfl h378 ?_
    have f383 := fun (W : World) (h : (Sta.ok ⟨w0, M, (1000, go0, .cells #[.slice Ao0_0 o0.fItems.length co0_0, .slice Ao0_1 o0.fConns.length co0_1, .int .i64 o0.fLast, .int .i64 o0.fOpens] 55 (0, 0)) :: H, (13, ⟨.slice A343 l342.length c344, 40, 6, l342.length, l342.flatMap GItem.enc⟩) :: (1000, ⟨.slice Ao0_0 o0.fItems.length co0_0, 40, 6, o0.fItems.length, o0.fItems.flatMap GItem.enc⟩) :: (1001, ⟨.slice Ao0_1 o0.fConns.length co0_1, 77, 3, o0.fConns.length, o0.fConns.flatMap Gref08_Conn.enc⟩) :: R, φ⟩) W) => Cl.drop (f381 W h) 3
    refine g_v rfl (r_fieldF Try.underlying40 rfl Try.sizeOf3 rfl) <| g_do rfl rfl rfl rfl rfl h378 <| g_v rfl (r_ld rfl Try.isAgg3 (fun W hS => Cl.head (f383 W hS))) <| g_do rfl rfl rfl rfl rfl h378 <| g_v rfl r_move <| g_do rfl rfl rfl rfl rfl h378 <| g_v rfl (r_neq rfl rfl) <| g_v rfl (r_pick1 rfl h378) <| g_nil <| d_then ?_
    refine c_flat [(0, .pointer (some ⟨go0, 0, none⟩)), (1, .int .i64 p1), (5, .slice A343 l342.length c344), (6, .int .i64 i345), (41, .bool (decide (x379.fTo ≠ p1)))] ⟨rfl, rfl, rfl, rfl, rfl, trivial⟩ (fun u => ?_)
    refine c_cond rfl (fun h384 => ?_) (fun h384 => ?_)
    ·
     replace hm := ite_t hm (of_decide_eq_true h384)
     refine c_region <| g_v rfl r_move <| g_v rfl r_move <| g_v rfl (r_nilck rfl) <| g_v rfl (r_field (n := 0) Try.underlying55 rfl Try.sizeOf52 rfl rfl) <| g_v rfl (r_load (tag := 1000) rfl rfl rfl Try.isAgg52) <| g_v rfl r_move ?_
     replace hm := bnd hm
     obtain ⟨x385, hx385, hm⟩ := hm
     refine g_know _ (fun W hS => cl_at (p := (Sta.ok ⟨w0, M, (1000, go0, .cells #[.slice Ao0_0 o0.fItems.length co0_0, .slice Ao0_1 o0.fConns.length co0_1, .int .i64 o0.fLast, .int .i64 o0.fOpens] 55 (0, 0)) :: H, (13, ⟨.slice A343 l342.length c344, 40, 6, l342.length, l342.flatMap GItem.enc⟩) :: (1000, ⟨.slice Ao0_0 o0.fItems.length co0_0, 40, 6, o0.fItems.length, o0.fItems.flatMap GItem.enc⟩) :: (1001, ⟨.slice Ao0_1 o0.fConns.length co0_1, 77, 3, o0.fConns.length, o0.fConns.flatMap Gref08_Conn.enc⟩) :: R, φ⟩)) (sz := 6) (fun _ => rfl) (by decide) hS (fun W hS => rowCl (S := ⟨w0, M, (1000, go0, .cells #[.slice Ao0_0 o0.fItems.length co0_0, .slice Ao0_1 o0.fConns.length co0_1, .int .i64 o0.fLast, .int .i64 o0.fOpens] 55 (0, 0)) :: H, (13, ⟨.slice A343 l342.length c344, 40, 6, l342.length, l342.flatMap GItem.enc⟩) :: (1000, ⟨.slice Ao0_0 o0.fItems.length co0_0, 40, 6, o0.fItems.length, o0.fItems.flatMap GItem.enc⟩) :: (1001, ⟨.slice Ao0_1 o0.fConns.length co0_1, 77, 3, o0.fConns.length, o0.fConns.flatMap Gref08_Conn.enc⟩) :: R, φ⟩) (tag := 1000) rfl W hS) hx385) ?_
     rintro ⟨ad386, hA388, f387⟩
     refine g_v rfl (r_ix Try.underlying52 Try.sizeOf40 rfl hA388 rfl hx385) <| g_v rfl (r_ldA rfl Try.isAgg40 Try.sizeOf40 (fun W hS => (f387 W hS).take 6) rfl) ?_
     refine g_e rfl (e_lit (tag := 100500) (l := [x385]) (enc := GItem.enc) (sz := 6) rfl Try.underlying52 (lit40_2 _ _ _ _ _ _) rfl rfl (fun _ => rfl)) (fun g389 _ => ?_)
     replace hm := bnd hm
     obtain ⟨l390, hl390, hm⟩ := hm
     refine g_e rfl (e_appR (enc := GItem.enc) (l := l342) (l1 := [x385]) (l2 := l390) (tag := 13) Try.underlying52 inf40_3 rfl (by decide) (by decide) (fun _ => rfl) (fun _ => rfl) rfl hc344 rfl rfl (fun W hS => rowCl (tag := 100500) rfl W hS) hl390) (fun ⟨A391, c392⟩ hc392 => ?_)
     refine g_v rfl r_assign <| g_nil <| d_normal_block <| d_then ?_
     refine c_flat [(0, .pointer (some ⟨go0, 0, none⟩)), (1, .int .i64 p1), (5, .slice A391 l390.length c392), (6, .int .i64 i345)] ⟨rfl, rfl, rfl, rfl, trivial⟩ (fun u => ?_)
     refine c_sta ⟨w0, M, (1000, go0, .cells #[.slice Ao0_0 o0.fItems.length co0_0, .slice Ao0_1 o0.fConns.length co0_1, .int .i64 o0.fLast, .int .i64 o0.fOpens] 55 (0, 0)) :: H, (100500, ⟨.slice (some ⟨g389, 0, none⟩) [x385].length 1, 40, 6, [x385].length, [x385].flatMap GItem.enc⟩) :: (13, ⟨.slice A391 l390.length c392, 40, 6, l390.length, l390.flatMap GItem.enc⟩) :: (1000, ⟨.slice Ao0_0 o0.fItems.length co0_0, 40, 6, o0.fItems.length, o0.fItems.flatMap GItem.enc⟩) :: (1001, ⟨.slice Ao0_1 o0.fConns.length co0_1, 77, 3, o0.fConns.length, o0.fConns.flatMap Gref08_Conn.enc⟩) :: R, φ⟩ (fun _ h => h) <| c_region <| g_v rfl r_move <| g_v rfl (r_add rfl rfl rfl) <| g_v rfl r_assign <| g_nil ?_
     obtain ⟨n393, hn393, hlp⟩ := nx_inl hm hnx6
     exact d_round (n393, l390, w64 (i345 + 1), A391, c392) ⟨hlp, hc392⟩ hn393 ⟨rfl, rfl, rfl, rfl, trivial⟩ (fun W h => (h.dropR (t := 100500) rfl).phi (fun W hφ => hφ))
    ·
     replace hm := ite_f hm (of_decide_eq_false h384)
     refine c_skip <| d_normal_block <| d_then <| c_region <| g_v rfl r_move <| g_v rfl (r_add rfl rfl rfl) <| g_v rfl r_assign <| g_nil ?_
     obtain ⟨n394, hn394, hlp⟩ := nx_inl hm hnx6
     exact d_round (n394, l342, w64 (i345 + 1), A343, c344) ⟨hlp, hc344⟩ hn394 ⟨rfl, rfl, rfl, rfl, trivial⟩ (fun W h => h.phi (fun W hφ => hφ))
   ·
    replace hm := ite_f hm (of_decide_eq_false h378)
    refine g_no rfl rfl rfl rfl rfl h378 <| g_no rfl rfl rfl rfl rfl h378 <| g_no rfl rfl rfl rfl rfl h378 <| g_no rfl rfl rfl rfl rfl h378 <| g_no rfl rfl rfl rfl rfl h378 <| g_no rfl rfl rfl rfl rfl h378 <| g_no rfl rfl rfl rfl rfl h378 <| g_no rfl rfl rfl rfl rfl h378 <| g_no rfl rfl rfl rfl rfl h378 <| g_v rfl (r_pick0 rfl h378) ?_
    refine g_nil <| d_then ?_
    refine c_flat [(0, .pointer (some ⟨go0, 0, none⟩)), (1, .int .i64 p1), (5, .slice A343 l342.length c344), (6, .int .i64 i345), (41, .bool false)] ⟨rfl, rfl, rfl, rfl, rfl, trivial⟩ (fun u => ?_)
    refine c_cond0 rfl rfl <| c_skip <| d_normal_block <| d_then <| c_region <| g_v rfl r_move <| g_v rfl (r_add rfl rfl rfl) <| g_v rfl r_assign <| g_nil ?_
    obtain ⟨n395, hn395, hlp⟩ := nx_inl hm hnx6
    exact d_round (n395, l342, w64 (i345 + 1), A343, c344) ⟨hlp, hc344⟩ hn395 ⟨rfl, rfl, rfl, rfl, trivial⟩ (fun W h => h.phi (fun W hφ => hφ))
  ·
   replace hm := ite_f hm (of_decide_eq_false h372)
   refine c_exit <| d_exit_then <| d_exit_then <| d_exit_block ?_
   replace hm := nx_out (C := (fun e => m_ref08_Net_Lose_j1 p1 o0 e = some r)) hm hnx6 hr6
   exact d_round (l342, A343, c344) ⟨hm, hc344⟩ Nat.zero_lt_one ⟨rfl, rfl, rfl, trivial⟩ (fun W h => h.phi (fun W hφ => hφ))
 ·
  unfold m_ref08_Net_Lose_j1 at hm
  refine d_flat [(0, .pointer (some ⟨go0, 0, none⟩)), (1, .int .i64 p1), (5, .slice A133 l132.length c134)] ⟨rfl, rfl, rfl, trivial⟩ (fun u => ?_)
  refine d_sta ⟨w0, M, (1000, go0, .cells #[.slice Ao0_0 o0.fItems.length co0_0, .slice Ao0_1 o0.fConns.length co0_1, .int .i64 o0.fLast, .int .i64 o0.fOpens] 55 (0, 0)) :: H, (13, ⟨.slice A133 l132.length c134, 40, 6, l132.length, l132.flatMap GItem.enc⟩) :: (1000, ⟨.slice Ao0_0 o0.fItems.length co0_0, 40, 6, o0.fItems.length, o0.fItems.flatMap GItem.enc⟩) :: (1001, ⟨.slice Ao0_1 o0.fConns.length co0_1, 77, 3, o0.fConns.length, o0.fConns.flatMap Gref08_Conn.enc⟩) :: R, φ⟩ (fun _ h => h) <| d_then <| c_seq <| c_region <| g_v rfl r_move <| g_v rfl (r_nilck rfl) <| g_v rfl (r_field (n := 0) Try.underlying55 rfl Try.sizeOf52 rfl rfl) <| g_v rfl (r_load (tag := 1000) rfl rfl rfl Try.isAgg52) <| g_v rfl (r_lenL Try.underlying52 rfl) <| g_v rfl r_move ?_
  refine g_v rfl (r_lenL Try.underlying52 rfl) <| g_v rfl (r_sub rfl rfl rfl) <| g_v rfl r_assign <| g_nil <| d_then ?_
  refine c_flat [(0, .pointer (some ⟨go0, 0, none⟩)), (1, .int .i64 p1), (5, .slice A133 l132.length c134), (7, .int .i64 (w64 ((o0.fItems.length : Int) - (l132.length : Int))))] ⟨rfl, rfl, rfl, rfl, trivial⟩ (fun u => ?_)
  refine c_seq <| c_region <| g_v rfl r_move <| g_v rfl r_move <| g_v rfl (r_nilck rfl) <| g_v rfl (r_field (n := 0) Try.underlying55 rfl Try.sizeOf52 rfl rfl) <| g_storeL (tag := 1000) rfl rfl rfl rfl Try.sizeOf52 rfl rfl <| g_nil <| d_then <| c_seq ?_
  refine c_seq <| c_region <| g_v rfl r_assign <| g_nil <| d_then ?_
  refine c_cut (ι := (List GItem) × (List Gref08_Conn) × Int × Int × Option Addr × Nat × Option Addr × Nat) [7] (fun ⟨l208, l211, i214, i215, A209, c210, A212, c213⟩ => [(7, .int .i64 i214)]) (fun ⟨l208, l211, i214, i215, A209, c210, A212, c213⟩ => ⟨w0, M, (1000, go0, .cells #[.slice A209 l208.length c210, .slice A212 l211.length c213, .int .i64 i215, .int .i64 o0.fOpens] 55 (0, 0)) :: H, (13, ⟨.slice A209 l208.length c210, 40, 6, l208.length, l208.flatMap GItem.enc⟩) :: (1001, ⟨.slice A212 l211.length c213, 77, 3, l211.length, l211.flatMap Gref08_Conn.enc⟩) :: R, φ⟩) (fun ⟨l208, l211, i214, i215, A209, c210, A212, c213⟩ => m_ref08_Net_Lose_j2 o0 l208 l211 i214 i215 = some r ∧ l208.length ≤ c210 ∧ l211.length ≤ c213) ?_ (fun ⟨l208, l211, i214, i215, A209, c210, A212, c213⟩ u ⟨hm, hc210, hc213⟩ => ?_)
  ·
   refine c_block ?_
   replace hm := bnd hm
   obtain ⟨out3, hl3, hr3⟩ := hm
   obtain ⟨n288', hl3⟩ := loop_lp hl3
   refine c_loopU (ι := Nat × (List GItem) × (List Gref08_Conn) × Int × Int × Int × Option Addr × Nat × Option Addr × Nat) [0, 1, 7, 8] (fun ⟨n288, l248, l251, i254, i255, i256, A249, c250, A252, c253⟩ => [(7, .int .i64 i254), (8, .int .i64 i255)]) (fun ⟨n288, l248, l251, i254, i255, i256, A249, c250, A252, c253⟩ => ⟨w0, M, (1000, go0, .cells #[.slice A249 l248.length c250, .slice A252 l251.length c253, .int .i64 i256, .int .i64 o0.fOpens] 55 (0, 0)) :: H, (13, ⟨.slice A249 l248.length c250, 40, 6, l248.length, l248.flatMap GItem.enc⟩) :: (1001, ⟨.slice A252 l251.length c253, 77, 3, l251.length, l251.flatMap Gref08_Conn.enc⟩) :: R, φ⟩) (fun ⟨n288, l248, l251, i254, i255, i256, A249, c250, A252, c253⟩ => Lp (fun s => m_ref08_Net_Lose_s3 p1 o0 s.1 s.2.1 s.2.2.1 s.2.2.2.1 s.2.2.2.2) n288 (l248, l251, i254, i255, i256) out3 ∧ l248.length ≤ c250 ∧ l251.length ≤ c253) (fun ⟨n288, l248, l251, i254, i255, i256, A249, c250, A252, c253⟩ => n288) (n288', l132, o0.fConns, w64 ((o0.fItems.length : Int) - (l132.length : Int)), 0, o0.fLast, A133, c134, Ao0_1, co0_1) ⟨hl3, hc134, hco0_1⟩ ⟨rfl, rfl, rfl, rfl, trivial⟩ (fun W h => (h.dropR (t := 1000) rfl).phi (fun W hφ => hφ)) (fun ⟨n288, l248, l251, i254, i255, i256, A249, c250, A252, c253⟩ u ⟨hlp, hc250, hc253⟩ => ?_)
   obtain ⟨o3, hm, hnx3⟩ := lp_step hlp
   clear hlp
   replace hm : m_ref08_Net_Lose_s3 p1 o0 l248 l251 i254 i255 i256 = some o3 := hm
   unfold m_ref08_Net_Lose_s3 at hm
   refine c_flat [(0, .pointer (some ⟨go0, 0, none⟩)), (1, .int .i64 p1), (7, .int .i64 i254), (8, .int .i64 i255)] ⟨rfl, rfl, rfl, rfl, trivial⟩ (fun u => ?_)
   refine c_sta ⟨w0, M, (1000, go0, .cells #[.slice A249 l248.length c250, .slice A252 l251.length c253, .int .i64 i256, .int .i64 o0.fOpens] 55 (0, 0)) :: H, (13, ⟨.slice A249 l248.length c250, 40, 6, l248.length, l248.flatMap GItem.enc⟩) :: (1001, ⟨.slice A252 l251.length c253, 77, 3, l251.length, l251.flatMap Gref08_Conn.enc⟩) :: R, φ⟩ (fun _ h => h) <| c_seq <| c_seq <| c_region <| g_v rfl r_move <| g_v rfl r_move <| g_v rfl (r_nilck rfl) <| g_v rfl (r_field (n := 1) Try.underlying55 rfl Try.sizeOf53 rfl rfl) <| g_v rfl (r_load (tag := 1000) rfl rfl rfl Try.isAgg53) <| g_v rfl (r_lenL Try.underlying53 rfl) ?_
   refine g_v rfl (r_lss rfl rfl) <| g_nil <| d_then ?_
   refine c_cond rfl (fun h289 => ?_) (fun h289 => ?_)
   ·
    replace hm := ite_t hm (of_decide_eq_true h289)
    refine c_skip <| d_then <| c_block <| c_seq <| c_region <| g_v rfl r_move <| g_v rfl (r_nilck rfl) <| g_v rfl (r_field (n := 1) Try.underlying55 rfl Try.sizeOf53 rfl rfl) <| g_v rfl (r_load (tag := 1000) rfl rfl rfl Try.isAgg53) <| g_v rfl r_move ?_
    replace hm := bnd hm
    obtain ⟨x290, hx290, hm⟩ := hm
    refine g_know _ (fun W hS => cl_at (p := (Sta.ok ⟨w0, M, (1000, go0, .cells #[.slice A249 l248.length c250, .slice A252 l251.length c253, .int .i64 i256, .int .i64 o0.fOpens] 55 (0, 0)) :: H, (13, ⟨.slice A249 l248.length c250, 40, 6, l248.length, l248.flatMap GItem.enc⟩) :: (1001, ⟨.slice A252 l251.length c253, 77, 3, l251.length, l251.flatMap Gref08_Conn.enc⟩) :: R, φ⟩)) (sz := 3) (fun _ => rfl) (by decide) hS (fun W hS => rowCl (S := ⟨w0, M, (1000, go0, .cells #[.slice A249 l248.length c250, .slice A252 l251.length c253, .int .i64 i256, .int .i64 o0.fOpens] 55 (0, 0)) :: H, (13, ⟨.slice A249 l248.length c250, 40, 6, l248.length, l248.flatMap GItem.enc⟩) :: (1001, ⟨.slice A252 l251.length c253, 77, 3, l251.length, l251.flatMap Gref08_Conn.enc⟩) :: R, φ⟩) (tag := 1001) rfl W hS) hx290) ?_
    rintro ⟨ad291, hA293, f292⟩
    refine g_v rfl (r_ix Try.underlying53 Try.sizeOf77 rfl hA293 rfl hx290) <| g_v rfl (r_ldA rfl Try.isAgg77 Try.sizeOf77 (fun W hS => (f292 W hS).take 3) rfl) ?_
    refine g_e rfl (e_alloc 100090 Try.zeroValue77) (fun g294 _ => ?_)
    refine g_storeL (tag := 100090) rfl rfl rfl rfl Try.sizeOf77 rfl rfl <| g_nil <| d_then ?_
    refine c_flat [(0, .pointer (some ⟨go0, 0, none⟩)), (1, .int .i64 p1), (7, .int .i64 i254), (8, .int .i64 i255), (9, .pointer (some ⟨g294, 0, none⟩))] ⟨rfl, rfl, rfl, rfl, rfl, trivial⟩ (fun u => ?_)
    refine c_sta ⟨w0, M, (100090, g294, .cells #[.int .i64 x290.fN, .int .i64 x290.fFrom, .int .i64 x290.fTo] 77 (0, 0)) :: (1000, go0, .cells #[.slice A249 l248.length c250, .slice A252 l251.length c253, .int .i64 i256, .int .i64 o0.fOpens] 55 (0, 0)) :: H, (13, ⟨.slice A249 l248.length c250, 40, 6, l248.length, l248.flatMap GItem.enc⟩) :: (1001, ⟨.slice A252 l251.length c253, 77, 3, l251.length, l251.flatMap Gref08_Conn.enc⟩) :: R, φ⟩ (fun _ h => h) <| c_seq ?_
    refine c_cut (ι := Unit) [0, 1, 7, 8, 9] (fun _ => []) (fun _ => ⟨w0, M, (100090, g294, .cells #[.int .i64 x290.fN, .int .i64 x290.fFrom, .int .i64 x290.fTo] 77 (0, 0)) :: (1000, go0, .cells #[.slice A249 l248.length c250, .slice A252 l251.length c253, .int .i64 i256, .int .i64 o0.fOpens] 55 (0, 0)) :: H, (13, ⟨.slice A249 l248.length c250, 40, 6, l248.length, l248.flatMap GItem.enc⟩) :: (1001, ⟨.slice A252 l251.length c253, 77, 3, l251.length, l251.flatMap Gref08_Conn.enc⟩) :: R, φ⟩) (fun _ => m_ref08_Net_Lose_j4 i255 l248 l251 i256 o0 x290 p1 i254 = some o3) ?_ (fun _ u hm => ?_)
    ·
     refine c_seq <| c_region <| g_v rfl (r_field (n := 1) Try.underlying77 rfl Try.sizeOf3 rfl rfl) <| g_v rfl (r_load (tag := 100090) rfl rfl rfl Try.isAgg3) <| g_v rfl r_move <| g_v rfl (r_neq rfl rfl) <| g_v rfl r_move ?_
     refine g_if rfl rfl rfl rfl rfl (fun h314 => ?_) (fun h314 => ?_)
     ·
      replace hm := ite_t hm (of_decide_eq_true h314)
      refine g_v rfl (r_field (n := 2) Try.underlying77 rfl Try.sizeOf3 rfl rfl) <| g_do rfl rfl rfl rfl rfl h314 <| g_v rfl (r_load (tag := 100090) rfl rfl rfl Try.isAgg3) <| g_do rfl rfl rfl rfl rfl h314 <| g_v rfl r_move <| g_do rfl rfl rfl rfl rfl h314 <| g_v rfl (r_neq rfl rfl) <| g_v rfl (r_pick1 rfl h314) <| g_nil <| d_then ?_
      refine c_flat [(0, .pointer (some ⟨go0, 0, none⟩)), (1, .int .i64 p1), (7, .int .i64 i254), (8, .int .i64 i255), (9, .pointer (some ⟨g294, 0, none⟩)), (87, .bool (decide (x290.fTo ≠ p1)))] ⟨rfl, rfl, rfl, rfl, rfl, rfl, trivial⟩ (fun u => ?_)
      refine c_cond rfl (fun h315 => ?_) (fun h315 => ?_)
      ·
       replace hm := ite_t hm (of_decide_eq_true h315)
       refine c_seq <| c_region <| g_v rfl r_move <| g_v rfl (r_add rfl rfl rfl) <| g_v rfl r_assign <| g_nil <| d_then <| c_exit <| d_exit_then <| d_exit_then ?_
       refine d_exit_block ?_
       obtain ⟨n316, hn316, hlp⟩ := nx_inl hm hnx3
       exact d_round (n316, l248, l251, i254, w64 (i255 + 1), i256, A249, c250, A252, c253) ⟨hlp, hc250, hc253⟩ hn316 ⟨rfl, rfl, rfl, rfl, trivial⟩ (fun W h => (h.dropH (t := 100090) rfl).phi (fun W hφ => hφ))
      ·
       replace hm := ite_f hm (of_decide_eq_false h315)
       refine c_skip ?_
       exact d_round () hm Nat.zero_lt_one ⟨rfl, rfl, rfl, rfl, rfl, trivial⟩ (fun W h => h.phi (fun W hφ => hφ))
     ·
      replace hm := ite_f hm (of_decide_eq_false h314)
      refine g_no rfl rfl rfl rfl rfl h314 <| g_no rfl rfl rfl rfl rfl h314 <| g_no rfl rfl rfl rfl rfl h314 <| g_v rfl (r_pick0 rfl h314) <| g_nil <| d_then <| c_cond0 rfl rfl <| c_skip ?_
      exact d_round () hm Nat.zero_lt_one ⟨rfl, rfl, rfl, rfl, rfl, trivial⟩ (fun W h => h.phi (fun W hφ => hφ))
    ·
     unfold m_ref08_Net_Lose_j4 at hm
     refine d_flat [(0, .pointer (some ⟨go0, 0, none⟩)), (1, .int .i64 p1), (7, .int .i64 i254), (8, .int .i64 i255), (9, .pointer (some ⟨g294, 0, none⟩))] ⟨rfl, rfl, rfl, rfl, rfl, trivial⟩ (fun u => ?_)
     refine d_then <| c_seq <| c_region <| g_v rfl r_move <| g_v rfl r_move ?_
     replace hm := bnd hm
     obtain ⟨⟨x298, x299⟩, hx300, hm⟩ := hm
     refine g_cn ⟨w0, M, (1000, go0, .cells #[.slice A249 l248.length c250, .slice A252 l251.length c253, .int .i64 i256, .int .i64 o0.fOpens] 55 (0, 0)) :: (100090, g294, .cells #[.int .i64 x290.fN, .int .i64 x290.fFrom, .int .i64 x290.fTo] 77 (0, 0)) :: H, (1000, ⟨.slice A249 l248.length c250, 40, 6, l248.length, l248.flatMap GItem.enc⟩) :: (1001, ⟨.slice A252 l251.length c253, 77, 3, l251.length, l251.flatMap Gref08_Conn.enc⟩) :: R, φ⟩ (fun W h => (ok_front (t := 1000) (t' := 1000) (ok_frontR (t := 13) (t' := 1000) (ok_frontR (t := 1001) (t' := 1001) h rfl) rfl) rfl)) Try.call56 rfl rfl (c_ref08_Net_drop i255 go0 (⟨l248, l251, i256, o0.fOpens⟩ : Gref08_Net) A249 c250 hc250 A252 c253 hc253 _ hx300) (fun ⟨A301, c302⟩ hc302 => ?_)
     refine g_sta _ (fun W h => (ok_frontR (t := 2000) (t' := 1001) (ok_frontR (t := 1000) (t' := 13) (ok_front (t := 1000) (t' := 1000) h rfl) rfl) rfl)) <| g_nil <| d_then <| c_seq <| c_region <| g_v rfl (r_field (n := 1) Try.underlying77 rfl Try.sizeOf3 rfl rfl) <| g_v rfl (r_load (tag := 100090) rfl rfl rfl Try.isAgg3) <| g_v rfl r_assign <| g_nil <| d_then ?_
     refine c_seq ?_
     refine c_cut (ι := Int) [0, 1, 7, 8, 9, 10] (fun i306 => [(10, .int .i64 i306)]) (fun i306 => ⟨w0, M, (1000, go0, .cells #[.slice A249 l248.length c250, .slice A301 x299.fConns.length c302, .int .i64 i256, .int .i64 o0.fOpens] 55 (0, 0)) :: (100090, g294, .cells #[.int .i64 x290.fN, .int .i64 x290.fFrom, .int .i64 x290.fTo] 77 (0, 0)) :: H, (1001, ⟨.slice A301 x299.fConns.length c302, 77, 3, x299.fConns.length, x299.fConns.flatMap Gref08_Conn.enc⟩) :: (13, ⟨.slice A249 l248.length c250, 40, 6, l248.length, l248.flatMap GItem.enc⟩) :: R, φ⟩) (fun i306 => m_ref08_Net_Lose_j5 p1 x290 l248 x299 i256 o0 i254 i255 i306 = some o3) ?_ (fun i306 u hm => ?_)
     ·
      refine c_seq <| c_region <| g_v rfl (r_field (n := 1) Try.underlying77 rfl Try.sizeOf3 rfl rfl) <| g_v rfl (r_load (tag := 100090) rfl rfl rfl Try.isAgg3) <| g_v rfl r_move <| g_v rfl (r_eql rfl rfl) <| g_nil <| d_then ?_
      refine c_flat [(0, .pointer (some ⟨go0, 0, none⟩)), (1, .int .i64 p1), (7, .int .i64 i254), (8, .int .i64 i255), (9, .pointer (some ⟨g294, 0, none⟩)), (10, .int .i64 x290.fFrom), (98, .bool (decide (x290.fFrom = p1)))] ⟨rfl, rfl, rfl, rfl, rfl, rfl, rfl, trivial⟩ (fun u => ?_)
      refine c_sta ⟨w0, M, (1000, go0, .cells #[.slice A249 l248.length c250, .slice A301 x299.fConns.length c302, .int .i64 i256, .int .i64 o0.fOpens] 55 (0, 0)) :: (100090, g294, .cells #[.int .i64 x290.fN, .int .i64 x290.fFrom, .int .i64 x290.fTo] 77 (0, 0)) :: H, (1001, ⟨.slice A301 x299.fConns.length c302, 77, 3, x299.fConns.length, x299.fConns.flatMap Gref08_Conn.enc⟩) :: (13, ⟨.slice A249 l248.length c250, 40, 6, l248.length, l248.flatMap GItem.enc⟩) :: R, φ⟩ (fun _ h => h) ?_
      refine c_cond rfl (fun h313 => ?_) (fun h313 => ?_)
      ·
       replace hm := ite_t hm (of_decide_eq_true h313)
       refine c_region <| g_v rfl (r_field (n := 2) Try.underlying77 rfl Try.sizeOf3 rfl rfl) <| g_v rfl (r_load (tag := 100090) rfl rfl rfl Try.isAgg3) <| g_v rfl r_assign <| g_nil ?_
       exact d_round x290.fTo hm Nat.zero_lt_one ⟨rfl, rfl, rfl, rfl, rfl, rfl, trivial⟩ (fun W h => h.phi (fun W hφ => hφ))
      ·
       replace hm := ite_f hm (of_decide_eq_false h313)
       refine c_skip ?_
       exact d_round x290.fFrom hm Nat.zero_lt_one ⟨rfl, rfl, rfl, rfl, rfl, rfl, trivial⟩ (fun W h => h.phi (fun W hφ => hφ))
     ·
      unfold m_ref08_Net_Lose_j5 at hm
      refine d_flat [(0, .pointer (some ⟨go0, 0, none⟩)), (1, .int .i64 p1), (7, .int .i64 i254), (8, .int .i64 i255), (9, .pointer (some ⟨g294, 0, none⟩)), (10, .int .i64 i306)] ⟨rfl, rfl, rfl, rfl, rfl, rfl, trivial⟩ (fun u => ?_)
      refine d_sta ⟨w0, M, (1000, go0, .cells #[.slice A249 l248.length c250, .slice A301 x299.fConns.length c302, .int .i64 i256, .int .i64 o0.fOpens] 55 (0, 0)) :: (100090, g294, .cells #[.int .i64 x290.fN, .int .i64 x290.fFrom, .int .i64 x290.fTo] 77 (0, 0)) :: H, (1001, ⟨.slice A301 x299.fConns.length c302, 77, 3, x299.fConns.length, x299.fConns.flatMap Gref08_Conn.enc⟩) :: (13, ⟨.slice A249 l248.length c250, 40, 6, l248.length, l248.flatMap GItem.enc⟩) :: R, φ⟩ (fun _ h => h) <| d_then <| c_region <| g_v rfl r_move <| g_v rfl r_move <| g_v rfl r_move <| g_v rfl (r_field (n := 0) Try.underlying77 rfl Try.sizeOf3 rfl rfl) <| g_v rfl (r_load (tag := 100090) rfl rfl rfl Try.isAgg3) <| g_v rfl (r_build _ rfl (bld40_14 _ _ _ _)) ?_
      replace hm := bnd hm
      obtain ⟨x307, hx308, hm⟩ := hm
      refine g_cn ⟨w0, M, (1000, go0, .cells #[.slice A249 l248.length c250, .slice A301 x299.fConns.length c302, .int .i64 i256, .int .i64 o0.fOpens] 55 (0, 0)) :: (100090, g294, .cells #[.int .i64 x290.fN, .int .i64 x290.fFrom, .int .i64 x290.fTo] 77 (0, 0)) :: H, (1000, ⟨.slice A249 l248.length c250, 40, 6, l248.length, l248.flatMap GItem.enc⟩) :: (1001, ⟨.slice A301 x299.fConns.length c302, 77, 3, x299.fConns.length, x299.fConns.flatMap Gref08_Conn.enc⟩) :: R, φ⟩ (fun W h => (ok_front (t := 1000) (t' := 1000) (ok_frontR (t := 13) (t' := 1000) (ok_frontR (t := 1001) (t' := 1001) h rfl) rfl) rfl)) Try.call55 rfl rfl (c_ref08_Net_add (⟨0, 4, p1, i306, x290.fN, (⟨#[]⟩ : ByteArray)⟩ : GItem) go0 (⟨l248, x299.fConns, i256, o0.fOpens⟩ : Gref08_Net) A249 c250 hc250 A301 c302 hc302 _ hx308) (fun ⟨A309, c310⟩ hc310 => ?_)
      refine g_sta _ (fun W h => (ok_frontR (t := 2000) (t' := 13) (ok_frontR (t := 1001) (t' := 1001) (ok_front (t := 1000) (t' := 1000) h rfl) rfl) rfl)) <| g_nil <| d_normal_block ?_
      obtain ⟨n312, hn312, hlp⟩ := nx_inl hm hnx3
      exact d_round (n312, x307.fItems, x299.fConns, i254, i255, x307.fLast, A309, c310, A301, c302) ⟨hlp, hc310, hc302⟩ hn312 ⟨rfl, rfl, rfl, rfl, trivial⟩ (fun W h => (h.dropH (t := 100090) rfl).phi (fun W hφ => hφ))
   ·
    replace hm := ite_f hm (of_decide_eq_false h289)
    refine c_exit <| d_exit_then <| d_exit_then <| d_exit_block ?_
    replace hm := nx_out (C := (fun e => m_ref08_Net_Lose_j2 o0 e.1 e.2.1 e.2.2.1 e.2.2.2 = some r)) hm hnx3 hr3
    exact d_round (l248, l251, i254, i256, A249, c250, A252, c253) ⟨hm, hc250, hc253⟩ Nat.zero_lt_one ⟨rfl, trivial⟩ (fun W h => h.phi (fun W hφ => hφ))
  ·
   unfold m_ref08_Net_Lose_j2 at hm
   refine d_flat [(7, .int .i64 i214)] ⟨rfl, trivial⟩ (fun u => ?_)
   refine d_sta ⟨w0, M, (1000, go0, .cells #[.slice A209 l208.length c210, .slice A212 l211.length c213, .int .i64 i215, .int .i64 o0.fOpens] 55 (0, 0)) :: H, (13, ⟨.slice A209 l208.length c210, 40, 6, l208.length, l208.flatMap GItem.enc⟩) :: (1001, ⟨.slice A212 l211.length c213, 77, 3, l211.length, l211.flatMap Gref08_Conn.enc⟩) :: R, φ⟩ (fun _ h => h) <| d_then <| c_seq <| c_region <| g_v rfl r_move <| g_v rfl r_assign <| g_nil <| d_then <| c_ret ?_
   replace hm := Option.some.inj hm
   subst hm
   refine d_sta _ (fun W h => ok_frontR (t := 1001) (t' := 2001) h rfl) <| d_sta _ (fun W h => ok_frontR (t := 13) (t' := 2000) h rfl) ?_
   refine d_retC (A209, c210, A212, c213) Try.results46 ?_ ⟨hc210, hc213⟩ (fun W h => h.phi (fun W hφ => hφ)) (.inr rfl)
   refine res_tmp <| res_nil ?_
   exact rfl
noncomputable def m_ref08_Net_Ready_j1  (l136 : List GItem) : Option (List GItem) :=
  some l136
noncomputable def m_ref08_Net_Ready_j3 (l154 : List GItem) (x202 : GItem) (i157 : Int) (b233 : Bool) : Option (((List GItem) × Int) ⊕ (List GItem)) :=
  if b233 = true then
    (app 56 l154 [x202]).bind fun l236 =>
    some (.inl (l236, w64 (i157 + 1)))
  else
    some (.inl (l154, w64 (i157 + 1)))
noncomputable def m_ref08_Net_Ready_s4 (i157 : Int) (o0 : Gref08_Net) (x202 : GItem) (b252 : Bool) (i253 : Int) : Option ((Bool × Int) ⊕ Bool) :=
  if i253 < i157 then
    (at_ o0.fItems i253).bind fun x268 =>
    if b252 = true then
      if x202.fKind = 1 then
        some (.inl (true, w64 (i253 + 1)))
      else
        if x268.fKind = 1 then
          some (.inl (true, w64 (i253 + 1)))
        else
          if x268.fConn ≠ x202.fConn then
            some (.inl (true, w64 (i253 + 1)))
          else
            some (.inl (decide (x268.fTo ≠ x202.fTo), w64 (i253 + 1)))
    else
      some (.inl (false, w64 (i253 + 1)))
  else
    some (.inr b252)
noncomputable def m_ref08_Net_Ready_s2 (o0 : Gref08_Net) (l154 : List GItem) (i157 : Int) : Option (((List GItem) × Int) ⊕ (List GItem)) :=
  if i157 < (o0.fItems.length : Int) then
    (at_ o0.fItems i157).bind fun x202 =>
    (loop (fun s => m_ref08_Net_Ready_s4 i157 o0 x202 s.1 s.2) (true, 0)).bind fun e => m_ref08_Net_Ready_j3 l154 x202 i157 e
  else
    some (.inr l154)
noncomputable def m_ref08_Net_Ready (o0 : Gref08_Net) : Option (List GItem) :=
  (loop (fun s => m_ref08_Net_Ready_s2 o0 s.1 s.2) (([] : List GItem), 0)).bind fun e => m_ref08_Net_Ready_j1 e
theorem c_ref08_Net_Ready {w0 : World} {M : Nat → Prop} {H : List (Nat × Nat × Obj)} {R : List (Nat × Row)} {φ : World → Prop} (go0 : Nat) (o0 : Gref08_Net) (Ao0_0 : Option Addr) (co0_0 : Nat) (hco0_0 : o0.fItems.length ≤ co0_0) (Ao0_1 : Option Addr) (co0_1 : Nat) (hco0_1 : o0.fConns.length ≤ co0_1) (r : (List GItem)) (hm : m_ref08_Net_Ready o0 = some r) :
    Cn Try.prog 26 #[.pointer (some ⟨go0, 0, none⟩)] ⟨w0, M, (1000, go0, .cells #[.slice Ao0_0 o0.fItems.length co0_0, .slice Ao0_1 o0.fConns.length co0_1, .int .i64 o0.fLast, .int .i64 o0.fOpens] 55 (0, 0)) :: H, (1000, ⟨.slice Ao0_0 o0.fItems.length co0_0, 40, 6, o0.fItems.length, o0.fItems.flatMap GItem.enc⟩) :: (1001, ⟨.slice Ao0_1 o0.fConns.length co0_1, 77, 3, o0.fConns.length, o0.fConns.flatMap Gref08_Conn.enc⟩) :: R, φ⟩ (fun x : Option Addr × Nat => .slice x.1 r.length x.2) (fun x => r.length ≤ x.2) (fun x => ⟨w0, M, (1000, go0, .cells #[.slice Ao0_0 o0.fItems.length co0_0, .slice Ao0_1 o0.fConns.length co0_1, .int .i64 o0.fLast, .int .i64 o0.fOpens] 55 (0, 0)) :: H, (2000, ⟨.slice x.1 r.length x.2, 40, 6, r.length, r.flatMap GItem.enc⟩) :: (1000, ⟨.slice Ao0_0 o0.fItems.length co0_0, 40, 6, o0.fItems.length, o0.fItems.flatMap GItem.enc⟩) :: (1001, ⟨.slice Ao0_1 o0.fConns.length co0_1, 77, 3, o0.fConns.length, o0.fConns.flatMap Gref08_Conn.enc⟩) :: R, φ⟩) := by
 unfold m_ref08_Net_Ready at hm
 refine cn_intro (fn := Try.f26) (N := 68) Try.func26 rfl Try.ntmps26 rfl <| c_seq <| c_region <| g_v rfl r_assign <| g_nil <| d_then <| c_seq <| c_region <| g_v rfl r_assign <| g_nil ?_
 refine d_then <| c_seq <| c_seq <| c_region <| g_v rfl r_assign <| g_nil <| d_then <| c_sta _ (fun W h => nilR h 13 40 6) ?_
 refine c_cut (ι := (List GItem) × Option Addr × Nat) [3] (fun ⟨l136, A137, c138⟩ => [(3, .slice A137 l136.length c138)]) (fun ⟨l136, A137, c138⟩ => ⟨w0, M, (1000, go0, .cells #[.slice Ao0_0 o0.fItems.length co0_0, .slice Ao0_1 o0.fConns.length co0_1, .int .i64 o0.fLast, .int .i64 o0.fOpens] 55 (0, 0)) :: H, (13, ⟨.slice A137 l136.length c138, 40, 6, l136.length, l136.flatMap GItem.enc⟩) :: (1000, ⟨.slice Ao0_0 o0.fItems.length co0_0, 40, 6, o0.fItems.length, o0.fItems.flatMap GItem.enc⟩) :: (1001, ⟨.slice Ao0_1 o0.fConns.length co0_1, 77, 3, o0.fConns.length, o0.fConns.flatMap Gref08_Conn.enc⟩) :: R, φ⟩) (fun ⟨l136, A137, c138⟩ => m_ref08_Net_Ready_j1 l136 = some r ∧ l136.length ≤ c138) ?_ (fun ⟨l136, A137, c138⟩ u ⟨hm, hc138⟩ => ?_)
 ·
  refine c_block ?_
  replace hm := bnd hm
  obtain ⟨out2, hl2, hr2⟩ := hm
  obtain ⟨n200', hl2⟩ := loop_lp hl2
  refine c_loopU (ι := Nat × (List GItem) × Int × Option Addr × Nat) [0, 3, 4] (fun ⟨n200, l154, i157, A155, c156⟩ => [(3, .slice A155 l154.length c156), (4, .int .i64 i157)]) (fun ⟨n200, l154, i157, A155, c156⟩ => ⟨w0, M, (1000, go0, .cells #[.slice Ao0_0 o0.fItems.length co0_0, .slice Ao0_1 o0.fConns.length co0_1, .int .i64 o0.fLast, .int .i64 o0.fOpens] 55 (0, 0)) :: H, (13, ⟨.slice A155 l154.length c156, 40, 6, l154.length, l154.flatMap GItem.enc⟩) :: (1000, ⟨.slice Ao0_0 o0.fItems.length co0_0, 40, 6, o0.fItems.length, o0.fItems.flatMap GItem.enc⟩) :: (1001, ⟨.slice Ao0_1 o0.fConns.length co0_1, 77, 3, o0.fConns.length, o0.fConns.flatMap Gref08_Conn.enc⟩) :: R, φ⟩) (fun ⟨n200, l154, i157, A155, c156⟩ => Lp (fun s => m_ref08_Net_Ready_s2 o0 s.1 s.2) n200 (l154, i157) out2 ∧ l154.length ≤ c156) (fun ⟨n200, l154, i157, A155, c156⟩ => n200) (n200', ([] : List GItem), 0, none, 0) ⟨hl2, (Nat.le_refl 0)⟩ ⟨rfl, rfl, rfl, trivial⟩ (fun W h => h.phi (fun W hφ => hφ)) (fun ⟨n200, l154, i157, A155, c156⟩ u ⟨hlp, hc156⟩ => ?_)
  obtain ⟨o2, hm, hnx2⟩ := lp_step hlp
  clear hlp
  replace hm : m_ref08_Net_Ready_s2 o0 l154 i157 = some o2 := hm
  unfold m_ref08_Net_Ready_s2 at hm
  refine c_flat [(0, .pointer (some ⟨go0, 0, none⟩)), (3, .slice A155 l154.length c156), (4, .int .i64 i157)] ⟨rfl, rfl, rfl, trivial⟩ (fun u => ?_)
  refine c_sta ⟨w0, M, (1000, go0, .cells #[.slice Ao0_0 o0.fItems.length co0_0, .slice Ao0_1 o0.fConns.length co0_1, .int .i64 o0.fLast, .int .i64 o0.fOpens] 55 (0, 0)) :: H, (13, ⟨.slice A155 l154.length c156, 40, 6, l154.length, l154.flatMap GItem.enc⟩) :: (1000, ⟨.slice Ao0_0 o0.fItems.length co0_0, 40, 6, o0.fItems.length, o0.fItems.flatMap GItem.enc⟩) :: (1001, ⟨.slice Ao0_1 o0.fConns.length co0_1, 77, 3, o0.fConns.length, o0.fConns.flatMap Gref08_Conn.enc⟩) :: R, φ⟩ (fun _ h => h) <| c_seq <| c_seq <| c_region <| g_v rfl r_move <| g_v rfl r_move <| g_v rfl (r_nilck rfl) <| g_v rfl (r_field (n := 0) Try.underlying55 rfl Try.sizeOf52 rfl rfl) <| g_v rfl (r_load (tag := 1000) rfl rfl rfl Try.isAgg52) <| g_v rfl (r_lenL Try.underlying52 rfl) ?_
  refine g_v rfl (r_lss rfl rfl) <| g_nil <| d_then ?_
  refine c_cond rfl (fun h201 => ?_) (fun h201 => ?_)
  ·
   replace hm := ite_t hm (of_decide_eq_true h201)
   refine c_skip <| d_then <| c_seq <| c_block <| c_seq <| c_region <| g_v rfl r_move <| g_v rfl (r_nilck rfl) <| g_v rfl (r_field (n := 0) Try.underlying55 rfl Try.sizeOf52 rfl rfl) <| g_v rfl (r_load (tag := 1000) rfl rfl rfl Try.isAgg52) ?_
   refine g_v rfl r_move ?_
   replace hm := bnd hm
   obtain ⟨x202, hx202, hm⟩ := hm
   refine g_know _ (fun W hS => cl_at (p := (Sta.ok ⟨w0, M, (1000, go0, .cells #[.slice Ao0_0 o0.fItems.length co0_0, .slice Ao0_1 o0.fConns.length co0_1, .int .i64 o0.fLast, .int .i64 o0.fOpens] 55 (0, 0)) :: H, (13, ⟨.slice A155 l154.length c156, 40, 6, l154.length, l154.flatMap GItem.enc⟩) :: (1000, ⟨.slice Ao0_0 o0.fItems.length co0_0, 40, 6, o0.fItems.length, o0.fItems.flatMap GItem.enc⟩) :: (1001, ⟨.slice Ao0_1 o0.fConns.length co0_1, 77, 3, o0.fConns.length, o0.fConns.flatMap Gref08_Conn.enc⟩) :: R, φ⟩)) (sz := 6) (fun _ => rfl) (by decide) hS (fun W hS => rowCl (S := ⟨w0, M, (1000, go0, .cells #[.slice Ao0_0 o0.fItems.length co0_0, .slice Ao0_1 o0.fConns.length co0_1, .int .i64 o0.fLast, .int .i64 o0.fOpens] 55 (0, 0)) :: H, (13, ⟨.slice A155 l154.length c156, 40, 6, l154.length, l154.flatMap GItem.enc⟩) :: (1000, ⟨.slice Ao0_0 o0.fItems.length co0_0, 40, 6, o0.fItems.length, o0.fItems.flatMap GItem.enc⟩) :: (1001, ⟨.slice Ao0_1 o0.fConns.length co0_1, 77, 3, o0.fConns.length, o0.fConns.flatMap Gref08_Conn.enc⟩) :: R, φ⟩) (tag := 1000) rfl W hS) hx202) ?_
   rintro ⟨ad203, hA205, f204⟩
   refine g_v rfl (r_ix Try.underlying52 Try.sizeOf40 rfl hA205 rfl hx202) <| g_v rfl (r_ldA rfl Try.isAgg40 Try.sizeOf40 (fun W hS => (f204 W hS).take 6) rfl) ?_
   refine g_e rfl (e_alloc 100050 Try.zeroValue40) (fun g206 _ => ?_)
   refine g_storeL (tag := 100050) rfl rfl rfl rfl Try.sizeOf40 rfl rfl <| g_nil <| d_then ?_
   refine c_flat [(0, .pointer (some ⟨go0, 0, none⟩)), (3, .slice A155 l154.length c156), (4, .int .i64 i157), (5, .pointer (some ⟨g206, 0, none⟩))] ⟨rfl, rfl, rfl, rfl, trivial⟩ (fun u => ?_)
   refine c_sta ⟨w0, M, (100050, g206, .cells #[.int .i64 x202.fNumber, .int .i64 x202.fKind, .int .i64 x202.fFrom, .int .i64 x202.fTo, .int .i64 x202.fConn, .string x202.fBody] 40 (0, 0)) :: (1000, go0, .cells #[.slice Ao0_0 o0.fItems.length co0_0, .slice Ao0_1 o0.fConns.length co0_1, .int .i64 o0.fLast, .int .i64 o0.fOpens] 55 (0, 0)) :: H, (13, ⟨.slice A155 l154.length c156, 40, 6, l154.length, l154.flatMap GItem.enc⟩) :: (1000, ⟨.slice Ao0_0 o0.fItems.length co0_0, 40, 6, o0.fItems.length, o0.fItems.flatMap GItem.enc⟩) :: (1001, ⟨.slice Ao0_1 o0.fConns.length co0_1, 77, 3, o0.fConns.length, o0.fConns.flatMap Gref08_Conn.enc⟩) :: R, φ⟩ (fun _ h => h) <| c_seq <| c_region <| g_v rfl r_assign <| g_nil <| d_then <| c_seq <| c_seq <| c_region <| g_v rfl r_assign ?_
   refine g_nil <| d_then ?_
   refine c_cut (ι := Bool) [0, 3, 4, 5, 6] (fun b233 => [(6, .bool b233)]) (fun b233 => ⟨w0, M, (100050, g206, .cells #[.int .i64 x202.fNumber, .int .i64 x202.fKind, .int .i64 x202.fFrom, .int .i64 x202.fTo, .int .i64 x202.fConn, .string x202.fBody] 40 (0, 0)) :: (1000, go0, .cells #[.slice Ao0_0 o0.fItems.length co0_0, .slice Ao0_1 o0.fConns.length co0_1, .int .i64 o0.fLast, .int .i64 o0.fOpens] 55 (0, 0)) :: H, (13, ⟨.slice A155 l154.length c156, 40, 6, l154.length, l154.flatMap GItem.enc⟩) :: (1000, ⟨.slice Ao0_0 o0.fItems.length co0_0, 40, 6, o0.fItems.length, o0.fItems.flatMap GItem.enc⟩) :: (1001, ⟨.slice Ao0_1 o0.fConns.length co0_1, 77, 3, o0.fConns.length, o0.fConns.flatMap Gref08_Conn.enc⟩) :: R, φ⟩) (fun b233 => m_ref08_Net_Ready_j3 l154 x202 i157 b233 = some o2) ?_ (fun b233 u hm => ?_)
   ·
    refine c_block ?_
    replace hm := bnd hm
    obtain ⟨out4, hl4, hr4⟩ := hm
    obtain ⟨n266', hl4⟩ := loop_lp hl4
    refine c_loopU (ι := Nat × Bool × Int) [0, 3, 4, 5, 6, 7] (fun ⟨n266, b252, i253⟩ => [(6, .bool b252), (7, .int .i64 i253)]) (fun ⟨n266, b252, i253⟩ => ⟨w0, M, (100050, g206, .cells #[.int .i64 x202.fNumber, .int .i64 x202.fKind, .int .i64 x202.fFrom, .int .i64 x202.fTo, .int .i64 x202.fConn, .string x202.fBody] 40 (0, 0)) :: (1000, go0, .cells #[.slice Ao0_0 o0.fItems.length co0_0, .slice Ao0_1 o0.fConns.length co0_1, .int .i64 o0.fLast, .int .i64 o0.fOpens] 55 (0, 0)) :: H, (13, ⟨.slice A155 l154.length c156, 40, 6, l154.length, l154.flatMap GItem.enc⟩) :: (1000, ⟨.slice Ao0_0 o0.fItems.length co0_0, 40, 6, o0.fItems.length, o0.fItems.flatMap GItem.enc⟩) :: (1001, ⟨.slice Ao0_1 o0.fConns.length co0_1, 77, 3, o0.fConns.length, o0.fConns.flatMap Gref08_Conn.enc⟩) :: R, φ⟩) (fun ⟨n266, b252, i253⟩ => Lp (fun s => m_ref08_Net_Ready_s4 i157 o0 x202 s.1 s.2) n266 (b252, i253) out4) (fun ⟨n266, b252, i253⟩ => n266) (n266', true, 0) hl4 ⟨rfl, rfl, rfl, rfl, rfl, rfl, trivial⟩ (fun W h => h.phi (fun W hφ => hφ)) (fun ⟨n266, b252, i253⟩ u hlp => ?_)
    obtain ⟨o4, hm, hnx4⟩ := lp_step hlp
    clear hlp
    replace hm : m_ref08_Net_Ready_s4 i157 o0 x202 b252 i253 = some o4 := hm
    unfold m_ref08_Net_Ready_s4 at hm
    refine c_flat [(0, .pointer (some ⟨go0, 0, none⟩)), (3, .slice A155 l154.length c156), (4, .int .i64 i157), (5, .pointer (some ⟨g206, 0, none⟩)), (6, .bool b252), (7, .int .i64 i253)] ⟨rfl, rfl, rfl, rfl, rfl, rfl, trivial⟩ (fun u => ?_)
    refine c_seq <| c_seq <| c_region <| g_v rfl r_move <| g_v rfl r_move <| g_v rfl (r_lss rfl rfl) <| g_nil <| d_then ?_
    refine c_cond rfl (fun h267 => ?_) (fun h267 => ?_)
    ·
     replace hm := ite_t hm (of_decide_eq_true h267)
     refine c_skip <| d_then <| c_seq <| c_block <| c_seq <| c_region <| g_v rfl r_move <| g_v rfl (r_nilck rfl) <| g_v rfl (r_field (n := 0) Try.underlying55 rfl Try.sizeOf52 rfl rfl) <| g_v rfl (r_load (tag := 1000) rfl rfl rfl Try.isAgg52) ?_
     refine g_v rfl r_move ?_
     replace hm := bnd hm
     obtain ⟨x268, hx268, hm⟩ := hm
     refine g_know _ (fun W hS => cl_at (p := (Sta.ok ⟨w0, M, (100050, g206, .cells #[.int .i64 x202.fNumber, .int .i64 x202.fKind, .int .i64 x202.fFrom, .int .i64 x202.fTo, .int .i64 x202.fConn, .string x202.fBody] 40 (0, 0)) :: (1000, go0, .cells #[.slice Ao0_0 o0.fItems.length co0_0, .slice Ao0_1 o0.fConns.length co0_1, .int .i64 o0.fLast, .int .i64 o0.fOpens] 55 (0, 0)) :: H, (13, ⟨.slice A155 l154.length c156, 40, 6, l154.length, l154.flatMap GItem.enc⟩) :: (1000, ⟨.slice Ao0_0 o0.fItems.length co0_0, 40, 6, o0.fItems.length, o0.fItems.flatMap GItem.enc⟩) :: (1001, ⟨.slice Ao0_1 o0.fConns.length co0_1, 77, 3, o0.fConns.length, o0.fConns.flatMap Gref08_Conn.enc⟩) :: R, φ⟩)) (sz := 6) (fun _ => rfl) (by decide) hS (fun W hS => rowCl (S := ⟨w0, M, (100050, g206, .cells #[.int .i64 x202.fNumber, .int .i64 x202.fKind, .int .i64 x202.fFrom, .int .i64 x202.fTo, .int .i64 x202.fConn, .string x202.fBody] 40 (0, 0)) :: (1000, go0, .cells #[.slice Ao0_0 o0.fItems.length co0_0, .slice Ao0_1 o0.fConns.length co0_1, .int .i64 o0.fLast, .int .i64 o0.fOpens] 55 (0, 0)) :: H, (13, ⟨.slice A155 l154.length c156, 40, 6, l154.length, l154.flatMap GItem.enc⟩) :: (1000, ⟨.slice Ao0_0 o0.fItems.length co0_0, 40, 6, o0.fItems.length, o0.fItems.flatMap GItem.enc⟩) :: (1001, ⟨.slice Ao0_1 o0.fConns.length co0_1, 77, 3, o0.fConns.length, o0.fConns.flatMap Gref08_Conn.enc⟩) :: R, φ⟩) (tag := 1000) rfl W hS) hx268) ?_
     rintro ⟨ad269, hA271, f270⟩
     refine g_v rfl (r_ix Try.underlying52 Try.sizeOf40 rfl hA271 rfl hx268) <| g_v rfl (r_ldA rfl Try.isAgg40 Try.sizeOf40 (fun W hS => (f270 W hS).take 6) rfl) ?_
     refine g_e rfl (e_alloc 100080 Try.zeroValue40) (fun g272 _ => ?_)
     refine g_storeL (tag := 100080) rfl rfl rfl rfl Try.sizeOf40 rfl rfl <| g_nil <| d_then ?_
     refine c_flat [(0, .pointer (some ⟨go0, 0, none⟩)), (3, .slice A155 l154.length c156), (4, .int .i64 i157), (5, .pointer (some ⟨g206, 0, none⟩)), (6, .bool b252), (7, .int .i64 i253), (8, .pointer (some ⟨g272, 0, none⟩))] ⟨rfl, rfl, rfl, rfl, rfl, rfl, rfl, trivial⟩ (fun u => ?_)
     refine c_sta ⟨w0, M, (100080, g272, .cells #[.int .i64 x268.fNumber, .int .i64 x268.fKind, .int .i64 x268.fFrom, .int .i64 x268.fTo, .int .i64 x268.fConn, .string x268.fBody] 40 (0, 0)) :: (100050, g206, .cells #[.int .i64 x202.fNumber, .int .i64 x202.fKind, .int .i64 x202.fFrom, .int .i64 x202.fTo, .int .i64 x202.fConn, .string x202.fBody] 40 (0, 0)) :: (1000, go0, .cells #[.slice Ao0_0 o0.fItems.length co0_0, .slice Ao0_1 o0.fConns.length co0_1, .int .i64 o0.fLast, .int .i64 o0.fOpens] 55 (0, 0)) :: H, (13, ⟨.slice A155 l154.length c156, 40, 6, l154.length, l154.flatMap GItem.enc⟩) :: (1000, ⟨.slice Ao0_0 o0.fItems.length co0_0, 40, 6, o0.fItems.length, o0.fItems.flatMap GItem.enc⟩) :: (1001, ⟨.slice Ao0_1 o0.fConns.length co0_1, 77, 3, o0.fConns.length, o0.fConns.flatMap Gref08_Conn.enc⟩) :: R, φ⟩ (fun _ h => h) <| c_region <| g_v rfl r_move <| g_v rfl r_move ?_
     refine g_if rfl rfl rfl rfl rfl (fun h273 => ?_) (fun h273 => ?_)
     ·
      replace hm := ite_t hm h273
      refine g_v rfl (r_field (n := 1) Try.underlying40 rfl Try.sizeOf3 rfl rfl) <| g_do rfl rfl rfl rfl rfl h273 <| g_v rfl (r_load (tag := 100050) rfl rfl rfl Try.isAgg3) <| g_do rfl rfl rfl rfl rfl h273 <| g_v rfl (r_eql rfl rfl) <| g_do rfl rfl rfl rfl rfl h273 <| g_v rfl r_move ?_
      refine g_if rfl rfl rfl rfl rfl (fun h274 => ?_) (fun h274 => ?_)
      ·
       replace hm := ite_f hm (of_decide_eq_false h274)
       refine g_v rfl (r_field (n := 1) Try.underlying40 rfl Try.sizeOf3 rfl rfl) <| g_do rfl rfl rfl rfl rfl h274 <| g_v rfl (r_load (tag := 100080) rfl rfl rfl Try.isAgg3) <| g_do rfl rfl rfl rfl rfl h274 <| g_v rfl (r_eql rfl rfl) <| g_do rfl rfl rfl rfl rfl h273 <| g_v rfl (r_pick0 rfl h274) <| g_do rfl rfl rfl rfl rfl h273 <| g_v rfl r_move ?_
       refine g_if rfl rfl rfl rfl rfl (fun h275 => ?_) (fun h275 => ?_)
       ·
        replace hm := ite_f hm (of_decide_eq_false h275)
        refine g_v rfl (r_field (n := 4) Try.underlying40 rfl Try.sizeOf3 rfl rfl) <| g_do rfl rfl rfl rfl rfl h275 <| g_v rfl (r_load (tag := 100080) rfl rfl rfl Try.isAgg3) <| g_do rfl rfl rfl rfl rfl h275 <| g_v rfl (r_field (n := 4) Try.underlying40 rfl Try.sizeOf3 rfl rfl) <| g_do rfl rfl rfl rfl rfl h275 <| g_v rfl (r_load (tag := 100050) rfl rfl rfl Try.isAgg3) <| g_do rfl rfl rfl rfl rfl h275 <| g_v rfl (r_neq rfl rfl) <| g_do rfl rfl rfl rfl rfl h273 ?_
        refine g_v rfl (r_pick0 rfl h275) <| g_do rfl rfl rfl rfl rfl h273 <| g_v rfl r_move ?_
        refine g_if rfl rfl rfl rfl rfl (fun h276 => ?_) (fun h276 => ?_)
        ·
         replace hm := ite_f hm (of_decide_eq_false h276)
         refine g_v rfl (r_field (n := 3) Try.underlying40 rfl Try.sizeOf3 rfl rfl) <| g_do rfl rfl rfl rfl rfl h276 <| g_v rfl (r_load (tag := 100080) rfl rfl rfl Try.isAgg3) <| g_do rfl rfl rfl rfl rfl h276 <| g_v rfl (r_field (n := 3) Try.underlying40 rfl Try.sizeOf3 rfl rfl) <| g_do rfl rfl rfl rfl rfl h276 <| g_v rfl (r_load (tag := 100050) rfl rfl rfl Try.isAgg3) <| g_do rfl rfl rfl rfl rfl h276 <| g_v rfl (r_neq rfl rfl) <| g_do rfl rfl rfl rfl rfl h273 ?_
         refine g_v rfl (r_pick0 rfl h276) <| g_v rfl (r_pick1 rfl h273) <| g_v rfl r_assign <| g_nil <| d_normal_block <| d_then ?_
         refine c_flat [(0, .pointer (some ⟨go0, 0, none⟩)), (3, .slice A155 l154.length c156), (4, .int .i64 i157), (5, .pointer (some ⟨g206, 0, none⟩)), (6, .bool (decide (x268.fTo ≠ x202.fTo))), (7, .int .i64 i253)] ⟨rfl, rfl, rfl, rfl, rfl, rfl, trivial⟩ (fun u => ?_)
         refine c_region <| g_v rfl r_move <| g_v rfl (r_add rfl rfl rfl) <| g_v rfl r_assign <| g_nil ?_
         obtain ⟨n277, hn277, hlp⟩ := nx_inl hm hnx4
         exact d_round (n277, decide (x268.fTo ≠ x202.fTo), w64 (i253 + 1)) hlp hn277 ⟨rfl, rfl, rfl, rfl, rfl, rfl, trivial⟩ (fun W h => (h.dropH (t := 100080) rfl).phi (fun W hφ => hφ))
        ·
         replace hm := ite_t hm (of_decide_eq_true h276)
         refine g_no rfl rfl rfl rfl rfl h276 <| g_no rfl rfl rfl rfl rfl h276 <| g_no rfl rfl rfl rfl rfl h276 <| g_no rfl rfl rfl rfl rfl h276 <| g_do rfl rfl rfl rfl rfl h273 <| g_v rfl (r_pick1 rfl h276) <| g_v rfl (r_pick1 rfl h273) <| g_v rfl r_assign <| g_nil <| d_normal_block ?_
         refine d_then ?_
         refine c_flat [(0, .pointer (some ⟨go0, 0, none⟩)), (3, .slice A155 l154.length c156), (4, .int .i64 i157), (5, .pointer (some ⟨g206, 0, none⟩)), (6, .bool true), (7, .int .i64 i253)] ⟨rfl, rfl, rfl, rfl, rfl, rfl, trivial⟩ (fun u => ?_)
         refine c_region <| g_v rfl r_move <| g_v rfl (r_add rfl rfl rfl) <| g_v rfl r_assign <| g_nil ?_
         obtain ⟨n278, hn278, hlp⟩ := nx_inl hm hnx4
         exact d_round (n278, true, w64 (i253 + 1)) hlp hn278 ⟨rfl, rfl, rfl, rfl, rfl, rfl, trivial⟩ (fun W h => (h.dropH (t := 100080) rfl).phi (fun W hφ => hφ))
       ·
        replace hm := ite_t hm (of_decide_eq_true h275)
        refine g_no rfl rfl rfl rfl rfl h275 <| g_no rfl rfl rfl rfl rfl h275 <| g_no rfl rfl rfl rfl rfl h275 <| g_no rfl rfl rfl rfl rfl h275 <| g_do rfl rfl rfl rfl rfl h273 <| g_v rfl (r_pick1 rfl h275) <| g_do rfl rfl rfl rfl rfl h273 <| g_v rfl r_move <| g_no rfl rfl rfl rfl rfl rfl <| g_no rfl rfl rfl rfl rfl rfl ?_
        refine g_no rfl rfl rfl rfl rfl rfl <| g_no rfl rfl rfl rfl rfl rfl <| g_no rfl rfl rfl rfl rfl rfl <| g_do rfl rfl rfl rfl rfl h273 <| g_v rfl (r_pick1 rfl rfl) <| g_v rfl (r_pick1 rfl h273) <| g_v rfl r_assign <| g_nil <| d_normal_block <| d_then ?_
        refine c_flat [(0, .pointer (some ⟨go0, 0, none⟩)), (3, .slice A155 l154.length c156), (4, .int .i64 i157), (5, .pointer (some ⟨g206, 0, none⟩)), (6, .bool true), (7, .int .i64 i253)] ⟨rfl, rfl, rfl, rfl, rfl, rfl, trivial⟩ (fun u => ?_)
        refine c_region <| g_v rfl r_move <| g_v rfl (r_add rfl rfl rfl) <| g_v rfl r_assign <| g_nil ?_
        obtain ⟨n279, hn279, hlp⟩ := nx_inl hm hnx4
        exact d_round (n279, true, w64 (i253 + 1)) hlp hn279 ⟨rfl, rfl, rfl, rfl, rfl, rfl, trivial⟩ (fun W h => (h.dropH (t := 100080) rfl).phi (fun W hφ => hφ))
      ·
       replace hm := ite_t hm (of_decide_eq_true h274)
       refine g_no rfl rfl rfl rfl rfl h274 <| g_no rfl rfl rfl rfl rfl h274 <| g_do rfl rfl rfl rfl rfl h273 <| g_v rfl (r_pick1 rfl h274) <| g_do rfl rfl rfl rfl rfl h273 <| g_v rfl r_move <| g_no rfl rfl rfl rfl rfl rfl <| g_no rfl rfl rfl rfl rfl rfl <| g_no rfl rfl rfl rfl rfl rfl <| g_no rfl rfl rfl rfl rfl rfl ?_
       refine g_no rfl rfl rfl rfl rfl rfl <| g_do rfl rfl rfl rfl rfl h273 <| g_v rfl (r_pick1 rfl rfl) <| g_do rfl rfl rfl rfl rfl h273 <| g_v rfl r_move <| g_no rfl rfl rfl rfl rfl rfl <| g_no rfl rfl rfl rfl rfl rfl <| g_no rfl rfl rfl rfl rfl rfl <| g_no rfl rfl rfl rfl rfl rfl <| g_no rfl rfl rfl rfl rfl rfl ?_
       refine g_do rfl rfl rfl rfl rfl h273 <| g_v rfl (r_pick1 rfl rfl) <| g_v rfl (r_pick1 rfl h273) <| g_v rfl r_assign <| g_nil <| d_normal_block <| d_then ?_
       refine c_flat [(0, .pointer (some ⟨go0, 0, none⟩)), (3, .slice A155 l154.length c156), (4, .int .i64 i157), (5, .pointer (some ⟨g206, 0, none⟩)), (6, .bool true), (7, .int .i64 i253)] ⟨rfl, rfl, rfl, rfl, rfl, rfl, trivial⟩ (fun u => ?_)
       refine c_region <| g_v rfl r_move <| g_v rfl (r_add rfl rfl rfl) <| g_v rfl r_assign <| g_nil ?_
       obtain ⟨n280, hn280, hlp⟩ := nx_inl hm hnx4
       exact d_round (n280, true, w64 (i253 + 1)) hlp hn280 ⟨rfl, rfl, rfl, rfl, rfl, rfl, trivial⟩ (fun W h => (h.dropH (t := 100080) rfl).phi (fun W hφ => hφ))
     ·
      replace hm := ite_f hm (bool_nt h273)
      refine g_no rfl rfl rfl rfl rfl h273 <| g_no rfl rfl rfl rfl rfl h273 <| g_no rfl rfl rfl rfl rfl h273 <| g_nu rfl rfl rfl rfl rfl <| g_nu rfl rfl rfl rfl rfl <| g_nu rfl rfl rfl rfl rfl <| g_no rfl rfl rfl rfl rfl h273 <| g_no rfl rfl rfl rfl rfl h273 <| g_nu rfl rfl rfl rfl rfl <| g_nu rfl rfl rfl rfl rfl ?_
      refine g_nu rfl rfl rfl rfl rfl <| g_nu rfl rfl rfl rfl rfl <| g_nu rfl rfl rfl rfl rfl <| g_no rfl rfl rfl rfl rfl h273 <| g_no rfl rfl rfl rfl rfl h273 <| g_nu rfl rfl rfl rfl rfl <| g_nu rfl rfl rfl rfl rfl <| g_nu rfl rfl rfl rfl rfl <| g_nu rfl rfl rfl rfl rfl <| g_nu rfl rfl rfl rfl rfl ?_
      refine g_no rfl rfl rfl rfl rfl h273 <| g_v rfl (r_pick0 rfl h273) <| g_v rfl r_assign <| g_nil <| d_normal_block <| d_then <| c_region <| g_v rfl r_move <| g_v rfl (r_add rfl rfl rfl) <| g_v rfl r_assign ?_
      refine g_nil ?_
      obtain ⟨n281, hn281, hlp⟩ := nx_inl hm hnx4
      exact d_round (n281, false, w64 (i253 + 1)) hlp hn281 ⟨rfl, rfl, rfl, rfl, rfl, rfl, trivial⟩ (fun W h => (h.dropH (t := 100080) rfl).phi (fun W hφ => hφ))
    ·
     replace hm := ite_f hm (of_decide_eq_false h267)
     refine c_exit <| d_exit_then <| d_exit_then <| d_exit_block ?_
     replace hm := nx_out (C := (fun e => m_ref08_Net_Ready_j3 l154 x202 i157 e = some o2)) hm hnx4 hr4
     exact d_round b252 hm Nat.zero_lt_one ⟨rfl, rfl, rfl, rfl, rfl, trivial⟩ (fun W h => h.phi (fun W hφ => hφ))
   ·
    unfold m_ref08_Net_Ready_j3 at hm
    refine d_flat [(0, .pointer (some ⟨go0, 0, none⟩)), (3, .slice A155 l154.length c156), (4, .int .i64 i157), (5, .pointer (some ⟨g206, 0, none⟩)), (6, .bool b233)] ⟨rfl, rfl, rfl, rfl, rfl, trivial⟩ (fun u => ?_)
    refine d_then <| c_seq <| c_region <| g_v rfl r_move <| g_nil <| d_then ?_
    refine c_cond rfl (fun h234 => ?_) (fun h234 => ?_)
    ·
     replace hm := ite_t hm h234
     refine c_region <| g_v rfl r_move <| g_v rfl (r_loadA (tag := 100050) rfl rfl Try.isAgg40 Try.sizeOf40 rfl rfl) ?_
     refine g_e rfl (e_lit (tag := 100650) (l := [x202]) (enc := GItem.enc) (sz := 6) rfl Try.underlying52 (lit40_2 _ _ _ _ _ _) rfl rfl (fun _ => rfl)) (fun g235 _ => ?_)
     replace hm := bnd hm
     obtain ⟨l236, hl236, hm⟩ := hm
     refine g_e rfl (e_appR (enc := GItem.enc) (l := l154) (l1 := [x202]) (l2 := l236) (tag := 13) Try.underlying52 inf40_3 rfl (by decide) (by decide) (fun _ => rfl) (fun _ => rfl) rfl hc156 rfl rfl (fun W hS => rowCl (tag := 100650) rfl W hS) hl236) (fun ⟨A237, c238⟩ hc238 => ?_)
     refine g_v rfl r_assign <| g_nil <| d_normal_block <| d_then <| c_region <| g_v rfl r_move <| g_v rfl (r_add rfl rfl rfl) <| g_v rfl r_assign <| g_nil ?_
     obtain ⟨n239, hn239, hlp⟩ := nx_inl hm hnx2
     exact d_round (n239, l236, w64 (i157 + 1), A237, c238) ⟨hlp, hc238⟩ hn239 ⟨rfl, rfl, rfl, trivial⟩ (fun W h => ((h.dropR (t := 100650) rfl).dropH (t := 100050) rfl).phi (fun W hφ => hφ))
    ·
     replace hm := ite_f hm (bool_nt h234)
     refine c_skip <| d_normal_block <| d_then <| c_region <| g_v rfl r_move <| g_v rfl (r_add rfl rfl rfl) <| g_v rfl r_assign <| g_nil ?_
     obtain ⟨n240, hn240, hlp⟩ := nx_inl hm hnx2
     exact d_round (n240, l154, w64 (i157 + 1), A155, c156) ⟨hlp, hc156⟩ hn240 ⟨rfl, rfl, rfl, trivial⟩ (fun W h => (h.dropH (t := 100050) rfl).phi (fun W hφ => hφ))
  ·
   replace hm := ite_f hm (of_decide_eq_false h201)
   refine c_exit <| d_exit_then <| d_exit_then <| d_exit_block ?_
   replace hm := nx_out (C := (fun e => m_ref08_Net_Ready_j1 e = some r)) hm hnx2 hr2
   exact d_round (l154, A155, c156) ⟨hm, hc156⟩ Nat.zero_lt_one ⟨rfl, trivial⟩ (fun W h => h.phi (fun W hφ => hφ))
 ·
  unfold m_ref08_Net_Ready_j1 at hm
  refine d_flat [(3, .slice A137 l136.length c138)] ⟨rfl, trivial⟩ (fun u => ?_)
  refine d_sta ⟨w0, M, (1000, go0, .cells #[.slice Ao0_0 o0.fItems.length co0_0, .slice Ao0_1 o0.fConns.length co0_1, .int .i64 o0.fLast, .int .i64 o0.fOpens] 55 (0, 0)) :: H, (13, ⟨.slice A137 l136.length c138, 40, 6, l136.length, l136.flatMap GItem.enc⟩) :: (1000, ⟨.slice Ao0_0 o0.fItems.length co0_0, 40, 6, o0.fItems.length, o0.fItems.flatMap GItem.enc⟩) :: (1001, ⟨.slice Ao0_1 o0.fConns.length co0_1, 77, 3, o0.fConns.length, o0.fConns.flatMap Gref08_Conn.enc⟩) :: R, φ⟩ (fun _ h => h) <| d_then <| c_seq <| c_region <| g_v rfl r_move <| g_v rfl r_assign <| g_nil <| d_then <| c_ret ?_
  replace hm := Option.some.inj hm
  subst hm
  refine d_sta _ (fun W h => ok_frontR (t := 13) (t' := 2000) h rfl) ?_
  refine d_retC (A137, c138) Try.results26 ?_ hc138 (fun W h => h.phi (fun W hφ => hφ)) (.inr rfl)
  refine res_tmp <| res_nil ?_
  exact rfl
noncomputable def m_ref08_Pick_j1 (p1 : Int) (i2 : Int) : Option Int :=
  (dvd p1).bind fun u3 =>
  some (i2.tmod p1)
noncomputable def m_ref08_Pick (p0 : Int) (p1 : Int) : Option Int :=
  if p0 < 0 then
    m_ref08_Pick_j1 p1 (w64 (0 - w64 (p0 + 1)))
  else
    m_ref08_Pick_j1 p1 p0
theorem c_ref08_Pick {w0 : World} {M : Nat → Prop} {H : List (Nat × Nat × Obj)} {R : List (Nat × Row)} {φ : World → Prop} (p0 : Int) (p1 : Int) (r : Int) (hm : m_ref08_Pick p0 p1 = some r) :
    Cn Try.prog 11 #[.int .i64 p0, .int .i64 p1] ⟨w0, M, H, R, φ⟩ (fun x : Unit => .int .i64 r) (fun x => True) (fun x => ⟨w0, M, H, R, φ⟩) := by
 unfold m_ref08_Pick at hm
 refine cn_intro (fn := Try.f11) (N := 13) Try.func11 rfl Try.ntmps11 rfl <| c_seq <| c_region <| g_v rfl r_assign <| g_nil <| d_then <| c_seq ?_
 refine c_cut (ι := Int) [0, 1] (fun i2 => [(0, .int .i64 i2)]) (fun i2 => ⟨w0, M, H, R, φ⟩) (fun i2 => m_ref08_Pick_j1 p1 i2 = some r) ?_ (fun i2 u hm => ?_)
 ·
  refine c_seq <| c_region <| g_v rfl r_move <| g_v rfl (r_lss rfl rfl) <| g_nil <| d_then ?_
  refine c_cond rfl (fun h4 => ?_) (fun h4 => ?_)
  ·
   replace hm := ite_t hm (of_decide_eq_true h4)
   refine c_region <| g_v rfl r_move <| g_v rfl (r_add rfl rfl rfl) <| g_v rfl (r_neg rfl rfl) <| g_v rfl r_assign <| g_nil ?_
   exact d_round (w64 (0 - w64 (p0 + 1))) hm Nat.zero_lt_one ⟨rfl, rfl, trivial⟩ (fun W h => h.phi (fun W hφ => hφ))
  ·
   replace hm := ite_f hm (of_decide_eq_false h4)
   refine c_skip ?_
   exact d_round p0 hm Nat.zero_lt_one ⟨rfl, rfl, trivial⟩ (fun W h => h.phi (fun W hφ => hφ))
 ·
  unfold m_ref08_Pick_j1 at hm
  refine d_flat [(0, .int .i64 i2), (1, .int .i64 p1)] ⟨rfl, rfl, trivial⟩ (fun u => ?_)
  refine d_sta ⟨w0, M, H, R, φ⟩ (fun _ h => h) <| d_then <| c_seq <| c_region <| g_v rfl r_move <| g_v rfl r_move ?_
  replace hm := bnd hm
  obtain ⟨u3, hu3, hm⟩ := hm
  refine g_v rfl (r_rem rfl rfl (dvd_some hu3) rfl) <| g_v rfl r_assign <| g_nil <| d_then <| c_ret ?_
  replace hm := Option.some.inj hm
  subst hm
  refine d_retC () Try.results11 ?_ trivial (fun W h => ok_pre (H1 := []) (R1 := []) h (fun W hφ => hφ)) (.inr rfl)
  refine res_tmp <| res_nil ?_
  exact rfl
noncomputable def m_ref08_Net_take_j1 (o0 : Gref08_Net) (l153 : List GItem) : Option Gref08_Net :=
  some (⟨l153, o0.fConns, o0.fLast, o0.fOpens⟩ : Gref08_Net)
noncomputable def m_ref08_Net_take_s2 (o0 : Gref08_Net) (p1 : GItem) (l185 : List GItem) (i188 : Int) : Option (((List GItem) × Int) ⊕ (List GItem)) :=
  if i188 < (o0.fItems.length : Int) then
    (at_ o0.fItems i188).bind fun x230 =>
    if x230.fNumber ≠ p1.fNumber then
      (at_ o0.fItems i188).bind fun x236 =>
      (app 56 l185 [x236]).bind fun l241 =>
      some (.inl (l241, w64 (i188 + 1)))
    else
      some (.inl (l185, w64 (i188 + 1)))
  else
    some (.inr l185)
noncomputable def m_ref08_Net_take (p1 : GItem) (o0 : Gref08_Net) : Option Gref08_Net :=
  (loop (fun s => m_ref08_Net_take_s2 o0 p1 s.1 s.2) (([] : List GItem), 0)).bind fun e => m_ref08_Net_take_j1 o0 e
theorem c_ref08_Net_take {w0 : World} {M : Nat → Prop} {H : List (Nat × Nat × Obj)} {R : List (Nat × Row)} {φ : World → Prop} (p1 : GItem) (go0 : Nat) (o0 : Gref08_Net) (Ao0_0 : Option Addr) (co0_0 : Nat) (hco0_0 : o0.fItems.length ≤ co0_0) (Ao0_1 : Option Addr) (co0_1 : Nat) (hco0_1 : o0.fConns.length ≤ co0_1) (r : Gref08_Net) (hm : m_ref08_Net_take p1 o0 = some r) :
    Cn Try.prog 57 #[.pointer (some ⟨go0, 0, none⟩), .agg #[.int .i64 p1.fNumber, .int .i64 p1.fKind, .int .i64 p1.fFrom, .int .i64 p1.fTo, .int .i64 p1.fConn, .string p1.fBody]] ⟨w0, M, (1000, go0, .cells #[.slice Ao0_0 o0.fItems.length co0_0, .slice Ao0_1 o0.fConns.length co0_1, .int .i64 o0.fLast, .int .i64 o0.fOpens] 55 (0, 0)) :: H, (1000, ⟨.slice Ao0_0 o0.fItems.length co0_0, 40, 6, o0.fItems.length, o0.fItems.flatMap GItem.enc⟩) :: (1001, ⟨.slice Ao0_1 o0.fConns.length co0_1, 77, 3, o0.fConns.length, o0.fConns.flatMap Gref08_Conn.enc⟩) :: R, φ⟩ (fun x : Option Addr × Nat => .tuple #[]) (fun x => r.fItems.length ≤ x.2) (fun x => ⟨w0, M, (1000, go0, .cells #[.slice x.1 r.fItems.length x.2, .slice Ao0_1 o0.fConns.length co0_1, .int .i64 o0.fLast, .int .i64 o0.fOpens] 55 (0, 0)) :: H, (2000, ⟨.slice x.1 r.fItems.length x.2, 40, 6, r.fItems.length, r.fItems.flatMap GItem.enc⟩) :: (1001, ⟨.slice Ao0_1 o0.fConns.length co0_1, 77, 3, o0.fConns.length, o0.fConns.flatMap Gref08_Conn.enc⟩) :: R, φ⟩) := by
 unfold m_ref08_Net_take at hm
 refine cn_intro (fn := Try.f57) (N := 40) Try.func57 rfl Try.ntmps57 rfl <| c_seq <| c_region ?_
 refine g_e rfl (e_box 100030 rfl) (fun g1 _ => ?_)
 refine g_nil <| d_then <| c_seq <| c_region <| g_v rfl r_assign <| g_nil <| d_then <| c_seq <| c_seq <| c_region ?_
 refine g_v rfl r_assign <| g_nil <| d_then <| c_sta _ (fun W h => nilR h 13 40 6) ?_
 refine c_cut (ι := (List GItem) × Option Addr × Nat) [0, 4] (fun ⟨l153, A154, c155⟩ => [(4, .slice A154 l153.length c155)]) (fun ⟨l153, A154, c155⟩ => ⟨w0, M, (1000, go0, .cells #[.slice Ao0_0 o0.fItems.length co0_0, .slice Ao0_1 o0.fConns.length co0_1, .int .i64 o0.fLast, .int .i64 o0.fOpens] 55 (0, 0)) :: H, (13, ⟨.slice A154 l153.length c155, 40, 6, l153.length, l153.flatMap GItem.enc⟩) :: (1000, ⟨.slice Ao0_0 o0.fItems.length co0_0, 40, 6, o0.fItems.length, o0.fItems.flatMap GItem.enc⟩) :: (1001, ⟨.slice Ao0_1 o0.fConns.length co0_1, 77, 3, o0.fConns.length, o0.fConns.flatMap Gref08_Conn.enc⟩) :: R, φ⟩) (fun ⟨l153, A154, c155⟩ => m_ref08_Net_take_j1 o0 l153 = some r ∧ l153.length ≤ c155) ?_ (fun ⟨l153, A154, c155⟩ u ⟨hm, hc155⟩ => ?_)
 ·
  refine c_block ?_
  replace hm := bnd hm
  obtain ⟨out2, hl2, hr2⟩ := hm
  obtain ⟨n218', hl2⟩ := loop_lp hl2
  refine c_loopU (ι := Nat × (List GItem) × Int × Option Addr × Nat) [0, 3, 4, 5] (fun ⟨n218, l185, i188, A186, c187⟩ => [(4, .slice A186 l185.length c187), (5, .int .i64 i188)]) (fun ⟨n218, l185, i188, A186, c187⟩ => ⟨w0, M, (100030, g1, .cells #[.int .i64 p1.fNumber, .int .i64 p1.fKind, .int .i64 p1.fFrom, .int .i64 p1.fTo, .int .i64 p1.fConn, .string p1.fBody] 40 (0, 0)) :: (1000, go0, .cells #[.slice Ao0_0 o0.fItems.length co0_0, .slice Ao0_1 o0.fConns.length co0_1, .int .i64 o0.fLast, .int .i64 o0.fOpens] 55 (0, 0)) :: H, (13, ⟨.slice A186 l185.length c187, 40, 6, l185.length, l185.flatMap GItem.enc⟩) :: (1000, ⟨.slice Ao0_0 o0.fItems.length co0_0, 40, 6, o0.fItems.length, o0.fItems.flatMap GItem.enc⟩) :: (1001, ⟨.slice Ao0_1 o0.fConns.length co0_1, 77, 3, o0.fConns.length, o0.fConns.flatMap Gref08_Conn.enc⟩) :: R, φ⟩) (fun ⟨n218, l185, i188, A186, c187⟩ => Lp (fun s => m_ref08_Net_take_s2 o0 p1 s.1 s.2) n218 (l185, i188) out2 ∧ l185.length ≤ c187) (fun ⟨n218, l185, i188, A186, c187⟩ => n218) (n218', ([] : List GItem), 0, none, 0) ⟨hl2, (Nat.le_refl 0)⟩ ⟨rfl, rfl, rfl, rfl, trivial⟩ (fun W h => h.phi (fun W hφ => hφ)) (fun ⟨n218, l185, i188, A186, c187⟩ u ⟨hlp, hc187⟩ => ?_)
  obtain ⟨o2, hm, hnx2⟩ := lp_step hlp
  clear hlp
  replace hm : m_ref08_Net_take_s2 o0 p1 l185 i188 = some o2 := hm
  unfold m_ref08_Net_take_s2 at hm
  refine c_flat [(0, .pointer (some ⟨go0, 0, none⟩)), (3, .pointer (some ⟨g1, 0, none⟩)), (4, .slice A186 l185.length c187), (5, .int .i64 i188)] ⟨rfl, rfl, rfl, rfl, trivial⟩ (fun u => ?_)
  refine c_sta ⟨w0, M, (100030, g1, .cells #[.int .i64 p1.fNumber, .int .i64 p1.fKind, .int .i64 p1.fFrom, .int .i64 p1.fTo, .int .i64 p1.fConn, .string p1.fBody] 40 (0, 0)) :: (1000, go0, .cells #[.slice Ao0_0 o0.fItems.length co0_0, .slice Ao0_1 o0.fConns.length co0_1, .int .i64 o0.fLast, .int .i64 o0.fOpens] 55 (0, 0)) :: H, (13, ⟨.slice A186 l185.length c187, 40, 6, l185.length, l185.flatMap GItem.enc⟩) :: (1000, ⟨.slice Ao0_0 o0.fItems.length co0_0, 40, 6, o0.fItems.length, o0.fItems.flatMap GItem.enc⟩) :: (1001, ⟨.slice Ao0_1 o0.fConns.length co0_1, 77, 3, o0.fConns.length, o0.fConns.flatMap Gref08_Conn.enc⟩) :: R, φ⟩ (fun _ h => h) <| c_seq <| c_seq <| c_region <| g_v rfl r_move <| g_v rfl r_move <| g_v rfl (r_nilck rfl) <| g_v rfl (r_field (n := 0) Try.underlying55 rfl Try.sizeOf52 rfl rfl) <| g_v rfl (r_load (tag := 1000) rfl rfl rfl Try.isAgg52) <| g_v rfl (r_lenL Try.underlying52 rfl) ?_
  refine g_v rfl (r_lss rfl rfl) <| g_nil <| d_then ?_
  refine c_cond rfl (fun h219 => ?_) (fun h219 => ?_)
  ·
   replace hm := ite_t hm (of_decide_eq_true h219)
   refine c_skip <| d_then <| c_seq <| c_block <| c_seq <| ga_start (n := 11) ⟨w0, M, (100030, g1, .cells #[.int .i64 p1.fNumber, .int .i64 p1.fKind, .int .i64 p1.fFrom, .int .i64 p1.fTo, .int .i64 p1.fConn, .string p1.fBody] 40 (0, 0)) :: (1000, go0, .cells #[.slice Ao0_0 o0.fItems.length co0_0, .slice Ao0_1 o0.fConns.length co0_1, .int .i64 o0.fLast, .int .i64 o0.fOpens] 55 (0, 0)) :: H, (13, ⟨.slice A186 l185.length c187, 40, 6, l185.length, l185.flatMap GItem.enc⟩) :: (1000, ⟨.slice Ao0_0 o0.fItems.length co0_0, 40, 6, o0.fItems.length, o0.fItems.flatMap GItem.enc⟩) :: (1001, ⟨.slice Ao0_1 o0.fConns.length co0_1, 77, 3, o0.fConns.length, o0.fConns.flatMap Gref08_Conn.enc⟩) :: R, φ⟩ [] #[false, false, false, false, false, false, false, false, false, false, false] (fun W h => h.phi (fun W hφ => hφ)) mixed rfl rfl <| ga_v (i := 0) (bz 11 1) rfl (by kernel_rfl) (fun _ _ _ _ h => h) rfl (r_move) <| ga_v (i := 1) (bz 11 3) rfl (by kernel_rfl) (fun _ _ _ _ h => h) rfl (r_nilck rfl) <| ga_v (i := 2) (bz 11 7) rfl (by kernel_rfl) (fun _ _ _ _ h => h) rfl (r_field (n := 0) Try.underlying55 rfl Try.sizeOf52 rfl rfl) <| ga_v (i := 3) (bz 11 15) rfl (by kernel_rfl) (fun _ _ _ _ h => h) rfl (r_load (tag := 1000) rfl rfl rfl Try.isAgg52) ?_
   refine ga_v (i := 4) (bz 11 31) rfl (by kernel_rfl) (fun _ _ _ _ h => h) rfl (r_move) ?_
   replace hm := bnd hm
   obtain ⟨x230, hx230, hm⟩ := hm
   refine ga_know _ (fun W hS => cl_at (p := (Sta.ok ⟨w0, M, (100030, g1, .cells #[.int .i64 p1.fNumber, .int .i64 p1.fKind, .int .i64 p1.fFrom, .int .i64 p1.fTo, .int .i64 p1.fConn, .string p1.fBody] 40 (0, 0)) :: (1000, go0, .cells #[.slice Ao0_0 o0.fItems.length co0_0, .slice Ao0_1 o0.fConns.length co0_1, .int .i64 o0.fLast, .int .i64 o0.fOpens] 55 (0, 0)) :: H, (13, ⟨.slice A186 l185.length c187, 40, 6, l185.length, l185.flatMap GItem.enc⟩) :: (1000, ⟨.slice Ao0_0 o0.fItems.length co0_0, 40, 6, o0.fItems.length, o0.fItems.flatMap GItem.enc⟩) :: (1001, ⟨.slice Ao0_1 o0.fConns.length co0_1, 77, 3, o0.fConns.length, o0.fConns.flatMap Gref08_Conn.enc⟩) :: R, φ⟩)) (sz := 6) (fun _ => rfl) (by decide) (hS.phi (fun W hφ => hφ)) (fun W hS => rowCl (S := ⟨w0, M, (100030, g1, .cells #[.int .i64 p1.fNumber, .int .i64 p1.fKind, .int .i64 p1.fFrom, .int .i64 p1.fTo, .int .i64 p1.fConn, .string p1.fBody] 40 (0, 0)) :: (1000, go0, .cells #[.slice Ao0_0 o0.fItems.length co0_0, .slice Ao0_1 o0.fConns.length co0_1, .int .i64 o0.fLast, .int .i64 o0.fOpens] 55 (0, 0)) :: H, (13, ⟨.slice A186 l185.length c187, 40, 6, l185.length, l185.flatMap GItem.enc⟩) :: (1000, ⟨.slice Ao0_0 o0.fItems.length co0_0, 40, 6, o0.fItems.length, o0.fItems.flatMap GItem.enc⟩) :: (1001, ⟨.slice Ao0_1 o0.fConns.length co0_1, 77, 3, o0.fConns.length, o0.fConns.flatMap Gref08_Conn.enc⟩) :: R, φ⟩) (tag := 1000) rfl W hS) hx230) ?_
   rintro ⟨ad231, hA233, f232⟩
   refine ga_v (i := 5) (bz 11 63) rfl (by kernel_rfl) (fun _ _ _ _ h => h) rfl (r_ix Try.underlying52 Try.sizeOf40 rfl hA233 rfl hx230) ?_
   have f234 := fun (W : World) (h : (Sta.ok ⟨w0, M, (100030, g1, .cells #[.int .i64 p1.fNumber, .int .i64 p1.fKind, .int .i64 p1.fFrom, .int .i64 p1.fTo, .int .i64 p1.fConn, .string p1.fBody] 40 (0, 0)) :: (1000, go0, .cells #[.slice Ao0_0 o0.fItems.length co0_0, .slice Ao0_1 o0.fConns.length co0_1, .int .i64 o0.fLast, .int .i64 o0.fOpens] 55 (0, 0)) :: H, (13, ⟨.slice A186 l185.length c187, 40, 6, l185.length, l185.flatMap GItem.enc⟩) :: (1000, ⟨.slice Ao0_0 o0.fItems.length co0_0, 40, 6, o0.fItems.length, o0.fItems.flatMap GItem.enc⟩) :: (1001, ⟨.slice Ao0_1 o0.fConns.length co0_1, 77, 3, o0.fConns.length, o0.fConns.flatMap Gref08_Conn.enc⟩) :: R, φ⟩) W) => Cl.drop (f232 W h) 0
   refine ga_v (i := 6) (bz 11 127) rfl (by kernel_rfl) (fun _ _ _ _ h => h) rfl (r_fieldF Try.underlying40 rfl Try.sizeOf3 rfl) <| ga_v (i := 7) (bz 11 255) rfl (by kernel_rfl) (fun _ _ _ _ h => h) rfl (r_ld rfl Try.isAgg3 (fun W hS => Cl.head (f234 W hS))) <| ga_r (i := 8) (bz 11 511) rfl (by kernel_rfl) (by decide) rfl (r_field (n := 0) Try.underlying40 rfl Try.sizeOf3 rfl rfl) <| ga_r (i := 9) (bz 11 1023) rfl (by kernel_rfl) (by decide) rfl (r_load (tag := 100030) rfl rfl rfl Try.isAgg3) <| ga_r (i := 10) (bz 11 2047) rfl (by kernel_rfl) (by decide) rfl (r_neq rfl rfl) <| ga_done (by kernel_rfl) <| d_then ?_
   refine c_flat [(0, .pointer (some ⟨go0, 0, none⟩)), (3, .pointer (some ⟨g1, 0, none⟩)), (4, .slice A186 l185.length c187), (5, .int .i64 i188), (25, .bool (decide (x230.fNumber ≠ p1.fNumber)))] ⟨rfl, rfl, rfl, rfl, rfl, trivial⟩ (fun u => ?_)
   refine c_cond rfl (fun h235 => ?_) (fun h235 => ?_)
   ·
    replace hm := ite_t hm (of_decide_eq_true h235)
    refine c_region <| g_v rfl r_move <| g_v rfl r_move <| g_v rfl (r_nilck rfl) <| g_v rfl (r_field (n := 0) Try.underlying55 rfl Try.sizeOf52 rfl rfl) <| g_v rfl (r_load (tag := 1000) rfl rfl rfl Try.isAgg52) <| g_v rfl r_move ?_
    replace hm := bnd hm
    obtain ⟨x236, hx236, hm⟩ := hm
    refine g_know _ (fun W hS => cl_at (p := (Sta.ok ⟨w0, M, (100030, g1, .cells #[.int .i64 p1.fNumber, .int .i64 p1.fKind, .int .i64 p1.fFrom, .int .i64 p1.fTo, .int .i64 p1.fConn, .string p1.fBody] 40 (0, 0)) :: (1000, go0, .cells #[.slice Ao0_0 o0.fItems.length co0_0, .slice Ao0_1 o0.fConns.length co0_1, .int .i64 o0.fLast, .int .i64 o0.fOpens] 55 (0, 0)) :: H, (13, ⟨.slice A186 l185.length c187, 40, 6, l185.length, l185.flatMap GItem.enc⟩) :: (1000, ⟨.slice Ao0_0 o0.fItems.length co0_0, 40, 6, o0.fItems.length, o0.fItems.flatMap GItem.enc⟩) :: (1001, ⟨.slice Ao0_1 o0.fConns.length co0_1, 77, 3, o0.fConns.length, o0.fConns.flatMap Gref08_Conn.enc⟩) :: R, φ⟩)) (sz := 6) (fun _ => rfl) (by decide) hS (fun W hS => rowCl (S := ⟨w0, M, (100030, g1, .cells #[.int .i64 p1.fNumber, .int .i64 p1.fKind, .int .i64 p1.fFrom, .int .i64 p1.fTo, .int .i64 p1.fConn, .string p1.fBody] 40 (0, 0)) :: (1000, go0, .cells #[.slice Ao0_0 o0.fItems.length co0_0, .slice Ao0_1 o0.fConns.length co0_1, .int .i64 o0.fLast, .int .i64 o0.fOpens] 55 (0, 0)) :: H, (13, ⟨.slice A186 l185.length c187, 40, 6, l185.length, l185.flatMap GItem.enc⟩) :: (1000, ⟨.slice Ao0_0 o0.fItems.length co0_0, 40, 6, o0.fItems.length, o0.fItems.flatMap GItem.enc⟩) :: (1001, ⟨.slice Ao0_1 o0.fConns.length co0_1, 77, 3, o0.fConns.length, o0.fConns.flatMap Gref08_Conn.enc⟩) :: R, φ⟩) (tag := 1000) rfl W hS) hx236) ?_
    rintro ⟨ad237, hA239, f238⟩
    refine g_v rfl (r_ix Try.underlying52 Try.sizeOf40 rfl hA239 rfl hx236) <| g_v rfl (r_ldA rfl Try.isAgg40 Try.sizeOf40 (fun W hS => (f238 W hS).take 6) rfl) ?_
    refine g_e rfl (e_lit (tag := 100340) (l := [x236]) (enc := GItem.enc) (sz := 6) rfl Try.underlying52 (lit40_2 _ _ _ _ _ _) rfl rfl (fun _ => rfl)) (fun g240 _ => ?_)
    replace hm := bnd hm
    obtain ⟨l241, hl241, hm⟩ := hm
    refine g_e rfl (e_appR (enc := GItem.enc) (l := l185) (l1 := [x236]) (l2 := l241) (tag := 13) Try.underlying52 inf40_3 rfl (by decide) (by decide) (fun _ => rfl) (fun _ => rfl) rfl hc187 rfl rfl (fun W hS => rowCl (tag := 100340) rfl W hS) hl241) (fun ⟨A242, c243⟩ hc243 => ?_)
    refine g_v rfl r_assign <| g_nil <| d_normal_block <| d_then ?_
    refine c_flat [(0, .pointer (some ⟨go0, 0, none⟩)), (3, .pointer (some ⟨g1, 0, none⟩)), (4, .slice A242 l241.length c243), (5, .int .i64 i188)] ⟨rfl, rfl, rfl, rfl, trivial⟩ (fun u => ?_)
    refine c_sta ⟨w0, M, (100030, g1, .cells #[.int .i64 p1.fNumber, .int .i64 p1.fKind, .int .i64 p1.fFrom, .int .i64 p1.fTo, .int .i64 p1.fConn, .string p1.fBody] 40 (0, 0)) :: (1000, go0, .cells #[.slice Ao0_0 o0.fItems.length co0_0, .slice Ao0_1 o0.fConns.length co0_1, .int .i64 o0.fLast, .int .i64 o0.fOpens] 55 (0, 0)) :: H, (100340, ⟨.slice (some ⟨g240, 0, none⟩) [x236].length 1, 40, 6, [x236].length, [x236].flatMap GItem.enc⟩) :: (13, ⟨.slice A242 l241.length c243, 40, 6, l241.length, l241.flatMap GItem.enc⟩) :: (1000, ⟨.slice Ao0_0 o0.fItems.length co0_0, 40, 6, o0.fItems.length, o0.fItems.flatMap GItem.enc⟩) :: (1001, ⟨.slice Ao0_1 o0.fConns.length co0_1, 77, 3, o0.fConns.length, o0.fConns.flatMap Gref08_Conn.enc⟩) :: R, φ⟩ (fun _ h => h) <| c_region <| g_v rfl r_move <| g_v rfl (r_add rfl rfl rfl) <| g_v rfl r_assign <| g_nil ?_
    obtain ⟨n244, hn244, hlp⟩ := nx_inl hm hnx2
    exact d_round (n244, l241, w64 (i188 + 1), A242, c243) ⟨hlp, hc243⟩ hn244 ⟨rfl, rfl, rfl, rfl, trivial⟩ (fun W h => (h.dropR (t := 100340) rfl).phi (fun W hφ => hφ))
   ·
    replace hm := ite_f hm (of_decide_eq_false h235)
    refine c_skip <| d_normal_block <| d_then <| c_region <| g_v rfl r_move <| g_v rfl (r_add rfl rfl rfl) <| g_v rfl r_assign <| g_nil ?_
    obtain ⟨n245, hn245, hlp⟩ := nx_inl hm hnx2
    exact d_round (n245, l185, w64 (i188 + 1), A186, c187) ⟨hlp, hc187⟩ hn245 ⟨rfl, rfl, rfl, rfl, trivial⟩ (fun W h => h.phi (fun W hφ => hφ))
  ·
   replace hm := ite_f hm (of_decide_eq_false h219)
   refine c_exit <| d_exit_then <| d_exit_then <| d_exit_block ?_
   replace hm := nx_out (C := (fun e => m_ref08_Net_take_j1 o0 e = some r)) hm hnx2 hr2
   exact d_round (l185, A186, c187) ⟨hm, hc187⟩ Nat.zero_lt_one ⟨rfl, rfl, trivial⟩ (fun W h => (h.dropH (t := 100030) rfl).phi (fun W hφ => hφ))
 ·
  unfold m_ref08_Net_take_j1 at hm
  refine d_flat [(0, .pointer (some ⟨go0, 0, none⟩)), (4, .slice A154 l153.length c155)] ⟨rfl, rfl, trivial⟩ (fun u => ?_)
  refine d_sta ⟨w0, M, (1000, go0, .cells #[.slice Ao0_0 o0.fItems.length co0_0, .slice Ao0_1 o0.fConns.length co0_1, .int .i64 o0.fLast, .int .i64 o0.fOpens] 55 (0, 0)) :: H, (13, ⟨.slice A154 l153.length c155, 40, 6, l153.length, l153.flatMap GItem.enc⟩) :: (1000, ⟨.slice Ao0_0 o0.fItems.length co0_0, 40, 6, o0.fItems.length, o0.fItems.flatMap GItem.enc⟩) :: (1001, ⟨.slice Ao0_1 o0.fConns.length co0_1, 77, 3, o0.fConns.length, o0.fConns.flatMap Gref08_Conn.enc⟩) :: R, φ⟩ (fun _ h => h) <| d_then <| c_region <| g_v rfl r_move <| g_v rfl r_move <| g_v rfl (r_nilck rfl) <| g_v rfl (r_field (n := 0) Try.underlying55 rfl Try.sizeOf52 rfl rfl) <| g_storeL (tag := 1000) rfl rfl rfl rfl Try.sizeOf52 rfl rfl <| g_nil ?_
  replace hm := Option.some.inj hm
  subst hm
  refine d_sta _ (fun W h => ok_frontR (t := 13) (t' := 2000) h rfl) ?_
  refine d_retC (A154, c155) Try.results57 ?_ hc155 (fun W h => (h.dropR (t := 1000) rfl).phi (fun W hφ => hφ)) (.inl rfl)
  refine res_nil ?_
  exact rfl
noncomputable def m_ref08_Net_Take (p1 : Int) (o0 : Gref08_Net) : Option (GItem × Bool × Gref08_Net) :=
  (m_ref08_Net_Ready o0).bind fun x2 =>
  if (x2.length : Int) = 0 then
    some ((⟨0, 0, 0, 0, 0, (⟨#[]⟩ : ByteArray)⟩ : GItem), false, o0)
  else
    (m_ref08_Pick p1 (x2.length : Int)).bind fun x8 =>
    (at_ x2 x8).bind fun x10 =>
    (m_ref08_Net_take x10 o0).bind fun x15 =>
    some (x10, true, (⟨x15.fItems, o0.fConns, o0.fLast, o0.fOpens⟩ : Gref08_Net))
theorem c_ref08_Net_Take {w0 : World} {M : Nat → Prop} {H : List (Nat × Nat × Obj)} {R : List (Nat × Row)} {φ : World → Prop} (p1 : Int) (go0 : Nat) (o0 : Gref08_Net) (Ao0_0 : Option Addr) (co0_0 : Nat) (hco0_0 : o0.fItems.length ≤ co0_0) (Ao0_1 : Option Addr) (co0_1 : Nat) (hco0_1 : o0.fConns.length ≤ co0_1) (r : GItem × Bool × Gref08_Net) (hm : m_ref08_Net_Take p1 o0 = some r) :
    Cn Try.prog 47 #[.pointer (some ⟨go0, 0, none⟩), .int .i64 p1] ⟨w0, M, (1000, go0, .cells #[.slice Ao0_0 o0.fItems.length co0_0, .slice Ao0_1 o0.fConns.length co0_1, .int .i64 o0.fLast, .int .i64 o0.fOpens] 55 (0, 0)) :: H, (1000, ⟨.slice Ao0_0 o0.fItems.length co0_0, 40, 6, o0.fItems.length, o0.fItems.flatMap GItem.enc⟩) :: (1001, ⟨.slice Ao0_1 o0.fConns.length co0_1, 77, 3, o0.fConns.length, o0.fConns.flatMap Gref08_Conn.enc⟩) :: R, φ⟩ (fun x : Option Addr × Nat => .tuple #[.agg #[.int .i64 r.1.fNumber, .int .i64 r.1.fKind, .int .i64 r.1.fFrom, .int .i64 r.1.fTo, .int .i64 r.1.fConn, .string r.1.fBody], .bool r.2.1]) (fun x => r.2.2.fItems.length ≤ x.2) (fun x => ⟨w0, M, (1000, go0, .cells #[.slice x.1 r.2.2.fItems.length x.2, .slice Ao0_1 o0.fConns.length co0_1, .int .i64 o0.fLast, .int .i64 o0.fOpens] 55 (0, 0)) :: H, (2000, ⟨.slice x.1 r.2.2.fItems.length x.2, 40, 6, r.2.2.fItems.length, r.2.2.fItems.flatMap GItem.enc⟩) :: (1001, ⟨.slice Ao0_1 o0.fConns.length co0_1, 77, 3, o0.fConns.length, o0.fConns.flatMap Gref08_Conn.enc⟩) :: R, φ⟩) := by
 unfold m_ref08_Net_Take at hm
 refine cn_intro (fn := Try.f47) (N := 25) Try.func47 rfl Try.ntmps47 rfl <| c_seq <| c_region ?_
 refine g_e rfl (e_alloc 100040 Try.zeroValue40) (fun g1 _ => ?_)
 refine g_v rfl r_assign <| g_nil <| d_then <| c_seq <| c_region <| g_v rfl r_move ?_
 replace hm := bnd hm
 obtain ⟨x2, hx3, hm⟩ := hm
 refine g_cn ⟨w0, M, (1000, go0, .cells #[.slice Ao0_0 o0.fItems.length co0_0, .slice Ao0_1 o0.fConns.length co0_1, .int .i64 o0.fLast, .int .i64 o0.fOpens] 55 (0, 0)) :: (100040, g1, .cells #[.int .i64 0, .int .i64 0, .int .i64 0, .int .i64 0, .int .i64 0, .string (⟨#[]⟩ : ByteArray)] 40 (0, 0)) :: H, (1000, ⟨.slice Ao0_0 o0.fItems.length co0_0, 40, 6, o0.fItems.length, o0.fItems.flatMap GItem.enc⟩) :: (1001, ⟨.slice Ao0_1 o0.fConns.length co0_1, 77, 3, o0.fConns.length, o0.fConns.flatMap Gref08_Conn.enc⟩) :: R, φ⟩ (fun W h => (ok_front (t := 1000) (t' := 1000) (ok_frontR (t := 1000) (t' := 1000) (ok_frontR (t := 1001) (t' := 1001) h rfl) rfl) rfl)) Try.call26 rfl rfl (c_ref08_Net_Ready go0 o0 Ao0_0 co0_0 hco0_0 Ao0_1 co0_1 hco0_1 _ hx3) (fun ⟨A4, c5⟩ hc5 => ?_)
 refine g_sta _ (fun W h => (ok_frontR (t := 2000) (t' := 100090) (ok_frontR (t := 1000) (t' := 1000) (ok_frontR (t := 1001) (t' := 1001) (ok_front (t := 1000) (t' := 1000) h rfl) rfl) rfl) rfl)) <| g_v rfl r_assign <| g_nil <| d_then <| c_seq <| c_seq <| c_region <| g_v rfl r_move <| g_v rfl (r_lenL Try.underlying52 rfl) <| g_v rfl (r_eql rfl rfl) ?_
 refine g_nil <| d_then ?_
 refine c_cond rfl (fun h7 => ?_) (fun h7 => ?_)
 ·
  replace hm := ite_t hm (of_decide_eq_true h7)
  refine c_seq <| c_region <| g_v rfl (r_build _ rfl (bld40_9)) <| g_storeL (tag := 100040) rfl rfl rfl rfl Try.sizeOf40 rfl rfl <| g_v rfl r_assign <| g_nil <| d_then ?_
  refine c_flat [(4, .pointer (some ⟨g1, 0, none⟩)), (5, .bool false)] ⟨rfl, rfl, trivial⟩ (fun u => ?_)
  refine c_sta ⟨w0, M, (1000, go0, .cells #[.slice Ao0_0 o0.fItems.length co0_0, .slice Ao0_1 o0.fConns.length co0_1, .int .i64 o0.fLast, .int .i64 o0.fOpens] 55 (0, 0)) :: (100040, g1, .cells #[.int .i64 0, .int .i64 0, .int .i64 0, .int .i64 0, .int .i64 0, .string (⟨#[]⟩ : ByteArray)] 40 (0, 0)) :: H, (100090, ⟨.slice A4 x2.length c5, 40, 6, x2.length, x2.flatMap GItem.enc⟩) :: (1000, ⟨.slice Ao0_0 o0.fItems.length co0_0, 40, 6, o0.fItems.length, o0.fItems.flatMap GItem.enc⟩) :: (1001, ⟨.slice Ao0_1 o0.fConns.length co0_1, 77, 3, o0.fConns.length, o0.fConns.flatMap Gref08_Conn.enc⟩) :: R, φ⟩ (fun _ h => h) <| c_ret <| d_ret_then ?_
  replace hm := Option.some.inj hm
  subst hm
  refine d_sta _ (fun W h => ok_frontR (t := 1000) (t' := 2000) h rfl) ?_
  refine d_retC (Ao0_0, co0_0) Try.results47 ?_ hco0_0 (fun W h => ((h.dropR (t := 100090) rfl).dropH (t := 100040) rfl).phi (fun W hφ => hφ)) (.inr rfl)
  refine res_agg (tag := 100040) rfl rfl Try.isAgg40 Try.sizeOf40 <| res_tmp <| res_nil ?_
  exact rfl
 ·
  replace hm := ite_f hm (of_decide_eq_false h7)
  refine c_skip <| d_then <| c_seq <| c_region <| g_v rfl r_move <| g_v rfl r_move <| g_v rfl r_move <| g_v rfl (r_lenL Try.underlying52 rfl) ?_
  replace hm := bnd hm
  obtain ⟨x8, hx9, hm⟩ := hm
  refine g_cn ⟨w0, M, _, _, φ⟩ (fun _ h => h) Try.call11 rfl rfl (c_ref08_Pick p1 (x2.length : Int) _ hx9) (fun _ _ => ?_)
  replace hm := bnd hm
  obtain ⟨x10, hx10, hm⟩ := hm
  refine g_know _ (fun W hS => cl_at (p := (Sta.ok ⟨w0, M, (1000, go0, .cells #[.slice Ao0_0 o0.fItems.length co0_0, .slice Ao0_1 o0.fConns.length co0_1, .int .i64 o0.fLast, .int .i64 o0.fOpens] 55 (0, 0)) :: (100040, g1, .cells #[.int .i64 0, .int .i64 0, .int .i64 0, .int .i64 0, .int .i64 0, .string (⟨#[]⟩ : ByteArray)] 40 (0, 0)) :: H, (100090, ⟨.slice A4 x2.length c5, 40, 6, x2.length, x2.flatMap GItem.enc⟩) :: (1000, ⟨.slice Ao0_0 o0.fItems.length co0_0, 40, 6, o0.fItems.length, o0.fItems.flatMap GItem.enc⟩) :: (1001, ⟨.slice Ao0_1 o0.fConns.length co0_1, 77, 3, o0.fConns.length, o0.fConns.flatMap Gref08_Conn.enc⟩) :: R, φ⟩)) (sz := 6) (fun _ => rfl) (by decide) hS (fun W hS => rowCl (S := ⟨w0, M, (1000, go0, .cells #[.slice Ao0_0 o0.fItems.length co0_0, .slice Ao0_1 o0.fConns.length co0_1, .int .i64 o0.fLast, .int .i64 o0.fOpens] 55 (0, 0)) :: (100040, g1, .cells #[.int .i64 0, .int .i64 0, .int .i64 0, .int .i64 0, .int .i64 0, .string (⟨#[]⟩ : ByteArray)] 40 (0, 0)) :: H, (100090, ⟨.slice A4 x2.length c5, 40, 6, x2.length, x2.flatMap GItem.enc⟩) :: (1000, ⟨.slice Ao0_0 o0.fItems.length co0_0, 40, 6, o0.fItems.length, o0.fItems.flatMap GItem.enc⟩) :: (1001, ⟨.slice Ao0_1 o0.fConns.length co0_1, 77, 3, o0.fConns.length, o0.fConns.flatMap Gref08_Conn.enc⟩) :: R, φ⟩) (tag := 100090) rfl W hS) hx10) ?_
  rintro ⟨ad11, hA13, f12⟩
  refine g_v rfl (r_ix Try.underlying52 Try.sizeOf40 rfl hA13 rfl hx10) <| g_v rfl (r_ldA rfl Try.isAgg40 Try.sizeOf40 (fun W hS => (f12 W hS).take 6) rfl) ?_
  refine g_e rfl (e_alloc 100070 Try.zeroValue40) (fun g14 _ => ?_)
  refine g_storeL (tag := 100070) rfl rfl rfl rfl Try.sizeOf40 rfl rfl <| g_nil <| d_then ?_
  refine c_flat [(0, .pointer (some ⟨go0, 0, none⟩)), (4, .pointer (some ⟨g1, 0, none⟩)), (7, .pointer (some ⟨g14, 0, none⟩))] ⟨rfl, rfl, rfl, trivial⟩ (fun u => ?_)
  refine c_sta ⟨w0, M, (100070, g14, .cells #[.int .i64 x10.fNumber, .int .i64 x10.fKind, .int .i64 x10.fFrom, .int .i64 x10.fTo, .int .i64 x10.fConn, .string x10.fBody] 40 (0, 0)) :: (1000, go0, .cells #[.slice Ao0_0 o0.fItems.length co0_0, .slice Ao0_1 o0.fConns.length co0_1, .int .i64 o0.fLast, .int .i64 o0.fOpens] 55 (0, 0)) :: (100040, g1, .cells #[.int .i64 0, .int .i64 0, .int .i64 0, .int .i64 0, .int .i64 0, .string (⟨#[]⟩ : ByteArray)] 40 (0, 0)) :: H, (100090, ⟨.slice A4 x2.length c5, 40, 6, x2.length, x2.flatMap GItem.enc⟩) :: (1000, ⟨.slice Ao0_0 o0.fItems.length co0_0, 40, 6, o0.fItems.length, o0.fItems.flatMap GItem.enc⟩) :: (1001, ⟨.slice Ao0_1 o0.fConns.length co0_1, 77, 3, o0.fConns.length, o0.fConns.flatMap Gref08_Conn.enc⟩) :: R, φ⟩ (fun _ h => h) <| c_seq <| c_region <| g_v rfl r_move <| g_v rfl (r_loadA (tag := 100070) rfl rfl Try.isAgg40 Try.sizeOf40 rfl rfl) ?_
  replace hm := bnd hm
  obtain ⟨x15, hx16, hm⟩ := hm
  refine g_cn ⟨w0, M, (1000, go0, .cells #[.slice Ao0_0 o0.fItems.length co0_0, .slice Ao0_1 o0.fConns.length co0_1, .int .i64 o0.fLast, .int .i64 o0.fOpens] 55 (0, 0)) :: (100070, g14, .cells #[.int .i64 x10.fNumber, .int .i64 x10.fKind, .int .i64 x10.fFrom, .int .i64 x10.fTo, .int .i64 x10.fConn, .string x10.fBody] 40 (0, 0)) :: (100040, g1, .cells #[.int .i64 0, .int .i64 0, .int .i64 0, .int .i64 0, .int .i64 0, .string (⟨#[]⟩ : ByteArray)] 40 (0, 0)) :: H, (1000, ⟨.slice Ao0_0 o0.fItems.length co0_0, 40, 6, o0.fItems.length, o0.fItems.flatMap GItem.enc⟩) :: (1001, ⟨.slice Ao0_1 o0.fConns.length co0_1, 77, 3, o0.fConns.length, o0.fConns.flatMap Gref08_Conn.enc⟩) :: (100090, ⟨.slice A4 x2.length c5, 40, 6, x2.length, x2.flatMap GItem.enc⟩) :: R, φ⟩ (fun W h => (ok_front (t := 1000) (t' := 1000) (ok_frontR (t := 1000) (t' := 1000) (ok_frontR (t := 1001) (t' := 1001) h rfl) rfl) rfl)) Try.call57 rfl rfl (c_ref08_Net_take x10 go0 o0 Ao0_0 co0_0 hco0_0 Ao0_1 co0_1 hco0_1 _ hx16) (fun ⟨A17, c18⟩ hc18 => ?_)
  refine g_sta _ (fun W h => (ok_frontR (t := 2000) (t' := 1000) (ok_frontR (t := 1001) (t' := 1001) (ok_front (t := 1000) (t' := 1000) h rfl) rfl) rfl)) <| g_nil <| d_then <| c_seq <| c_region <| g_v rfl (r_loadA (tag := 100070) rfl rfl Try.isAgg40 Try.sizeOf40 rfl rfl) <| g_storeL (tag := 100040) rfl rfl rfl rfl Try.sizeOf40 rfl rfl <| g_v rfl r_assign <| g_nil <| d_then ?_
  refine c_ret ?_
  replace hm := Option.some.inj hm
  subst hm
  refine d_sta _ (fun W h => ok_frontR (t := 1000) (t' := 2000) h rfl) ?_
  refine d_retC (A17, c18) Try.results47 ?_ hc18 (fun W h => (((h.dropR (t := 100090) rfl).dropH (t := 100070) rfl).dropH (t := 100040) rfl).phi (fun W hφ => hφ)) (.inr rfl)
  refine res_agg (tag := 100040) rfl rfl Try.isAgg40 Try.sizeOf40 <| res_tmp <| res_nil ?_
  exact rfl
theorem eqq40 (a b : GItem) : ∀ d W, (Op.equalIn (d + 5) 40 (.agg #[.int .i64 a.fNumber, .int .i64 a.fKind, .int .i64 a.fFrom, .int .i64 a.fTo, .int .i64 a.fConn, .string a.fBody]) (.agg #[.int .i64 b.fNumber, .int .i64 b.fKind, .int .i64 b.fFrom, .int .i64 b.fTo, .int .i64 b.fConn, .string b.fBody])).run Try.prog W = .ok (decide (a = b)) W := by
  intro d W
  have h := eqs_of (d := d + 4) (xs := #[.int .i64 a.fNumber, .int .i64 a.fKind, .int .i64 a.fFrom, .int .i64 a.fTo, .int .i64 a.fConn, .string a.fBody]) (ys := #[.int .i64 b.fNumber, .int .i64 b.fKind, .int .i64 b.fFrom, .int .i64 b.fTo, .int .i64 b.fConn, .string b.fBody]) (w := W) Try.underlying40 (by kernel_rfl) (eqs_cons (a := .int .i64 a.fNumber) (b := .int .i64 b.fNumber) rfl (by kernel_rfl) (by kernel_rfl) (eqs_int Try.underlying3) (eqs_cons (a := .int .i64 a.fKind) (b := .int .i64 b.fKind) rfl (by kernel_rfl) (by kernel_rfl) (eqs_int Try.underlying3) (eqs_cons (a := .int .i64 a.fFrom) (b := .int .i64 b.fFrom) rfl (by kernel_rfl) (by kernel_rfl) (eqs_int Try.underlying3) (eqs_cons (a := .int .i64 a.fTo) (b := .int .i64 b.fTo) rfl (by kernel_rfl) (by kernel_rfl) (eqs_int Try.underlying3) (eqs_cons (a := .int .i64 a.fConn) (b := .int .i64 b.fConn) rfl (by kernel_rfl) (by kernel_rfl) (eqs_int Try.underlying3) (eqs_cons (a := .string a.fBody) (b := .string b.fBody) rfl (by kernel_rfl) (by kernel_rfl) (eqs_str Try.underlying9) eqs_nil))))))
  refine h.trans ?_
  congr 1
  cases a; cases b
  simp only [GItem.mk.injEq, Bool.and_true]
  simp only [Bool.decide_and]
theorem eqg40 : Try.prog.eqGuardType Try.prog.depth 40 = false := by kernel_rfl
noncomputable def m_net_Net_datagrams_j1  (l82 : List Int) : Option (List Int) :=
  some l82
noncomputable def m_net_Net_datagrams_s2 (o0 : Gnet_Net) (l100 : List Int) (i103 : Int) : Option (((List Int) × Int) ⊕ (List Int)) :=
  if i103 < (o0.fitems.length : Int) then
    (at_ o0.fitems i103).bind fun x121 =>
    if x121.fKind = 1 then
      (app 8 l100 [i103]).bind fun l128 =>
      some (.inl (l128, w64 (i103 + 1)))
    else
      some (.inl (l100, w64 (i103 + 1)))
  else
    some (.inr l100)
noncomputable def m_net_Net_datagrams (o0 : Gnet_Net) : Option (List Int) :=
  (loop (fun s => m_net_Net_datagrams_s2 o0 s.1 s.2) (([] : List Int), 0)).bind fun e => m_net_Net_datagrams_j1 e
theorem c_net_Net_datagrams {w0 : World} {M : Nat → Prop} {H : List (Nat × Nat × Obj)} {R : List (Nat × Row)} {φ : World → Prop} (go0 : Nat) (o0 : Gnet_Net) (Ao0_0 : Option Addr) (co0_0 : Nat) (hco0_0 : o0.fitems.length ≤ co0_0) (Ao0_1 : Option Addr) (co0_1 : Nat) (hco0_1 : o0.fconns.length ≤ co0_1) (r : (List Int)) (hm : m_net_Net_datagrams o0 = some r) :
    Cn Try.prog 35 #[.pointer (some ⟨go0, 0, none⟩)] ⟨w0, M, (1000, go0, .cells #[.slice Ao0_0 o0.fitems.length co0_0, .slice Ao0_1 o0.fconns.length co0_1, .int .i64 o0.flast, .int .i64 o0.fopens] 61 (0, 0)) :: H, (1000, ⟨.slice Ao0_0 o0.fitems.length co0_0, 40, 6, o0.fitems.length, o0.fitems.flatMap GItem.enc⟩) :: (1001, ⟨.slice Ao0_1 o0.fconns.length co0_1, 63, 3, o0.fconns.length, o0.fconns.flatMap Gnet_conn.enc⟩) :: R, φ⟩ (fun x : Option Addr × Nat => .slice x.1 r.length x.2) (fun x => r.length ≤ x.2) (fun x => ⟨w0, M, (1000, go0, .cells #[.slice Ao0_0 o0.fitems.length co0_0, .slice Ao0_1 o0.fconns.length co0_1, .int .i64 o0.flast, .int .i64 o0.fopens] 61 (0, 0)) :: H, (2000, ⟨.slice x.1 r.length x.2, 3, 1, r.length, r.flatMap (fun x : Int => [Value.int .i64 x])⟩) :: (1000, ⟨.slice Ao0_0 o0.fitems.length co0_0, 40, 6, o0.fitems.length, o0.fitems.flatMap GItem.enc⟩) :: (1001, ⟨.slice Ao0_1 o0.fconns.length co0_1, 63, 3, o0.fconns.length, o0.fconns.flatMap Gnet_conn.enc⟩) :: R, φ⟩) := by
 unfold m_net_Net_datagrams at hm
 refine cn_intro (fn := Try.f35) (N := 25) Try.func35 rfl Try.ntmps35 rfl <| c_seq <| c_region <| g_v rfl r_assign <| g_nil <| d_then <| c_seq <| c_region <| g_v rfl r_assign <| g_nil ?_
 refine d_then <| c_seq <| c_seq <| c_region <| g_v rfl r_move <| g_v rfl (r_nilck rfl) <| g_v rfl (r_field (n := 0) Try.underlying61 rfl Try.sizeOf52 rfl rfl) <| g_v rfl (r_load (tag := 1000) rfl rfl rfl Try.isAgg52) <| g_v rfl (r_lenL Try.underlying52 rfl) <| g_v rfl r_move ?_
 refine g_nil <| d_then <| c_sta _ (fun W h => nilR h 13 3 1) ?_
 refine c_cut (ι := (List Int) × Option Addr × Nat) [3] (fun ⟨l82, A83, c84⟩ => [(3, .slice A83 l82.length c84)]) (fun ⟨l82, A83, c84⟩ => ⟨w0, M, (1000, go0, .cells #[.slice Ao0_0 o0.fitems.length co0_0, .slice Ao0_1 o0.fconns.length co0_1, .int .i64 o0.flast, .int .i64 o0.fopens] 61 (0, 0)) :: H, (13, ⟨.slice A83 l82.length c84, 3, 1, l82.length, l82.flatMap (fun x : Int => [Value.int .i64 x])⟩) :: (1000, ⟨.slice Ao0_0 o0.fitems.length co0_0, 40, 6, o0.fitems.length, o0.fitems.flatMap GItem.enc⟩) :: (1001, ⟨.slice Ao0_1 o0.fconns.length co0_1, 63, 3, o0.fconns.length, o0.fconns.flatMap Gnet_conn.enc⟩) :: R, φ⟩) (fun ⟨l82, A83, c84⟩ => m_net_Net_datagrams_j1 l82 = some r ∧ l82.length ≤ c84) ?_ (fun ⟨l82, A83, c84⟩ u ⟨hm, hc84⟩ => ?_)
 ·
  refine c_block ?_
  replace hm := bnd hm
  obtain ⟨out2, hl2, hr2⟩ := hm
  obtain ⟨n119', hl2⟩ := loop_lp hl2
  refine c_loopU (ι := Nat × (List Int) × Int × Option Addr × Nat) [3, 9, 10, 11] (fun ⟨n119, l100, i103, A101, c102⟩ => [(3, .slice A101 l100.length c102), (11, .int .i64 i103)]) (fun ⟨n119, l100, i103, A101, c102⟩ => ⟨w0, M, (1000, go0, .cells #[.slice Ao0_0 o0.fitems.length co0_0, .slice Ao0_1 o0.fconns.length co0_1, .int .i64 o0.flast, .int .i64 o0.fopens] 61 (0, 0)) :: H, (13, ⟨.slice A101 l100.length c102, 3, 1, l100.length, l100.flatMap (fun x : Int => [Value.int .i64 x])⟩) :: (1000, ⟨.slice Ao0_0 o0.fitems.length co0_0, 40, 6, o0.fitems.length, o0.fitems.flatMap GItem.enc⟩) :: (1001, ⟨.slice Ao0_1 o0.fconns.length co0_1, 63, 3, o0.fconns.length, o0.fconns.flatMap Gnet_conn.enc⟩) :: R, φ⟩) (fun ⟨n119, l100, i103, A101, c102⟩ => Lp (fun s => m_net_Net_datagrams_s2 o0 s.1 s.2) n119 (l100, i103) out2 ∧ l100.length ≤ c102) (fun ⟨n119, l100, i103, A101, c102⟩ => n119) (n119', ([] : List Int), 0, none, 0) ⟨hl2, (Nat.le_refl 0)⟩ ⟨rfl, rfl, rfl, rfl, trivial⟩ (fun W h => h.phi (fun W hφ => hφ)) (fun ⟨n119, l100, i103, A101, c102⟩ u ⟨hlp, hc102⟩ => ?_)
  obtain ⟨o2, hm, hnx2⟩ := lp_step hlp
  clear hlp
  replace hm : m_net_Net_datagrams_s2 o0 l100 i103 = some o2 := hm
  unfold m_net_Net_datagrams_s2 at hm
  refine c_flat [(3, .slice A101 l100.length c102), (9, .slice Ao0_0 o0.fitems.length co0_0), (10, .int .i64 (o0.fitems.length : Int)), (11, .int .i64 i103)] ⟨rfl, rfl, rfl, rfl, trivial⟩ (fun u => ?_)
  refine c_sta ⟨w0, M, (1000, go0, .cells #[.slice Ao0_0 o0.fitems.length co0_0, .slice Ao0_1 o0.fconns.length co0_1, .int .i64 o0.flast, .int .i64 o0.fopens] 61 (0, 0)) :: H, (13, ⟨.slice A101 l100.length c102, 3, 1, l100.length, l100.flatMap (fun x : Int => [Value.int .i64 x])⟩) :: (1000, ⟨.slice Ao0_0 o0.fitems.length co0_0, 40, 6, o0.fitems.length, o0.fitems.flatMap GItem.enc⟩) :: (1001, ⟨.slice Ao0_1 o0.fconns.length co0_1, 63, 3, o0.fconns.length, o0.fconns.flatMap Gnet_conn.enc⟩) :: R, φ⟩ (fun _ h => h) <| c_seq <| c_region <| g_v rfl (r_lss rfl rfl) <| g_nil <| d_then <| c_seq ?_
  refine c_cond rfl (fun h120 => ?_) (fun h120 => ?_)
  ·
   replace hm := ite_t hm (of_decide_eq_true h120)
   refine c_skip <| d_then <| c_seq <| c_block <| c_seq <| c_region <| g_v rfl r_move ?_
   replace hm := bnd hm
   obtain ⟨x121, hx121, hm⟩ := hm
   refine g_know _ (fun W hS => cl_at (p := (Sta.ok ⟨w0, M, (1000, go0, .cells #[.slice Ao0_0 o0.fitems.length co0_0, .slice Ao0_1 o0.fconns.length co0_1, .int .i64 o0.flast, .int .i64 o0.fopens] 61 (0, 0)) :: H, (13, ⟨.slice A101 l100.length c102, 3, 1, l100.length, l100.flatMap (fun x : Int => [Value.int .i64 x])⟩) :: (1000, ⟨.slice Ao0_0 o0.fitems.length co0_0, 40, 6, o0.fitems.length, o0.fitems.flatMap GItem.enc⟩) :: (1001, ⟨.slice Ao0_1 o0.fconns.length co0_1, 63, 3, o0.fconns.length, o0.fconns.flatMap Gnet_conn.enc⟩) :: R, φ⟩)) (sz := 6) (fun _ => rfl) (by decide) hS (fun W hS => rowCl (S := ⟨w0, M, (1000, go0, .cells #[.slice Ao0_0 o0.fitems.length co0_0, .slice Ao0_1 o0.fconns.length co0_1, .int .i64 o0.flast, .int .i64 o0.fopens] 61 (0, 0)) :: H, (13, ⟨.slice A101 l100.length c102, 3, 1, l100.length, l100.flatMap (fun x : Int => [Value.int .i64 x])⟩) :: (1000, ⟨.slice Ao0_0 o0.fitems.length co0_0, 40, 6, o0.fitems.length, o0.fitems.flatMap GItem.enc⟩) :: (1001, ⟨.slice Ao0_1 o0.fconns.length co0_1, 63, 3, o0.fconns.length, o0.fconns.flatMap Gnet_conn.enc⟩) :: R, φ⟩) (tag := 1000) rfl W hS) hx121) ?_
   rintro ⟨ad122, hA124, f123⟩
   refine g_v rfl (r_ix Try.underlying52 Try.sizeOf40 rfl hA124 rfl hx121) <| g_v rfl (r_ldA rfl Try.isAgg40 Try.sizeOf40 (fun W hS => (f123 W hS).take 6) rfl) ?_
   refine g_e rfl (e_alloc 100050 Try.zeroValue40) (fun g125 _ => ?_)
   refine g_v rfl r_assign <| g_storeL (tag := 100050) rfl rfl rfl rfl Try.sizeOf40 rfl rfl <| g_nil <| d_then <| c_seq <| c_region <| g_v rfl (r_field (n := 1) Try.underlying40 rfl Try.sizeOf3 rfl rfl) <| g_v rfl (r_load (tag := 100050) rfl rfl rfl Try.isAgg3) <| g_v rfl (r_eql rfl rfl) <| g_nil ?_
   refine d_then ?_
   refine c_flat [(3, .slice A101 l100.length c102), (4, .int .i64 i103), (9, .slice Ao0_0 o0.fitems.length co0_0), (10, .int .i64 (o0.fitems.length : Int)), (11, .int .i64 i103), (18, .bool (decide (x121.fKind = 1)))] ⟨rfl, rfl, rfl, rfl, rfl, rfl, trivial⟩ (fun u => ?_)
   refine c_sta ⟨w0, M, (100050, g125, .cells #[.int .i64 x121.fNumber, .int .i64 x121.fKind, .int .i64 x121.fFrom, .int .i64 x121.fTo, .int .i64 x121.fConn, .string x121.fBody] 40 (0, 0)) :: (1000, go0, .cells #[.slice Ao0_0 o0.fitems.length co0_0, .slice Ao0_1 o0.fconns.length co0_1, .int .i64 o0.flast, .int .i64 o0.fopens] 61 (0, 0)) :: H, (13, ⟨.slice A101 l100.length c102, 3, 1, l100.length, l100.flatMap (fun x : Int => [Value.int .i64 x])⟩) :: (1000, ⟨.slice Ao0_0 o0.fitems.length co0_0, 40, 6, o0.fitems.length, o0.fitems.flatMap GItem.enc⟩) :: (1001, ⟨.slice Ao0_1 o0.fconns.length co0_1, 63, 3, o0.fconns.length, o0.fconns.flatMap Gnet_conn.enc⟩) :: R, φ⟩ (fun _ h => h) ?_
   refine c_cond rfl (fun h126 => ?_) (fun h126 => ?_)
   ·
    replace hm := ite_t hm (of_decide_eq_true h126)
    refine c_region <| g_v rfl r_move <| g_v rfl r_move ?_
    refine g_e rfl (e_lit (tag := 100210) (l := [i103]) (enc := (fun x : Int => [Value.int .i64 x])) (sz := 1) rfl Try.underlying78 (lit3_7 _) rfl rfl (fun _ => rfl)) (fun g127 _ => ?_)
    replace hm := bnd hm
    obtain ⟨l128, hl128, hm⟩ := hm
    refine g_e rfl (e_appR (enc := (fun x : Int => [Value.int .i64 x])) (l := l100) (l1 := [i103]) (l2 := l128) (tag := 13) Try.underlying78 inf3_8 rfl (by decide) (by decide) (fun _ => rfl) (fun _ => rfl) rfl hc102 rfl rfl (fun W hS => rowCl (tag := 100210) rfl W hS) hl128) (fun ⟨A129, c130⟩ hc130 => ?_)
    refine g_v rfl r_assign <| g_nil <| d_normal_block <| d_then <| c_region <| g_v rfl (r_add rfl rfl rfl) <| g_v rfl r_move <| g_nil ?_
    obtain ⟨n131, hn131, hlp⟩ := nx_inl hm hnx2
    exact d_round (n131, l128, w64 (i103 + 1), A129, c130) ⟨hlp, hc130⟩ hn131 ⟨rfl, rfl, rfl, rfl, trivial⟩ (fun W h => ((h.dropR (t := 100210) rfl).dropH (t := 100050) rfl).phi (fun W hφ => hφ))
   ·
    replace hm := ite_f hm (of_decide_eq_false h126)
    refine c_skip <| d_normal_block <| d_then <| c_region <| g_v rfl (r_add rfl rfl rfl) <| g_v rfl r_move <| g_nil ?_
    obtain ⟨n132, hn132, hlp⟩ := nx_inl hm hnx2
    exact d_round (n132, l100, w64 (i103 + 1), A101, c102) ⟨hlp, hc102⟩ hn132 ⟨rfl, rfl, rfl, rfl, trivial⟩ (fun W h => (h.dropH (t := 100050) rfl).phi (fun W hφ => hφ))
  ·
   replace hm := ite_f hm (of_decide_eq_false h120)
   refine c_exit <| d_exit_then <| d_exit_then <| d_exit_block ?_
   replace hm := nx_out (C := (fun e => m_net_Net_datagrams_j1 e = some r)) hm hnx2 hr2
   exact d_round (l100, A101, c102) ⟨hm, hc102⟩ Nat.zero_lt_one ⟨rfl, trivial⟩ (fun W h => h.phi (fun W hφ => hφ))
 ·
  unfold m_net_Net_datagrams_j1 at hm
  refine d_flat [(3, .slice A83 l82.length c84)] ⟨rfl, trivial⟩ (fun u => ?_)
  refine d_sta ⟨w0, M, (1000, go0, .cells #[.slice Ao0_0 o0.fitems.length co0_0, .slice Ao0_1 o0.fconns.length co0_1, .int .i64 o0.flast, .int .i64 o0.fopens] 61 (0, 0)) :: H, (13, ⟨.slice A83 l82.length c84, 3, 1, l82.length, l82.flatMap (fun x : Int => [Value.int .i64 x])⟩) :: (1000, ⟨.slice Ao0_0 o0.fitems.length co0_0, 40, 6, o0.fitems.length, o0.fitems.flatMap GItem.enc⟩) :: (1001, ⟨.slice Ao0_1 o0.fconns.length co0_1, 63, 3, o0.fconns.length, o0.fconns.flatMap Gnet_conn.enc⟩) :: R, φ⟩ (fun _ h => h) <| d_then <| c_seq <| c_region <| g_v rfl r_move <| g_v rfl r_assign <| g_nil <| d_then <| c_ret ?_
  replace hm := Option.some.inj hm
  subst hm
  refine d_sta _ (fun W h => ok_frontR (t := 13) (t' := 2000) h rfl) ?_
  refine d_retC (A83, c84) Try.results35 ?_ hc84 (fun W h => h.phi (fun W hφ => hφ)) (.inr rfl)
  refine res_tmp <| res_nil ?_
  exact rfl
noncomputable def m_net_Net_picked_2_j1 (x1 : List Int) (i8 : Int) : Option (Int × Bool) :=
  (dvd (x1.length : Int)).bind fun u9 =>
  (at_ x1 (i8.tmod (x1.length : Int))).bind fun x10 =>
  some (x10, true)
noncomputable def m_net_Net_picked_2 (p2 : Int) (o0 : Gnet_Net) : Option (Int × Bool) :=
  (m_net_Net_datagrams o0).bind fun x1 =>
  if (x1.length : Int) = 0 then
    some (0, false)
  else
    if p2 < 0 then
      m_net_Net_picked_2_j1 x1 (w64 (0 - w64 (p2 + 1)))
    else
      m_net_Net_picked_2_j1 x1 p2
theorem c_net_Net_picked_2 {w0 : World} {M : Nat → Prop} {H : List (Nat × Nat × Obj)} {R : List (Nat × Row)} {φ : World → Prop} (p2 : Int) (go0 : Nat) (o0 : Gnet_Net) (Ao0_0 : Option Addr) (co0_0 : Nat) (hco0_0 : o0.fitems.length ≤ co0_0) (Ao0_1 : Option Addr) (co0_1 : Nat) (hco0_1 : o0.fconns.length ≤ co0_1) (r : Int × Bool) (hm : m_net_Net_picked_2 p2 o0 = some r) :
    Cn Try.prog 34 #[.pointer (some ⟨go0, 0, none⟩), .func (.func 35) #[] #[], .int .i64 p2] ⟨w0, M, (1000, go0, .cells #[.slice Ao0_0 o0.fitems.length co0_0, .slice Ao0_1 o0.fconns.length co0_1, .int .i64 o0.flast, .int .i64 o0.fopens] 61 (0, 0)) :: H, (1000, ⟨.slice Ao0_0 o0.fitems.length co0_0, 40, 6, o0.fitems.length, o0.fitems.flatMap GItem.enc⟩) :: (1001, ⟨.slice Ao0_1 o0.fconns.length co0_1, 63, 3, o0.fconns.length, o0.fconns.flatMap Gnet_conn.enc⟩) :: R, φ⟩ (fun x : Unit => .tuple #[.int .i64 r.1, .bool r.2]) (fun x => True) (fun x => ⟨w0, M, (1000, go0, .cells #[.slice Ao0_0 o0.fitems.length co0_0, .slice Ao0_1 o0.fconns.length co0_1, .int .i64 o0.flast, .int .i64 o0.fopens] 61 (0, 0)) :: H, (1000, ⟨.slice Ao0_0 o0.fitems.length co0_0, 40, 6, o0.fitems.length, o0.fitems.flatMap GItem.enc⟩) :: (1001, ⟨.slice Ao0_1 o0.fconns.length co0_1, 63, 3, o0.fconns.length, o0.fconns.flatMap Gnet_conn.enc⟩) :: R, φ⟩) := by
 unfold m_net_Net_picked_2 at hm
 refine cn_intro (fn := Try.f34) (N := 29) Try.func34 rfl Try.ntmps34 rfl <| c_seq <| c_region <| g_v rfl r_assign <| g_v rfl r_assign <| g_nil <| d_then <| c_seq <| c_seq <| c_region ?_
 refine g_v rfl r_move <| g_v rfl (r_eqlP1 Try.underlying24 rfl rfl) <| g_nil <| d_then <| c_cond0 rfl rfl <| c_skip <| d_then <| c_seq <| c_region <| g_v rfl r_move ?_
 refine g_v rfl r_move ?_
 replace hm := bnd hm
 obtain ⟨x1, hx2, hm⟩ := hm
 refine g_cnv ⟨w0, M, (1000, go0, .cells #[.slice Ao0_0 o0.fitems.length co0_0, .slice Ao0_1 o0.fconns.length co0_1, .int .i64 o0.flast, .int .i64 o0.fopens] 61 (0, 0)) :: H, (1000, ⟨.slice Ao0_0 o0.fitems.length co0_0, 40, 6, o0.fitems.length, o0.fitems.flatMap GItem.enc⟩) :: (1001, ⟨.slice Ao0_1 o0.fconns.length co0_1, 63, 3, o0.fconns.length, o0.fconns.flatMap Gnet_conn.enc⟩) :: R, φ⟩ (fun W h => (ok_front (t := 1000) (t' := 1000) (ok_frontR (t := 1000) (t' := 1000) (ok_frontR (t := 1001) (t' := 1001) h rfl) rfl) rfl)) Try.call35 rfl rfl rfl (c_net_Net_datagrams go0 o0 Ao0_0 co0_0 hco0_0 Ao0_1 co0_1 hco0_1 _ hx2) (fun ⟨A3, c4⟩ hc4 => ?_)
 refine g_sta _ (fun W h => (ok_frontR (t := 2000) (t' := 100130) (ok_frontR (t := 1000) (t' := 1000) (ok_frontR (t := 1001) (t' := 1001) (ok_front (t := 1000) (t' := 1000) h rfl) rfl) rfl) rfl)) <| g_v rfl r_assign <| g_nil <| d_then <| c_seq <| c_seq <| c_region <| g_v rfl r_move <| g_v rfl (r_lenL Try.underlying78 rfl) <| g_v rfl (r_eql rfl rfl) ?_
 refine g_nil <| d_then ?_
 refine c_flat [(2, .int .i64 p2), (8, .slice A3 x1.length c4), (16, .bool (decide ((x1.length : Int) = 0)))] ⟨rfl, rfl, rfl, trivial⟩ (fun u => ?_)
 refine c_sta ⟨w0, M, (1000, go0, .cells #[.slice Ao0_0 o0.fitems.length co0_0, .slice Ao0_1 o0.fconns.length co0_1, .int .i64 o0.flast, .int .i64 o0.fopens] 61 (0, 0)) :: H, (100130, ⟨.slice A3 x1.length c4, 3, 1, x1.length, x1.flatMap (fun x : Int => [Value.int .i64 x])⟩) :: (1000, ⟨.slice Ao0_0 o0.fitems.length co0_0, 40, 6, o0.fitems.length, o0.fitems.flatMap GItem.enc⟩) :: (1001, ⟨.slice Ao0_1 o0.fconns.length co0_1, 63, 3, o0.fconns.length, o0.fconns.flatMap Gnet_conn.enc⟩) :: R, φ⟩ (fun _ h => h) ?_
 refine c_cond rfl (fun h6 => ?_) (fun h6 => ?_)
 ·
  replace hm := ite_t hm (of_decide_eq_true h6)
  refine c_seq <| c_region <| g_v rfl r_assign <| g_v rfl r_assign <| g_nil <| d_then <| c_ret <| d_ret_then ?_
  replace hm := Option.some.inj hm
  subst hm
  refine d_retC () Try.results34 ?_ trivial (fun W h => (h.dropR (t := 100130) rfl).phi (fun W hφ => hφ)) (.inr rfl)
  refine res_tmp <| res_tmp <| res_nil ?_
  exact rfl
 ·
  replace hm := ite_f hm (of_decide_eq_false h6)
  refine c_skip <| d_then <| c_seq ?_
  refine c_cut (ι := Int) [2, 8] (fun i8 => [(2, .int .i64 i8)]) (fun i8 => ⟨w0, M, (1000, go0, .cells #[.slice Ao0_0 o0.fitems.length co0_0, .slice Ao0_1 o0.fconns.length co0_1, .int .i64 o0.flast, .int .i64 o0.fopens] 61 (0, 0)) :: H, (100130, ⟨.slice A3 x1.length c4, 3, 1, x1.length, x1.flatMap (fun x : Int => [Value.int .i64 x])⟩) :: (1000, ⟨.slice Ao0_0 o0.fitems.length co0_0, 40, 6, o0.fitems.length, o0.fitems.flatMap GItem.enc⟩) :: (1001, ⟨.slice Ao0_1 o0.fconns.length co0_1, 63, 3, o0.fconns.length, o0.fconns.flatMap Gnet_conn.enc⟩) :: R, φ⟩) (fun i8 => m_net_Net_picked_2_j1 x1 i8 = some r) ?_ (fun i8 u hm => ?_)
  ·
   refine c_seq <| c_region <| g_v rfl r_move <| g_v rfl (r_lss rfl rfl) <| g_nil <| d_then ?_
   refine c_cond rfl (fun h14 => ?_) (fun h14 => ?_)
   ·
    replace hm := ite_t hm (of_decide_eq_true h14)
    refine c_region <| g_v rfl r_move <| g_v rfl (r_add rfl rfl rfl) <| g_v rfl (r_neg rfl rfl) <| g_v rfl r_assign <| g_nil ?_
    exact d_round (w64 (0 - w64 (p2 + 1))) hm Nat.zero_lt_one ⟨rfl, rfl, trivial⟩ (fun W h => h.phi (fun W hφ => hφ))
   ·
    replace hm := ite_f hm (of_decide_eq_false h14)
    refine c_skip ?_
    exact d_round p2 hm Nat.zero_lt_one ⟨rfl, rfl, trivial⟩ (fun W h => h.phi (fun W hφ => hφ))
  ·
   unfold m_net_Net_picked_2_j1 at hm
   refine d_flat [(2, .int .i64 i8), (8, .slice A3 x1.length c4)] ⟨rfl, rfl, trivial⟩ (fun u => ?_)
   refine d_then <| c_seq <| c_region <| g_v rfl r_move <| g_v rfl r_move <| g_v rfl r_move <| g_v rfl (r_lenL Try.underlying78 rfl) ?_
   replace hm := bnd hm
   obtain ⟨u9, hu9, hm⟩ := hm
   refine g_v rfl (r_rem rfl rfl (dvd_some hu9) rfl) ?_
   replace hm := bnd hm
   obtain ⟨x10, hx10, hm⟩ := hm
   refine g_know _ (fun W hS => cl_at (p := (Sta.ok ⟨w0, M, (1000, go0, .cells #[.slice Ao0_0 o0.fitems.length co0_0, .slice Ao0_1 o0.fconns.length co0_1, .int .i64 o0.flast, .int .i64 o0.fopens] 61 (0, 0)) :: H, (100130, ⟨.slice A3 x1.length c4, 3, 1, x1.length, x1.flatMap (fun x : Int => [Value.int .i64 x])⟩) :: (1000, ⟨.slice Ao0_0 o0.fitems.length co0_0, 40, 6, o0.fitems.length, o0.fitems.flatMap GItem.enc⟩) :: (1001, ⟨.slice Ao0_1 o0.fconns.length co0_1, 63, 3, o0.fconns.length, o0.fconns.flatMap Gnet_conn.enc⟩) :: R, φ⟩)) (sz := 1) (fun _ => rfl) (by decide) hS (fun W hS => rowCl (S := ⟨w0, M, (1000, go0, .cells #[.slice Ao0_0 o0.fitems.length co0_0, .slice Ao0_1 o0.fconns.length co0_1, .int .i64 o0.flast, .int .i64 o0.fopens] 61 (0, 0)) :: H, (100130, ⟨.slice A3 x1.length c4, 3, 1, x1.length, x1.flatMap (fun x : Int => [Value.int .i64 x])⟩) :: (1000, ⟨.slice Ao0_0 o0.fitems.length co0_0, 40, 6, o0.fitems.length, o0.fitems.flatMap GItem.enc⟩) :: (1001, ⟨.slice Ao0_1 o0.fconns.length co0_1, 63, 3, o0.fconns.length, o0.fconns.flatMap Gnet_conn.enc⟩) :: R, φ⟩) (tag := 100130) rfl W hS) hx10) ?_
   rintro ⟨ad11, hA13, f12⟩
   refine g_v rfl (r_ix Try.underlying78 Try.sizeOf3 rfl hA13 rfl hx10) <| g_v rfl (r_ld rfl Try.isAgg3 (fun W hS => Cl.head (f12 W hS))) <| g_v rfl r_assign <| g_v rfl r_assign <| g_nil <| d_then ?_
   refine c_flat [(6, .int .i64 x10), (7, .bool true)] ⟨rfl, rfl, trivial⟩ (fun u => ?_)
   refine c_ret ?_
   replace hm := Option.some.inj hm
   subst hm
   refine d_retC () Try.results34 ?_ trivial (fun W h => (h.dropR (t := 100130) rfl).phi (fun W hφ => hφ)) (.inr rfl)
   refine res_tmp <| res_tmp <| res_nil ?_
   exact rfl
noncomputable def m_net_Net_Drop_j1 (x2 : Bool) (o0 : Gnet_Net) (l11 : List GItem) : Option (Bool × Gnet_Net) :=
  some (x2, (⟨l11, o0.fconns, o0.flast, o0.fopens⟩ : Gnet_Net))
noncomputable def m_net_Net_Drop (p1 : Int) (o0 : Gnet_Net) : Option (Bool × Gnet_Net) :=
  (m_net_Net_picked_2 p1 o0).bind fun (z4 : Int × Bool) =>
  if z4.2 = true then
    (m_slices_Delete_37 o0.fitems z4.1 (w64 (z4.1 + 1))).bind fun x15 =>
    m_net_Net_Drop_j1 z4.2 o0 x15
  else
    m_net_Net_Drop_j1 z4.2 o0 o0.fitems
theorem c_net_Net_Drop {w0 : World} {M : Nat → Prop} {H : List (Nat × Nat × Obj)} {R : List (Nat × Row)} {φ : World → Prop} (p1 : Int) (go0 : Nat) (o0 : Gnet_Net) (Ao0_0 : Option Addr) (co0_0 : Nat) (hco0_0 : o0.fitems.length ≤ co0_0) (Ao0_1 : Option Addr) (co0_1 : Nat) (hco0_1 : o0.fconns.length ≤ co0_1) (r : Bool × Gnet_Net) (hm : m_net_Net_Drop p1 o0 = some r) :
    Cn Try.prog 20 #[.pointer (some ⟨go0, 0, none⟩), .int .i64 p1] ⟨w0, M, (1000, go0, .cells #[.slice Ao0_0 o0.fitems.length co0_0, .slice Ao0_1 o0.fconns.length co0_1, .int .i64 o0.flast, .int .i64 o0.fopens] 61 (0, 0)) :: H, (1000, ⟨.slice Ao0_0 o0.fitems.length co0_0, 40, 6, o0.fitems.length, o0.fitems.flatMap GItem.enc⟩) :: (1001, ⟨.slice Ao0_1 o0.fconns.length co0_1, 63, 3, o0.fconns.length, o0.fconns.flatMap Gnet_conn.enc⟩) :: R, φ⟩ (fun x : Option Addr × Nat => .bool r.1) (fun x => r.2.fitems.length ≤ x.2) (fun x => ⟨w0, M, (1000, go0, .cells #[.slice x.1 r.2.fitems.length x.2, .slice Ao0_1 o0.fconns.length co0_1, .int .i64 o0.flast, .int .i64 o0.fopens] 61 (0, 0)) :: H, (2000, ⟨.slice x.1 r.2.fitems.length x.2, 40, 6, r.2.fitems.length, r.2.fitems.flatMap GItem.enc⟩) :: (1001, ⟨.slice Ao0_1 o0.fconns.length co0_1, 63, 3, o0.fconns.length, o0.fconns.flatMap Gnet_conn.enc⟩) :: R, φ⟩) := by
 unfold m_net_Net_Drop at hm
 refine cn_intro (fn := Try.f20) (N := 26) Try.func20 rfl Try.ntmps20 rfl <| c_seq <| c_region <| g_v rfl r_assign <| g_nil <| d_then <| c_seq <| c_region <| g_v rfl r_move <| g_v rfl r_move ?_
 replace hm := bnd hm
 obtain ⟨⟨x1, x2⟩, hx3, hm⟩ := hm
 refine g_cn ⟨w0, M, (1000, go0, .cells #[.slice Ao0_0 o0.fitems.length co0_0, .slice Ao0_1 o0.fconns.length co0_1, .int .i64 o0.flast, .int .i64 o0.fopens] 61 (0, 0)) :: H, (1000, ⟨.slice Ao0_0 o0.fitems.length co0_0, 40, 6, o0.fitems.length, o0.fitems.flatMap GItem.enc⟩) :: (1001, ⟨.slice Ao0_1 o0.fconns.length co0_1, 63, 3, o0.fconns.length, o0.fconns.flatMap Gnet_conn.enc⟩) :: R, φ⟩ (fun W h => (ok_front (t := 1000) (t' := 1000) (ok_frontR (t := 1000) (t' := 1000) (ok_frontR (t := 1001) (t' := 1001) h rfl) rfl) rfl)) Try.call34 rfl rfl (c_net_Net_picked_2 p1 go0 o0 Ao0_0 co0_0 hco0_0 Ao0_1 co0_1 hco0_1 _ hx3) (fun _ _ => ?_)
 refine g_sta _ (fun W h => (ok_frontR (t := 1000) (t' := 1000) (ok_frontR (t := 1001) (t' := 1001) (ok_front (t := 1000) (t' := 1000) h rfl) rfl) rfl)) <| g_v rfl r_move <| g_v rfl (r_extract rfl rfl) <| g_v rfl (r_extract rfl rfl) <| g_v rfl r_assign <| g_v rfl r_assign <| g_nil <| d_then ?_
 refine c_flat [(0, .pointer (some ⟨go0, 0, none⟩)), (5, .int .i64 x1), (6, .bool x2)] ⟨rfl, rfl, rfl, trivial⟩ (fun u => ?_)
 refine c_sta ⟨w0, M, (1000, go0, .cells #[.slice Ao0_0 o0.fitems.length co0_0, .slice Ao0_1 o0.fconns.length co0_1, .int .i64 o0.flast, .int .i64 o0.fopens] 61 (0, 0)) :: H, (1000, ⟨.slice Ao0_0 o0.fitems.length co0_0, 40, 6, o0.fitems.length, o0.fitems.flatMap GItem.enc⟩) :: (1001, ⟨.slice Ao0_1 o0.fconns.length co0_1, 63, 3, o0.fconns.length, o0.fconns.flatMap Gnet_conn.enc⟩) :: R, φ⟩ (fun _ h => h) <| c_seq ?_
 refine c_cut (ι := (List GItem) × Option Addr × Nat) [6] (fun ⟨l11, A12, c13⟩ => []) (fun ⟨l11, A12, c13⟩ => ⟨w0, M, (1000, go0, .cells #[.slice A12 l11.length c13, .slice Ao0_1 o0.fconns.length co0_1, .int .i64 o0.flast, .int .i64 o0.fopens] 61 (0, 0)) :: H, (1000, ⟨.slice A12 l11.length c13, 40, 6, l11.length, l11.flatMap GItem.enc⟩) :: (1001, ⟨.slice Ao0_1 o0.fconns.length co0_1, 63, 3, o0.fconns.length, o0.fconns.flatMap Gnet_conn.enc⟩) :: R, φ⟩) (fun ⟨l11, A12, c13⟩ => m_net_Net_Drop_j1 x2 o0 l11 = some r ∧ l11.length ≤ c13) ?_ (fun ⟨l11, A12, c13⟩ u ⟨hm, hc13⟩ => ?_)
 ·
  refine c_seq <| c_region <| g_v rfl r_move <| g_nil <| d_then ?_
  refine c_cond rfl (fun h14 => ?_) (fun h14 => ?_)
  ·
   replace hm := ite_t hm h14
   refine c_region <| g_v rfl r_move <| g_v rfl r_move <| g_v rfl (r_nilck rfl) <| g_v rfl (r_field (n := 0) Try.underlying61 rfl Try.sizeOf52 rfl rfl) <| g_v rfl (r_load (tag := 1000) rfl rfl rfl Try.isAgg52) <| g_v rfl r_move <| g_v rfl r_move <| g_v rfl (r_add rfl rfl rfl) ?_
   replace hm := bnd hm
   obtain ⟨x15, hx16, hm⟩ := hm
   refine g_cn ⟨w0, M, (1000, go0, .cells #[.slice Ao0_0 o0.fitems.length co0_0, .slice Ao0_1 o0.fconns.length co0_1, .int .i64 o0.flast, .int .i64 o0.fopens] 61 (0, 0)) :: H, (1000, ⟨.slice Ao0_0 o0.fitems.length co0_0, 40, 6, o0.fitems.length, o0.fitems.flatMap GItem.enc⟩) :: (1001, ⟨.slice Ao0_1 o0.fconns.length co0_1, 63, 3, o0.fconns.length, o0.fconns.flatMap Gnet_conn.enc⟩) :: R, φ⟩ (fun W h => (ok_frontR (t := 1000) (t' := 1000) h rfl)) Try.call37 rfl rfl (c_slices_Delete_37 o0.fitems Ao0_0 co0_0 hco0_0 x1 (w64 (x1 + 1)) _ hx16) (fun ⟨A17, c18⟩ hc18 => ?_)
   refine g_sta _ (fun W h => (ok_frontR (t := 2000) (t' := 1000) h rfl)) <| g_v rfl (r_nilck rfl) <| g_v rfl (r_field (n := 0) Try.underlying61 rfl Try.sizeOf52 rfl rfl) <| g_storeL (tag := 1000) rfl rfl rfl rfl Try.sizeOf52 rfl rfl <| g_nil ?_
   exact d_round (x15, A17, c18) ⟨hm, hc18⟩ Nat.zero_lt_one ⟨rfl, trivial⟩ (fun W h => h.phi (fun W hφ => hφ))
  ·
   replace hm := ite_f hm (bool_nt h14)
   refine c_skip ?_
   exact d_round (o0.fitems, Ao0_0, co0_0) ⟨hm, hco0_0⟩ Nat.zero_lt_one ⟨rfl, trivial⟩ (fun W h => h.phi (fun W hφ => hφ))
 ·
  unfold m_net_Net_Drop_j1 at hm
  refine d_flat [(6, .bool x2)] ⟨rfl, trivial⟩ (fun u => ?_)
  refine d_sta ⟨w0, M, (1000, go0, .cells #[.slice A12 l11.length c13, .slice Ao0_1 o0.fconns.length co0_1, .int .i64 o0.flast, .int .i64 o0.fopens] 61 (0, 0)) :: H, (1000, ⟨.slice A12 l11.length c13, 40, 6, l11.length, l11.flatMap GItem.enc⟩) :: (1001, ⟨.slice Ao0_1 o0.fconns.length co0_1, 63, 3, o0.fconns.length, o0.fconns.flatMap Gnet_conn.enc⟩) :: R, φ⟩ (fun _ h => h) <| d_then <| c_seq <| c_region <| g_v rfl r_move <| g_v rfl r_assign <| g_nil <| d_then <| c_ret ?_
  replace hm := Option.some.inj hm
  subst hm
  refine d_sta _ (fun W h => ok_frontR (t := 1000) (t' := 2000) h rfl) ?_
  refine d_retC (A12, c13) Try.results20 ?_ hc13 (fun W h => h.phi (fun W hφ => hφ)) (.inr rfl)
  refine res_tmp <| res_nil ?_
  exact rfl
end Go.Proofs.Ythajfodilodhaaa
