import Derived.Test.YthajfodilodhaaaWDLA
set_option maxRecDepth 100000
set_option maxHeartbeats 4000000
set_option linter.unusedVariables false
set_option linter.unusedSimpArgs false
namespace Go.Proofs.Ythajfodilodhaaa
open Go.RowKit Go.Proofs.YthajfodilodhaaaW.PrintLast
noncomputable def m_slices_IndexFunc_54_2_j1  : Option Int :=
  some (-1)
noncomputable def m_slices_IndexFunc_54_2_s2 (p0 : List GItem) (o0 : Int) (i30 : Int) : Option (Int ⊕ (Unit ⊕ Int)) :=
  if i30 < (p0.length : Int) then
    (at_ p0 i30).bind fun x42 =>
    (m_net_Net_Lose_c1 x42 o0).bind fun x46 =>
    if x46 = true then
      some (.inr (.inr i30))
    else
      some (.inl (w64 (i30 + 1)))
  else
    some (.inr (.inl ()))
noncomputable def m_slices_IndexFunc_54_2 (p0 : List GItem) (o0 : Int) : Option Int :=
  (loop (fun s => m_slices_IndexFunc_54_2_s2 p0 o0 s) 0).bind fun e => Sum.elim (fun e => m_slices_IndexFunc_54_2_j1) (fun x => some x) e
theorem c_slices_IndexFunc_54_2 {w0 : World} {M : Nat → Prop} {H : List (Nat × Nat × Obj)} {R : List (Nat × Row)} {φ : World → Prop} (p0 : List GItem) (Ap0_0 : Option Addr) (cp0_0 : Nat) (hcp0_0 : p0.length ≤ cp0_0) (fp0_0 : ∀ W, (Sta.mk w0 M H R φ).ok W → Cl W Ap0_0 (p0.flatMap GItem.enc)) (go0 : Nat) (o0 : Int) (r : Int) (hm : m_slices_IndexFunc_54_2 p0 o0 = some r) :
    Cn Try.prog 54 #[.slice Ap0_0 p0.length cp0_0, .func (.func 38) #[] #[.pointer (some ⟨go0, 0, none⟩)]] ⟨w0, M, (1000, go0, .cells #[.int .i64 o0] 3 (0, 0)) :: H, R, φ⟩ (fun x : Unit => .int .i64 r) (fun x => True) (fun x => ⟨w0, M, (1000, go0, .cells #[.int .i64 o0] 3 (0, 0)) :: H, R, φ⟩) := by
 unfold m_slices_IndexFunc_54_2 at hm
 refine cn_intro (fn := Try.f54) (N := 19) Try.func54 rfl Try.ntmps54 rfl <| c_seq <| c_region <| g_v rfl r_assign <| g_nil <| d_then <| c_seq <| c_seq <| c_region <| g_v rfl r_move ?_
 refine g_v rfl (r_lenL Try.underlying52 rfl) <| g_v rfl r_move <| g_nil <| d_then ?_
 refine c_cut (ι := Unit) [] (fun _ => []) (fun _ => ⟨w0, M, (1000, go0, .cells #[.int .i64 o0] 3 (0, 0)) :: H, R, φ⟩) (fun _ => m_slices_IndexFunc_54_2_j1 = some r) ?_ (fun _ u hm => ?_)
 ·
  refine c_block ?_
  replace hm := bnd hm
  obtain ⟨out2, hl2, hr2⟩ := hm
  obtain ⟨n40', hl2⟩ := loop_lp hl2
  refine c_loopU (ι := Nat × Int) [0, 1, 7, 8] (fun ⟨n40, i30⟩ => [(8, .int .i64 i30)]) (fun ⟨n40, i30⟩ => ⟨w0, M, (1000, go0, .cells #[.int .i64 o0] 3 (0, 0)) :: H, R, φ⟩) (fun ⟨n40, i30⟩ => Lp (fun s => m_slices_IndexFunc_54_2_s2 p0 o0 s) n40 i30 out2) (fun ⟨n40, i30⟩ => n40) (n40', 0) hl2 ⟨rfl, rfl, rfl, rfl, trivial⟩ (fun W h => h.phi (fun W hφ => hφ)) (fun ⟨n40, i30⟩ u hlp => ?_)
  obtain ⟨o2, hm, hnx2⟩ := lp_step hlp
  clear hlp
  replace hm : m_slices_IndexFunc_54_2_s2 p0 o0 i30 = some o2 := hm
  unfold m_slices_IndexFunc_54_2_s2 at hm
  refine c_flat [(0, .slice Ap0_0 p0.length cp0_0), (1, .func (.func 38) #[] #[.pointer (some ⟨go0, 0, none⟩)]), (7, .int .i64 (p0.length : Int)), (8, .int .i64 i30)] ⟨rfl, rfl, rfl, rfl, trivial⟩ (fun u => ?_)
  refine c_sta ⟨w0, M, (1000, go0, .cells #[.int .i64 o0] 3 (0, 0)) :: H, R, φ⟩ (fun _ h => h) <| c_seq <| c_region <| g_v rfl (r_lss rfl rfl) <| g_nil <| d_then <| c_seq ?_
  refine c_cond rfl (fun h41 => ?_) (fun h41 => ?_)
  ·
   replace hm := ite_t hm (of_decide_eq_true h41)
   refine c_skip <| d_then <| c_seq <| c_block <| c_seq <| c_region <| g_v rfl r_move <| g_v rfl r_assign <| g_nil <| d_then ?_
   refine c_seq <| c_region <| g_v rfl r_move <| g_v rfl r_move <| g_v rfl r_move ?_
   replace hm := bnd hm
   obtain ⟨x42, hx42, hm⟩ := hm
   refine g_know _ (fun W hS => cl_at (p := (Sta.mk w0 M H R φ).ok) (sz := 6) (fun _ => rfl) (by decide) (ok_pre (H1 := [_]) (R1 := []) hS (fun W h => h)) fp0_0 hx42) ?_
   rintro ⟨ad43, hA45, f44⟩
   refine g_v rfl (r_ix Try.underlying52 Try.sizeOf40 rfl hA45 rfl hx42) <| g_v rfl (r_ldA rfl Try.isAgg40 Try.sizeOf40 (fun W hS => (f44 W (ok_pre (H1 := [_]) (R1 := []) hS (fun W h => h))).take 6) rfl) ?_
   replace hm := bnd hm
   obtain ⟨x46, hx47, hm⟩ := hm
   refine g_cnv ⟨w0, M, (1000, go0, .cells #[.int .i64 o0] 3 (0, 0)) :: H, R, φ⟩ (fun W h => (ok_front (t := 1000) (t' := 1000) h rfl)) Try.call38 rfl rfl rfl (c_net_Net_Lose_c1 x42 go0 o0 _ hx47) (fun _ _ => ?_)
   refine g_sta _ (fun W h => (ok_front (t := 1000) (t' := 1000) h rfl)) <| g_nil <| d_then ?_
   refine c_flat [(0, .slice Ap0_0 p0.length cp0_0), (1, .func (.func 38) #[] #[.pointer (some ⟨go0, 0, none⟩)]), (5, .int .i64 i30), (7, .int .i64 (p0.length : Int)), (8, .int .i64 i30), (16, .bool x46)] ⟨rfl, rfl, rfl, rfl, rfl, rfl, trivial⟩ (fun u => ?_)
   refine c_cond rfl (fun h48 => ?_) (fun h48 => ?_)
   ·
    replace hm := ite_t hm h48
    refine c_seq <| c_region <| g_v rfl r_move <| g_v rfl r_assign <| g_nil <| d_then <| c_ret <| d_ret_block <| d_ret_then <| d_ret_then ?_
    refine d_ret_block <| d_ret_then <| d_ret_then ?_
    replace hm := nx_out (C := (fun e => Sum.elim (fun e => m_slices_IndexFunc_54_2_j1) (fun x => some x) e = some r)) hm hnx2 hr2
    replace hm : some i30 = some r := hm
    replace hm := Option.some.inj hm
    subst hm
    refine d_retC () Try.results54 ?_ trivial (fun W h => h.phi (fun W hφ => hφ)) (.inr rfl)
    refine res_tmp <| res_nil ?_
    exact rfl
   ·
    replace hm := ite_f hm (bool_nt h48)
    refine c_skip <| d_normal_block <| d_then <| c_region <| g_v rfl (r_add rfl rfl rfl) <| g_v rfl r_move <| g_nil ?_
    obtain ⟨n49, hn49, hlp⟩ := nx_inl hm hnx2
    exact d_round (n49, w64 (i30 + 1)) hlp hn49 ⟨rfl, rfl, rfl, rfl, trivial⟩ (fun W h => h.phi (fun W hφ => hφ))
  ·
   replace hm := ite_f hm (of_decide_eq_false h41)
   refine c_exit <| d_exit_then <| d_exit_then <| d_exit_block ?_
   replace hm := nx_out (C := (fun e => Sum.elim (fun e => m_slices_IndexFunc_54_2_j1) (fun x => some x) e = some r)) hm hnx2 hr2
   exact d_round () hm Nat.zero_lt_one trivial (fun W h => h.phi (fun W hφ => hφ))
 ·
  unfold m_slices_IndexFunc_54_2_j1 at hm
  refine d_flat [] trivial (fun u => ?_)
  refine d_sta ⟨w0, M, (1000, go0, .cells #[.int .i64 o0] 3 (0, 0)) :: H, R, φ⟩ (fun _ h => h) <| d_then <| c_seq <| c_region <| g_v rfl r_assign <| g_nil <| d_then <| c_ret ?_
  replace hm := Option.some.inj hm
  subst hm
  refine d_retC () Try.results54 ?_ trivial (fun W h => h.phi (fun W hφ => hφ)) (.inr rfl)
  refine res_tmp <| res_nil ?_
  exact rfl
noncomputable def m_slices_DeleteFunc_31_2_j1  (l49 : List GItem) (i52 : Int) : Option (List GItem) :=
  (cutLo l49 i52).bind fun l53 =>
  (cutHi l49 i52).bind fun l54 =>
  some l54
noncomputable def m_slices_DeleteFunc_31_2_s2 (o0 : Int) (l75 : List GItem) (i78 : Int) (i79 : Int) : Option (((List GItem) × Int × Int) ⊕ ((List GItem) × Int)) :=
  if i79 < (l75.length : Int) then
    (at_ l75 i79).bind fun x101 =>
    (m_net_Net_Lose_c1 x101 o0).bind fun x106 =>
    if x106 = true then
      some (.inl (l75, i78, w64 (i79 + 1)))
    else
      (at_ l75 i78).bind fun x109 =>
      (setAt l75 i78 x101).bind fun l113 =>
      some (.inl (l113, w64 (i78 + 1), w64 (i79 + 1)))
  else
    some (.inr (l75, i78))
noncomputable def m_slices_DeleteFunc_31_2 (p0 : List GItem) (o0 : Int) : Option (List GItem) :=
  (m_slices_IndexFunc_54_2 p0 o0).bind fun x1 =>
  if x1 = (-1) then
    some p0
  else
    (loop (fun s => m_slices_DeleteFunc_31_2_s2 o0 s.1 s.2.1 s.2.2) (p0, x1, w64 (x1 + 1))).bind fun e => m_slices_DeleteFunc_31_2_j1 e.1 e.2
theorem c_slices_DeleteFunc_31_2 {w0 : World} {M : Nat → Prop} {H : List (Nat × Nat × Obj)} {R : List (Nat × Row)} {φ : World → Prop} (p0 : List GItem) (Ap0_0 : Option Addr) (cp0_0 : Nat) (hcp0_0 : p0.length ≤ cp0_0) (go0 : Nat) (o0 : Int) (r : (List GItem)) (hm : m_slices_DeleteFunc_31_2 p0 o0 = some r) :
    Cn Try.prog 31 #[.slice Ap0_0 p0.length cp0_0, .func (.func 38) #[] #[.pointer (some ⟨go0, 0, none⟩)]] ⟨w0, M, (1000, go0, .cells #[.int .i64 o0] 3 (0, 0)) :: H, (1000, ⟨.slice Ap0_0 p0.length cp0_0, 40, 6, p0.length, p0.flatMap GItem.enc⟩) :: R, φ⟩ (fun x : Option Addr × Nat => .slice x.1 r.length x.2) (fun x => r.length ≤ x.2) (fun x => ⟨w0, M, (1000, go0, .cells #[.int .i64 o0] 3 (0, 0)) :: H, (2000, ⟨.slice x.1 r.length x.2, 40, 6, r.length, r.flatMap GItem.enc⟩) :: R, φ⟩) := by
 unfold m_slices_DeleteFunc_31_2 at hm
 refine cn_intro (fn := Try.f31) (N := 42) Try.func31 rfl Try.ntmps31 rfl <| c_seq <| c_region <| g_v rfl r_assign <| g_nil <| d_then <| c_seq <| c_region <| g_v rfl r_move <| g_v rfl r_move ?_
 replace hm := bnd hm
 obtain ⟨x1, hx2, hm⟩ := hm
 refine g_cn ⟨w0, M, (1000, go0, .cells #[.int .i64 o0] 3 (0, 0)) :: H, (1000, ⟨.slice Ap0_0 p0.length cp0_0, 40, 6, p0.length, p0.flatMap GItem.enc⟩) :: R, φ⟩ (fun W h => (ok_front (t := 1000) (t' := 1000) h rfl)) Try.call54 rfl rfl (c_slices_IndexFunc_54_2 p0 Ap0_0 cp0_0 hcp0_0 (fun W hS => rowCl (tag := 1000) rfl W hS) go0 o0 _ hx2) (fun _ _ => ?_)
 refine g_sta _ (fun W h => (ok_front (t := 1000) (t' := 1000) h rfl)) <| g_v rfl r_assign <| g_nil <| d_then <| c_seq <| c_seq <| c_region <| g_v rfl r_move <| g_v rfl (r_eql rfl rfl) <| g_nil ?_
 refine d_then ?_
 refine c_cond rfl (fun h3 => ?_) (fun h3 => ?_)
 ·
  replace hm := ite_t hm (of_decide_eq_true h3)
  refine c_seq <| c_region <| g_v rfl r_move <| g_v rfl r_assign <| g_nil <| d_then ?_
  refine c_flat [(4, .slice Ap0_0 p0.length cp0_0)] ⟨rfl, trivial⟩ (fun u => ?_)
  refine c_sta ⟨w0, M, (1000, go0, .cells #[.int .i64 o0] 3 (0, 0)) :: H, (1000, ⟨.slice Ap0_0 p0.length cp0_0, 40, 6, p0.length, p0.flatMap GItem.enc⟩) :: R, φ⟩ (fun _ h => h) <| c_ret <| d_ret_then ?_
  replace hm := Option.some.inj hm
  subst hm
  refine d_sta _ (fun W h => ok_frontR (t := 1000) (t' := 2000) h rfl) ?_
  refine d_retC (Ap0_0, cp0_0) Try.results31 ?_ hcp0_0 (fun W h => h.phi (fun W hφ => hφ)) (.inr rfl)
  refine res_tmp <| res_nil ?_
  exact rfl
 ·
  replace hm := ite_f hm (of_decide_eq_false h3)
  refine c_skip <| d_then <| c_seq <| c_seq <| c_region <| g_v rfl r_move <| g_v rfl (r_add rfl rfl rfl) <| g_v rfl r_assign <| g_nil <| d_then ?_
  refine c_flat [(0, .slice Ap0_0 p0.length cp0_0), (1, .func (.func 38) #[] #[.pointer (some ⟨go0, 0, none⟩)]), (5, .int .i64 x1), (6, .int .i64 (w64 (x1 + 1)))] ⟨rfl, rfl, rfl, rfl, trivial⟩ (fun u => ?_)
  refine c_sta ⟨w0, M, (1000, go0, .cells #[.int .i64 o0] 3 (0, 0)) :: H, (1000, ⟨.slice Ap0_0 p0.length cp0_0, 40, 6, p0.length, p0.flatMap GItem.enc⟩) :: R, φ⟩ (fun _ h => h) ?_
  refine c_cut (ι := (List GItem) × Int) [0, 5] (fun ⟨l49, i52⟩ => [(0, .slice Ap0_0 l49.length cp0_0), (5, .int .i64 i52)]) (fun ⟨l49, i52⟩ => ⟨w0, M, (1000, go0, .cells #[.int .i64 o0] 3 (0, 0)) :: H, (1000, ⟨.slice Ap0_0 l49.length cp0_0, 40, 6, l49.length, l49.flatMap GItem.enc⟩) :: R, φ⟩) (fun ⟨l49, i52⟩ => m_slices_DeleteFunc_31_2_j1 l49 i52 = some r ∧ (l49.length ≤ cp0_0 ∧ l49.length = p0.length)) ?_ (fun ⟨l49, i52⟩ u ⟨hm, hl49⟩ => ?_)
  ·
   refine c_block ?_
   replace hm := bnd hm
   obtain ⟨out2, hl2, hr2⟩ := hm
   obtain ⟨n99', hl2⟩ := loop_lp hl2
   refine c_loopU (ι := Nat × (List GItem) × Int × Int) [0, 1, 5, 6] (fun ⟨n99, l75, i78, i79⟩ => [(0, .slice Ap0_0 l75.length cp0_0), (5, .int .i64 i78), (6, .int .i64 i79)]) (fun ⟨n99, l75, i78, i79⟩ => ⟨w0, M, (1000, go0, .cells #[.int .i64 o0] 3 (0, 0)) :: H, (1000, ⟨.slice Ap0_0 l75.length cp0_0, 40, 6, l75.length, l75.flatMap GItem.enc⟩) :: R, φ⟩) (fun ⟨n99, l75, i78, i79⟩ => Lp (fun s => m_slices_DeleteFunc_31_2_s2 o0 s.1 s.2.1 s.2.2) n99 (l75, i78, i79) out2 ∧ (l75.length ≤ cp0_0 ∧ l75.length = p0.length)) (fun ⟨n99, l75, i78, i79⟩ => n99) (n99', p0, x1, w64 (x1 + 1)) ⟨hl2, ⟨hcp0_0, rfl⟩⟩ ⟨rfl, rfl, rfl, rfl, trivial⟩ (fun W h => h.phi (fun W hφ => hφ)) (fun ⟨n99, l75, i78, i79⟩ u ⟨hlp, hl75⟩ => ?_)
   obtain ⟨o2, hm, hnx2⟩ := lp_step hlp
   clear hlp
   replace hm : m_slices_DeleteFunc_31_2_s2 o0 l75 i78 i79 = some o2 := hm
   unfold m_slices_DeleteFunc_31_2_s2 at hm
   refine c_flat [(0, .slice Ap0_0 l75.length cp0_0), (1, .func (.func 38) #[] #[.pointer (some ⟨go0, 0, none⟩)]), (5, .int .i64 i78), (6, .int .i64 i79)] ⟨rfl, rfl, rfl, rfl, trivial⟩ (fun u => ?_)
   refine c_sta ⟨w0, M, (1000, go0, .cells #[.int .i64 o0] 3 (0, 0)) :: H, (1000, ⟨.slice Ap0_0 l75.length cp0_0, 40, 6, l75.length, l75.flatMap GItem.enc⟩) :: R, φ⟩ (fun _ h => h) <| c_seq <| c_seq <| c_region <| g_v rfl r_move <| g_v rfl r_move <| g_v rfl (r_lenL Try.underlying52 rfl) <| g_v rfl (r_lss rfl rfl) <| g_nil <| d_then ?_
   refine c_cond rfl (fun h100 => ?_) (fun h100 => ?_)
   ·
    replace hm := ite_t hm (of_decide_eq_true h100)
    refine c_skip <| d_then <| c_seq <| c_block <| c_seq <| c_region <| g_v rfl r_move <| g_v rfl r_move ?_
    replace hm := bnd hm
    obtain ⟨x101, hx101, hm⟩ := hm
    refine g_know _ (fun W hS => cl_at (p := (Sta.ok ⟨w0, M, (1000, go0, .cells #[.int .i64 o0] 3 (0, 0)) :: H, (1000, ⟨.slice Ap0_0 l75.length cp0_0, 40, 6, l75.length, l75.flatMap GItem.enc⟩) :: R, φ⟩)) (sz := 6) (fun _ => rfl) (by decide) hS (fun W hS => rowCl (S := ⟨w0, M, (1000, go0, .cells #[.int .i64 o0] 3 (0, 0)) :: H, (1000, ⟨.slice Ap0_0 l75.length cp0_0, 40, 6, l75.length, l75.flatMap GItem.enc⟩) :: R, φ⟩) (tag := 1000) rfl W hS) hx101) ?_
    rintro ⟨ad102, hA104, f103⟩
    refine g_v rfl (r_ix Try.underlying52 Try.sizeOf40 rfl hA104 rfl hx101) <| g_v rfl (r_ldA rfl Try.isAgg40 Try.sizeOf40 (fun W hS => (f103 W hS).take 6) rfl) ?_
    refine g_e rfl (e_alloc 100070 Try.zeroValue40) (fun g105 _ => ?_)
    refine g_storeL (tag := 100070) rfl rfl rfl rfl Try.sizeOf40 rfl rfl <| g_nil <| d_then ?_
    refine c_flat [(0, .slice Ap0_0 l75.length cp0_0), (1, .func (.func 38) #[] #[.pointer (some ⟨go0, 0, none⟩)]), (5, .int .i64 i78), (6, .int .i64 i79), (7, .pointer (some ⟨g105, 0, none⟩))] ⟨rfl, rfl, rfl, rfl, rfl, trivial⟩ (fun u => ?_)
    refine c_sta ⟨w0, M, (100070, g105, .cells #[.int .i64 x101.fNumber, .int .i64 x101.fKind, .int .i64 x101.fFrom, .int .i64 x101.fTo, .int .i64 x101.fConn, .string x101.fBody] 40 (0, 0)) :: (1000, go0, .cells #[.int .i64 o0] 3 (0, 0)) :: H, (1000, ⟨.slice Ap0_0 l75.length cp0_0, 40, 6, l75.length, l75.flatMap GItem.enc⟩) :: R, φ⟩ (fun _ h => h) <| c_seq <| c_region <| g_v rfl r_move <| g_v rfl (r_loadA (tag := 100070) rfl rfl Try.isAgg40 Try.sizeOf40 rfl rfl) ?_
    replace hm := bnd hm
    obtain ⟨x106, hx107, hm⟩ := hm
    refine g_cnv ⟨w0, M, (1000, go0, .cells #[.int .i64 o0] 3 (0, 0)) :: (100070, g105, .cells #[.int .i64 x101.fNumber, .int .i64 x101.fKind, .int .i64 x101.fFrom, .int .i64 x101.fTo, .int .i64 x101.fConn, .string x101.fBody] 40 (0, 0)) :: H, (1000, ⟨.slice Ap0_0 l75.length cp0_0, 40, 6, l75.length, l75.flatMap GItem.enc⟩) :: R, φ⟩ (fun W h => (ok_front (t := 1000) (t' := 1000) h rfl)) Try.call38 rfl rfl rfl (c_net_Net_Lose_c1 x101 go0 o0 _ hx107) (fun _ _ => ?_)
    refine g_sta _ (fun W h => (ok_front (t := 1000) (t' := 1000) h rfl)) <| g_v rfl (r_not rfl) <| g_nil <| d_then ?_
    refine c_cond rfl (fun h108 => ?_) (fun h108 => ?_)
    ·
     have h108' : x106 = false := by revert h108; cases x106 <;> simp
     replace hm := ite_f hm (bool_nt h108')
     refine c_seq <| c_region <| g_v rfl r_move <| g_v rfl r_move <| g_v rfl (r_loadA (tag := 100070) rfl rfl Try.isAgg40 Try.sizeOf40 rfl rfl) ?_
     replace hm := bnd hm
     obtain ⟨x109, hx109, hm⟩ := hm
     refine g_know _ (fun W hS => cl_at (p := (Sta.ok ⟨w0, M, (1000, go0, .cells #[.int .i64 o0] 3 (0, 0)) :: (100070, g105, .cells #[.int .i64 x101.fNumber, .int .i64 x101.fKind, .int .i64 x101.fFrom, .int .i64 x101.fTo, .int .i64 x101.fConn, .string x101.fBody] 40 (0, 0)) :: H, (1000, ⟨.slice Ap0_0 l75.length cp0_0, 40, 6, l75.length, l75.flatMap GItem.enc⟩) :: R, φ⟩)) (sz := 6) (fun _ => rfl) (by decide) hS (fun W hS => rowCl (S := ⟨w0, M, (1000, go0, .cells #[.int .i64 o0] 3 (0, 0)) :: (100070, g105, .cells #[.int .i64 x101.fNumber, .int .i64 x101.fKind, .int .i64 x101.fFrom, .int .i64 x101.fTo, .int .i64 x101.fConn, .string x101.fBody] 40 (0, 0)) :: H, (1000, ⟨.slice Ap0_0 l75.length cp0_0, 40, 6, l75.length, l75.flatMap GItem.enc⟩) :: R, φ⟩) (tag := 1000) rfl W hS) hx109) ?_
     rintro ⟨ad110, hA112, f111⟩
     refine g_v rfl (r_ix Try.underlying52 Try.sizeOf40 rfl hA112 rfl hx109) ?_
     replace hm := bnd hm
     obtain ⟨l113, hl113, hm⟩ := hm
     refine g_stR (tag := 1000) (enc := GItem.enc) (l := l75) (off := 0) (vs := [.int .i64 x101.fNumber, .int .i64 x101.fKind, .int .i64 x101.fFrom, .int .i64 x101.fTo, .int .i64 x101.fConn, .string x101.fBody]) (add0 rfl) hA112 rfl rfl hx109 hl113 rfl (Nat.le_of_ble_eq_true rfl) (fun _ => rfl) rfl rfl Try.sizeOf40 ?_
     rw [show l75.length = l113.length from (setAt_lenE hl113).symm]
     refine g_nil <| d_then ?_
     refine c_flat [(0, .slice Ap0_0 l113.length cp0_0), (1, .func (.func 38) #[] #[.pointer (some ⟨go0, 0, none⟩)]), (5, .int .i64 i78), (6, .int .i64 i79)] ⟨rfl, rfl, rfl, rfl, trivial⟩ (fun u => ?_)
     refine c_sta ⟨w0, M, (1000, go0, .cells #[.int .i64 o0] 3 (0, 0)) :: (100070, g105, .cells #[.int .i64 x101.fNumber, .int .i64 x101.fKind, .int .i64 x101.fFrom, .int .i64 x101.fTo, .int .i64 x101.fConn, .string x101.fBody] 40 (0, 0)) :: H, (1000, ⟨.slice Ap0_0 l113.length cp0_0, 40, 6, l113.length, l113.flatMap GItem.enc⟩) :: R, φ⟩ (fun _ h => h) <| c_region <| g_v rfl r_move <| g_v rfl (r_add rfl rfl rfl) <| g_v rfl r_assign <| g_nil <| d_normal_block <| d_then <| c_region <| g_v rfl r_move ?_
     refine g_v rfl (r_add rfl rfl rfl) <| g_v rfl r_assign <| g_nil ?_
     obtain ⟨n114, hn114, hlp⟩ := nx_inl hm hnx2
     exact d_round (n114, l113, w64 (i78 + 1), w64 (i79 + 1)) ⟨hlp, ⟨(setAt_len hl75.1 hl113), ((setAt_lenE hl113).trans hl75.2)⟩⟩ hn114 ⟨rfl, rfl, rfl, rfl, trivial⟩ (fun W h => (h.dropH (t := 100070) rfl).phi (fun W hφ => hφ))
    ·
     have h108' : x106 = true := by revert h108; cases x106 <;> simp
     replace hm := ite_t hm h108'
     refine c_skip <| d_normal_block <| d_then <| c_region <| g_v rfl r_move <| g_v rfl (r_add rfl rfl rfl) <| g_v rfl r_assign <| g_nil ?_
     obtain ⟨n115, hn115, hlp⟩ := nx_inl hm hnx2
     exact d_round (n115, l75, i78, w64 (i79 + 1)) ⟨hlp, ⟨hl75.1, hl75.2⟩⟩ hn115 ⟨rfl, rfl, rfl, rfl, trivial⟩ (fun W h => (h.dropH (t := 100070) rfl).phi (fun W hφ => hφ))
   ·
    replace hm := ite_f hm (of_decide_eq_false h100)
    refine c_exit <| d_exit_then <| d_exit_then <| d_exit_block ?_
    replace hm := nx_out (C := (fun e => m_slices_DeleteFunc_31_2_j1 e.1 e.2 = some r)) hm hnx2 hr2
    exact d_round (l75, i78) ⟨hm, ⟨hl75.1, hl75.2⟩⟩ Nat.zero_lt_one ⟨rfl, rfl, trivial⟩ (fun W h => h.phi (fun W hφ => hφ))
  ·
   unfold m_slices_DeleteFunc_31_2_j1 at hm
   refine d_flat [(0, .slice Ap0_0 l49.length cp0_0), (5, .int .i64 i52)] ⟨rfl, rfl, trivial⟩ (fun u => ?_)
   refine d_sta ⟨w0, M, (1000, go0, .cells #[.int .i64 o0] 3 (0, 0)) :: H, (1000, ⟨.slice Ap0_0 l49.length cp0_0, 40, 6, l49.length, l49.flatMap GItem.enc⟩) :: R, φ⟩ (fun _ h => h) <| d_then <| c_seq <| c_region <| g_v rfl r_move <| g_v rfl r_move ?_
   replace hm := bnd hm
   obtain ⟨l53, hl53, hm⟩ := hm
   refine g_v rfl (r_lcutLo Try.underlying52 Try.sizeOf40 rfl hl49.1 rfl hl53) ?_
   replace hm := bnd hm
   obtain ⟨l54, hl54, hm⟩ := hm
   refine g_sta _ (fun W h => row_cut (tag := 1000) (enc := GItem.enc) (fun _ => rfl) rfl hl54 h) <| g_e0 (e_clearLo (tag := 1000) (enc := GItem.enc) Try.underlying52 Try.zeroValue40 rfl rfl hl54 hl53 rfl hl49.1 rfl) <| g_nil <| d_then <| c_seq <| c_region <| g_v rfl r_move <| g_v rfl r_move <| g_v rfl (r_lcutHi Try.underlying52 Try.sizeOf40 rfl hl49.1 rfl hl54) <| g_v rfl r_assign ?_
   refine g_nil <| d_then <| c_ret ?_
   replace hm := Option.some.inj hm
   subst hm
   refine d_sta _ (fun W h => ok_frontR (t := 1000) (t' := 2000) h rfl) ?_
   refine d_retC (Ap0_0, cp0_0) Try.results31 ?_ (cutHi_len hl49.1 hl54) (fun W h => h.phi (fun W hφ => hφ)) (.inr rfl)
   refine res_tmp <| res_nil ?_
   exact rfl
noncomputable def m_net_Net_Lose_c2 (p0 : Gnet_conn) (o0 : Int) : Option Bool :=
  (m_net_conn_has p0 o0).bind fun x2 =>
  some x2
theorem c_net_Net_Lose_c2 {w0 : World} {M : Nat → Prop} {H : List (Nat × Nat × Obj)} {R : List (Nat × Row)} {φ : World → Prop} (p0 : Gnet_conn) (go0 : Nat) (o0 : Int) (r : Bool) (hm : m_net_Net_Lose_c2 p0 o0 = some r) :
    Cn Try.prog 42 #[.agg #[.int .i64 p0.fnumber, .int .i64 p0.fends.a0, .int .i64 p0.fends.a1], .pointer (some ⟨go0, 0, none⟩)] ⟨w0, M, (1000, go0, .cells #[.int .i64 o0] 3 (0, 0)) :: H, R, φ⟩ (fun x : Unit => .bool r) (fun x => True) (fun x => ⟨w0, M, (1000, go0, .cells #[.int .i64 o0] 3 (0, 0)) :: H, R, φ⟩) := by
 unfold m_net_Net_Lose_c2 at hm
 refine cn_intro (fn := Try.f42) (N := 7) Try.func42 rfl Try.ntmps42 rfl <| c_seq <| c_region ?_
 refine g_e rfl (e_box 100020 rfl) (fun g1 _ => ?_)
 refine g_v rfl r_assign <| g_nil <| d_then <| c_seq <| c_region <| g_v rfl (r_loadA (tag := 100020) rfl rfl Try.isAgg63 Try.sizeOf63 rfl rfl) <| g_v rfl (r_load (tag := 1000) rfl rfl rfl Try.isAgg3) ?_
 replace hm := bnd hm
 obtain ⟨x2, hx3, hm⟩ := hm
 refine g_cn ⟨w0, M, _, _, φ⟩ (fun _ h => h) Try.call39 rfl rfl (c_net_conn_has p0 o0 _ hx3) (fun _ _ => ?_)
 refine g_v rfl r_assign <| g_nil <| d_then <| c_ret ?_
 replace hm := Option.some.inj hm
 subst hm
 refine d_retC () Try.results42 ?_ trivial (fun W h => (h.dropH (t := 100020) rfl).phi (fun W hφ => hφ)) (.inr rfl)
 refine res_tmp <| res_nil ?_
 exact rfl
noncomputable def m_slices_IndexFunc_52_2_j1  : Option Int :=
  some (-1)
noncomputable def m_slices_IndexFunc_52_2_s2 (p0 : List Gnet_conn) (o0 : Int) (i30 : Int) : Option (Int ⊕ (Unit ⊕ Int)) :=
  if i30 < (p0.length : Int) then
    (at_ p0 i30).bind fun x42 =>
    (m_net_Net_Lose_c2 x42 o0).bind fun x46 =>
    if x46 = true then
      some (.inr (.inr i30))
    else
      some (.inl (w64 (i30 + 1)))
  else
    some (.inr (.inl ()))
noncomputable def m_slices_IndexFunc_52_2 (p0 : List Gnet_conn) (o0 : Int) : Option Int :=
  (loop (fun s => m_slices_IndexFunc_52_2_s2 p0 o0 s) 0).bind fun e => Sum.elim (fun e => m_slices_IndexFunc_52_2_j1) (fun x => some x) e
theorem c_slices_IndexFunc_52_2 {w0 : World} {M : Nat → Prop} {H : List (Nat × Nat × Obj)} {R : List (Nat × Row)} {φ : World → Prop} (p0 : List Gnet_conn) (Ap0_0 : Option Addr) (cp0_0 : Nat) (hcp0_0 : p0.length ≤ cp0_0) (fp0_0 : ∀ W, (Sta.mk w0 M H R φ).ok W → Cl W Ap0_0 (p0.flatMap Gnet_conn.enc)) (go0 : Nat) (o0 : Int) (r : Int) (hm : m_slices_IndexFunc_52_2 p0 o0 = some r) :
    Cn Try.prog 52 #[.slice Ap0_0 p0.length cp0_0, .func (.func 42) #[] #[.pointer (some ⟨go0, 0, none⟩)]] ⟨w0, M, (1000, go0, .cells #[.int .i64 o0] 3 (0, 0)) :: H, R, φ⟩ (fun x : Unit => .int .i64 r) (fun x => True) (fun x => ⟨w0, M, (1000, go0, .cells #[.int .i64 o0] 3 (0, 0)) :: H, R, φ⟩) := by
 unfold m_slices_IndexFunc_52_2 at hm
 refine cn_intro (fn := Try.f52) (N := 19) Try.func52 rfl Try.ntmps52 rfl <| c_seq <| c_region <| g_v rfl r_assign <| g_nil <| d_then <| c_seq <| c_seq <| c_region <| g_v rfl r_move ?_
 refine g_v rfl (r_lenL Try.underlying59 rfl) <| g_v rfl r_move <| g_nil <| d_then ?_
 refine c_cut (ι := Unit) [] (fun _ => []) (fun _ => ⟨w0, M, (1000, go0, .cells #[.int .i64 o0] 3 (0, 0)) :: H, R, φ⟩) (fun _ => m_slices_IndexFunc_52_2_j1 = some r) ?_ (fun _ u hm => ?_)
 ·
  refine c_block ?_
  replace hm := bnd hm
  obtain ⟨out2, hl2, hr2⟩ := hm
  obtain ⟨n40', hl2⟩ := loop_lp hl2
  refine c_loopU (ι := Nat × Int) [0, 1, 7, 8] (fun ⟨n40, i30⟩ => [(8, .int .i64 i30)]) (fun ⟨n40, i30⟩ => ⟨w0, M, (1000, go0, .cells #[.int .i64 o0] 3 (0, 0)) :: H, R, φ⟩) (fun ⟨n40, i30⟩ => Lp (fun s => m_slices_IndexFunc_52_2_s2 p0 o0 s) n40 i30 out2) (fun ⟨n40, i30⟩ => n40) (n40', 0) hl2 ⟨rfl, rfl, rfl, rfl, trivial⟩ (fun W h => h.phi (fun W hφ => hφ)) (fun ⟨n40, i30⟩ u hlp => ?_)
  obtain ⟨o2, hm, hnx2⟩ := lp_step hlp
  clear hlp
  replace hm : m_slices_IndexFunc_52_2_s2 p0 o0 i30 = some o2 := hm
  unfold m_slices_IndexFunc_52_2_s2 at hm
  refine c_flat [(0, .slice Ap0_0 p0.length cp0_0), (1, .func (.func 42) #[] #[.pointer (some ⟨go0, 0, none⟩)]), (7, .int .i64 (p0.length : Int)), (8, .int .i64 i30)] ⟨rfl, rfl, rfl, rfl, trivial⟩ (fun u => ?_)
  refine c_sta ⟨w0, M, (1000, go0, .cells #[.int .i64 o0] 3 (0, 0)) :: H, R, φ⟩ (fun _ h => h) <| c_seq <| c_region <| g_v rfl (r_lss rfl rfl) <| g_nil <| d_then <| c_seq ?_
  refine c_cond rfl (fun h41 => ?_) (fun h41 => ?_)
  ·
   replace hm := ite_t hm (of_decide_eq_true h41)
   refine c_skip <| d_then <| c_seq <| c_block <| c_seq <| c_region <| g_v rfl r_move <| g_v rfl r_assign <| g_nil <| d_then ?_
   refine c_seq <| c_region <| g_v rfl r_move <| g_v rfl r_move <| g_v rfl r_move ?_
   replace hm := bnd hm
   obtain ⟨x42, hx42, hm⟩ := hm
   refine g_know _ (fun W hS => cl_at (p := (Sta.mk w0 M H R φ).ok) (sz := 3) (fun _ => rfl) (by decide) (ok_pre (H1 := [_]) (R1 := []) hS (fun W h => h)) fp0_0 hx42) ?_
   rintro ⟨ad43, hA45, f44⟩
   refine g_v rfl (r_ix Try.underlying59 Try.sizeOf63 rfl hA45 rfl hx42) <| g_v rfl (r_ldA rfl Try.isAgg63 Try.sizeOf63 (fun W hS => (f44 W (ok_pre (H1 := [_]) (R1 := []) hS (fun W h => h))).take 3) rfl) ?_
   replace hm := bnd hm
   obtain ⟨x46, hx47, hm⟩ := hm
   refine g_cnv ⟨w0, M, (1000, go0, .cells #[.int .i64 o0] 3 (0, 0)) :: H, R, φ⟩ (fun W h => (ok_front (t := 1000) (t' := 1000) h rfl)) Try.call42 rfl rfl rfl (c_net_Net_Lose_c2 x42 go0 o0 _ hx47) (fun _ _ => ?_)
   refine g_sta _ (fun W h => (ok_front (t := 1000) (t' := 1000) h rfl)) <| g_nil <| d_then ?_
   refine c_flat [(0, .slice Ap0_0 p0.length cp0_0), (1, .func (.func 42) #[] #[.pointer (some ⟨go0, 0, none⟩)]), (5, .int .i64 i30), (7, .int .i64 (p0.length : Int)), (8, .int .i64 i30), (16, .bool x46)] ⟨rfl, rfl, rfl, rfl, rfl, rfl, trivial⟩ (fun u => ?_)
   refine c_cond rfl (fun h48 => ?_) (fun h48 => ?_)
   ·
    replace hm := ite_t hm h48
    refine c_seq <| c_region <| g_v rfl r_move <| g_v rfl r_assign <| g_nil <| d_then <| c_ret <| d_ret_block <| d_ret_then <| d_ret_then ?_
    refine d_ret_block <| d_ret_then <| d_ret_then ?_
    replace hm := nx_out (C := (fun e => Sum.elim (fun e => m_slices_IndexFunc_52_2_j1) (fun x => some x) e = some r)) hm hnx2 hr2
    replace hm : some i30 = some r := hm
    replace hm := Option.some.inj hm
    subst hm
    refine d_retC () Try.results52 ?_ trivial (fun W h => h.phi (fun W hφ => hφ)) (.inr rfl)
    refine res_tmp <| res_nil ?_
    exact rfl
   ·
    replace hm := ite_f hm (bool_nt h48)
    refine c_skip <| d_normal_block <| d_then <| c_region <| g_v rfl (r_add rfl rfl rfl) <| g_v rfl r_move <| g_nil ?_
    obtain ⟨n49, hn49, hlp⟩ := nx_inl hm hnx2
    exact d_round (n49, w64 (i30 + 1)) hlp hn49 ⟨rfl, rfl, rfl, rfl, trivial⟩ (fun W h => h.phi (fun W hφ => hφ))
  ·
   replace hm := ite_f hm (of_decide_eq_false h41)
   refine c_exit <| d_exit_then <| d_exit_then <| d_exit_block ?_
   replace hm := nx_out (C := (fun e => Sum.elim (fun e => m_slices_IndexFunc_52_2_j1) (fun x => some x) e = some r)) hm hnx2 hr2
   exact d_round () hm Nat.zero_lt_one trivial (fun W h => h.phi (fun W hφ => hφ))
 ·
  unfold m_slices_IndexFunc_52_2_j1 at hm
  refine d_flat [] trivial (fun u => ?_)
  refine d_sta ⟨w0, M, (1000, go0, .cells #[.int .i64 o0] 3 (0, 0)) :: H, R, φ⟩ (fun _ h => h) <| d_then <| c_seq <| c_region <| g_v rfl r_assign <| g_nil <| d_then <| c_ret ?_
  replace hm := Option.some.inj hm
  subst hm
  refine d_retC () Try.results52 ?_ trivial (fun W h => h.phi (fun W hφ => hφ)) (.inr rfl)
  refine res_tmp <| res_nil ?_
  exact rfl
noncomputable def m_slices_DeleteFunc_41_j1  (l49 : List Gnet_conn) (i52 : Int) : Option (List Gnet_conn) :=
  (cutLo l49 i52).bind fun l53 =>
  (cutHi l49 i52).bind fun l54 =>
  some l54
noncomputable def m_slices_DeleteFunc_41_s2 (o0 : Int) (l75 : List Gnet_conn) (i78 : Int) (i79 : Int) : Option (((List Gnet_conn) × Int × Int) ⊕ ((List Gnet_conn) × Int)) :=
  if i79 < (l75.length : Int) then
    (at_ l75 i79).bind fun x101 =>
    (m_net_Net_Lose_c2 x101 o0).bind fun x106 =>
    if x106 = true then
      some (.inl (l75, i78, w64 (i79 + 1)))
    else
      (at_ l75 i78).bind fun x109 =>
      (setAt l75 i78 x101).bind fun l113 =>
      some (.inl (l113, w64 (i78 + 1), w64 (i79 + 1)))
  else
    some (.inr (l75, i78))
noncomputable def m_slices_DeleteFunc_41 (p0 : List Gnet_conn) (o0 : Int) : Option (List Gnet_conn) :=
  (m_slices_IndexFunc_52_2 p0 o0).bind fun x1 =>
  if x1 = (-1) then
    some p0
  else
    (loop (fun s => m_slices_DeleteFunc_41_s2 o0 s.1 s.2.1 s.2.2) (p0, x1, w64 (x1 + 1))).bind fun e => m_slices_DeleteFunc_41_j1 e.1 e.2
theorem c_slices_DeleteFunc_41 {w0 : World} {M : Nat → Prop} {H : List (Nat × Nat × Obj)} {R : List (Nat × Row)} {φ : World → Prop} (p0 : List Gnet_conn) (Ap0_0 : Option Addr) (cp0_0 : Nat) (hcp0_0 : p0.length ≤ cp0_0) (go0 : Nat) (o0 : Int) (r : (List Gnet_conn)) (hm : m_slices_DeleteFunc_41 p0 o0 = some r) :
    Cn Try.prog 41 #[.slice Ap0_0 p0.length cp0_0, .func (.func 42) #[] #[.pointer (some ⟨go0, 0, none⟩)]] ⟨w0, M, (1000, go0, .cells #[.int .i64 o0] 3 (0, 0)) :: H, (1000, ⟨.slice Ap0_0 p0.length cp0_0, 63, 3, p0.length, p0.flatMap Gnet_conn.enc⟩) :: R, φ⟩ (fun x : Option Addr × Nat => .slice x.1 r.length x.2) (fun x => r.length ≤ x.2) (fun x => ⟨w0, M, (1000, go0, .cells #[.int .i64 o0] 3 (0, 0)) :: H, (2000, ⟨.slice x.1 r.length x.2, 63, 3, r.length, r.flatMap Gnet_conn.enc⟩) :: R, φ⟩) := by
 unfold m_slices_DeleteFunc_41 at hm
 refine cn_intro (fn := Try.f41) (N := 42) Try.func41 rfl Try.ntmps41 rfl <| c_seq <| c_region <| g_v rfl r_assign <| g_nil <| d_then <| c_seq <| c_region <| g_v rfl r_move <| g_v rfl r_move ?_
 replace hm := bnd hm
 obtain ⟨x1, hx2, hm⟩ := hm
 refine g_cn ⟨w0, M, (1000, go0, .cells #[.int .i64 o0] 3 (0, 0)) :: H, (1000, ⟨.slice Ap0_0 p0.length cp0_0, 63, 3, p0.length, p0.flatMap Gnet_conn.enc⟩) :: R, φ⟩ (fun W h => (ok_front (t := 1000) (t' := 1000) h rfl)) Try.call52 rfl rfl (c_slices_IndexFunc_52_2 p0 Ap0_0 cp0_0 hcp0_0 (fun W hS => rowCl (tag := 1000) rfl W hS) go0 o0 _ hx2) (fun _ _ => ?_)
 refine g_sta _ (fun W h => (ok_front (t := 1000) (t' := 1000) h rfl)) <| g_v rfl r_assign <| g_nil <| d_then <| c_seq <| c_seq <| c_region <| g_v rfl r_move <| g_v rfl (r_eql rfl rfl) <| g_nil ?_
 refine d_then ?_
 refine c_cond rfl (fun h3 => ?_) (fun h3 => ?_)
 ·
  replace hm := ite_t hm (of_decide_eq_true h3)
  refine c_seq <| c_region <| g_v rfl r_move <| g_v rfl r_assign <| g_nil <| d_then ?_
  refine c_flat [(4, .slice Ap0_0 p0.length cp0_0)] ⟨rfl, trivial⟩ (fun u => ?_)
  refine c_sta ⟨w0, M, (1000, go0, .cells #[.int .i64 o0] 3 (0, 0)) :: H, (1000, ⟨.slice Ap0_0 p0.length cp0_0, 63, 3, p0.length, p0.flatMap Gnet_conn.enc⟩) :: R, φ⟩ (fun _ h => h) <| c_ret <| d_ret_then ?_
  replace hm := Option.some.inj hm
  subst hm
  refine d_sta _ (fun W h => ok_frontR (t := 1000) (t' := 2000) h rfl) ?_
  refine d_retC (Ap0_0, cp0_0) Try.results41 ?_ hcp0_0 (fun W h => h.phi (fun W hφ => hφ)) (.inr rfl)
  refine res_tmp <| res_nil ?_
  exact rfl
 ·
  replace hm := ite_f hm (of_decide_eq_false h3)
  refine c_skip <| d_then <| c_seq <| c_seq <| c_region <| g_v rfl r_move <| g_v rfl (r_add rfl rfl rfl) <| g_v rfl r_assign <| g_nil <| d_then ?_
  refine c_flat [(0, .slice Ap0_0 p0.length cp0_0), (1, .func (.func 42) #[] #[.pointer (some ⟨go0, 0, none⟩)]), (5, .int .i64 x1), (6, .int .i64 (w64 (x1 + 1)))] ⟨rfl, rfl, rfl, rfl, trivial⟩ (fun u => ?_)
  refine c_sta ⟨w0, M, (1000, go0, .cells #[.int .i64 o0] 3 (0, 0)) :: H, (1000, ⟨.slice Ap0_0 p0.length cp0_0, 63, 3, p0.length, p0.flatMap Gnet_conn.enc⟩) :: R, φ⟩ (fun _ h => h) ?_
  refine c_cut (ι := (List Gnet_conn) × Int) [0, 5] (fun ⟨l49, i52⟩ => [(0, .slice Ap0_0 l49.length cp0_0), (5, .int .i64 i52)]) (fun ⟨l49, i52⟩ => ⟨w0, M, (1000, go0, .cells #[.int .i64 o0] 3 (0, 0)) :: H, (1000, ⟨.slice Ap0_0 l49.length cp0_0, 63, 3, l49.length, l49.flatMap Gnet_conn.enc⟩) :: R, φ⟩) (fun ⟨l49, i52⟩ => m_slices_DeleteFunc_41_j1 l49 i52 = some r ∧ (l49.length ≤ cp0_0 ∧ l49.length = p0.length)) ?_ (fun ⟨l49, i52⟩ u ⟨hm, hl49⟩ => ?_)
  ·
   refine c_block ?_
   replace hm := bnd hm
   obtain ⟨out2, hl2, hr2⟩ := hm
   obtain ⟨n99', hl2⟩ := loop_lp hl2
   refine c_loopU (ι := Nat × (List Gnet_conn) × Int × Int) [0, 1, 5, 6] (fun ⟨n99, l75, i78, i79⟩ => [(0, .slice Ap0_0 l75.length cp0_0), (5, .int .i64 i78), (6, .int .i64 i79)]) (fun ⟨n99, l75, i78, i79⟩ => ⟨w0, M, (1000, go0, .cells #[.int .i64 o0] 3 (0, 0)) :: H, (1000, ⟨.slice Ap0_0 l75.length cp0_0, 63, 3, l75.length, l75.flatMap Gnet_conn.enc⟩) :: R, φ⟩) (fun ⟨n99, l75, i78, i79⟩ => Lp (fun s => m_slices_DeleteFunc_41_s2 o0 s.1 s.2.1 s.2.2) n99 (l75, i78, i79) out2 ∧ (l75.length ≤ cp0_0 ∧ l75.length = p0.length)) (fun ⟨n99, l75, i78, i79⟩ => n99) (n99', p0, x1, w64 (x1 + 1)) ⟨hl2, ⟨hcp0_0, rfl⟩⟩ ⟨rfl, rfl, rfl, rfl, trivial⟩ (fun W h => h.phi (fun W hφ => hφ)) (fun ⟨n99, l75, i78, i79⟩ u ⟨hlp, hl75⟩ => ?_)
   obtain ⟨o2, hm, hnx2⟩ := lp_step hlp
   clear hlp
   replace hm : m_slices_DeleteFunc_41_s2 o0 l75 i78 i79 = some o2 := hm
   unfold m_slices_DeleteFunc_41_s2 at hm
   refine c_flat [(0, .slice Ap0_0 l75.length cp0_0), (1, .func (.func 42) #[] #[.pointer (some ⟨go0, 0, none⟩)]), (5, .int .i64 i78), (6, .int .i64 i79)] ⟨rfl, rfl, rfl, rfl, trivial⟩ (fun u => ?_)
   refine c_sta ⟨w0, M, (1000, go0, .cells #[.int .i64 o0] 3 (0, 0)) :: H, (1000, ⟨.slice Ap0_0 l75.length cp0_0, 63, 3, l75.length, l75.flatMap Gnet_conn.enc⟩) :: R, φ⟩ (fun _ h => h) <| c_seq <| c_seq <| c_region <| g_v rfl r_move <| g_v rfl r_move <| g_v rfl (r_lenL Try.underlying59 rfl) <| g_v rfl (r_lss rfl rfl) <| g_nil <| d_then ?_
   refine c_cond rfl (fun h100 => ?_) (fun h100 => ?_)
   ·
    replace hm := ite_t hm (of_decide_eq_true h100)
    refine c_skip <| d_then <| c_seq <| c_block <| c_seq <| c_region <| g_v rfl r_move <| g_v rfl r_move ?_
    replace hm := bnd hm
    obtain ⟨x101, hx101, hm⟩ := hm
    refine g_know _ (fun W hS => cl_at (p := (Sta.ok ⟨w0, M, (1000, go0, .cells #[.int .i64 o0] 3 (0, 0)) :: H, (1000, ⟨.slice Ap0_0 l75.length cp0_0, 63, 3, l75.length, l75.flatMap Gnet_conn.enc⟩) :: R, φ⟩)) (sz := 3) (fun _ => rfl) (by decide) hS (fun W hS => rowCl (S := ⟨w0, M, (1000, go0, .cells #[.int .i64 o0] 3 (0, 0)) :: H, (1000, ⟨.slice Ap0_0 l75.length cp0_0, 63, 3, l75.length, l75.flatMap Gnet_conn.enc⟩) :: R, φ⟩) (tag := 1000) rfl W hS) hx101) ?_
    rintro ⟨ad102, hA104, f103⟩
    refine g_v rfl (r_ix Try.underlying59 Try.sizeOf63 rfl hA104 rfl hx101) <| g_v rfl (r_ldA rfl Try.isAgg63 Try.sizeOf63 (fun W hS => (f103 W hS).take 3) rfl) ?_
    refine g_e rfl (e_alloc 100070 Try.zeroValue63) (fun g105 _ => ?_)
    refine g_storeL (tag := 100070) rfl rfl rfl rfl Try.sizeOf63 rfl rfl <| g_nil <| d_then ?_
    refine c_flat [(0, .slice Ap0_0 l75.length cp0_0), (1, .func (.func 42) #[] #[.pointer (some ⟨go0, 0, none⟩)]), (5, .int .i64 i78), (6, .int .i64 i79), (7, .pointer (some ⟨g105, 0, none⟩))] ⟨rfl, rfl, rfl, rfl, rfl, trivial⟩ (fun u => ?_)
    refine c_sta ⟨w0, M, (100070, g105, .cells #[.int .i64 x101.fnumber, .int .i64 x101.fends.a0, .int .i64 x101.fends.a1] 63 (0, 0)) :: (1000, go0, .cells #[.int .i64 o0] 3 (0, 0)) :: H, (1000, ⟨.slice Ap0_0 l75.length cp0_0, 63, 3, l75.length, l75.flatMap Gnet_conn.enc⟩) :: R, φ⟩ (fun _ h => h) <| c_seq <| c_region <| g_v rfl r_move <| g_v rfl (r_loadA (tag := 100070) rfl rfl Try.isAgg63 Try.sizeOf63 rfl rfl) ?_
    replace hm := bnd hm
    obtain ⟨x106, hx107, hm⟩ := hm
    refine g_cnv ⟨w0, M, (1000, go0, .cells #[.int .i64 o0] 3 (0, 0)) :: (100070, g105, .cells #[.int .i64 x101.fnumber, .int .i64 x101.fends.a0, .int .i64 x101.fends.a1] 63 (0, 0)) :: H, (1000, ⟨.slice Ap0_0 l75.length cp0_0, 63, 3, l75.length, l75.flatMap Gnet_conn.enc⟩) :: R, φ⟩ (fun W h => (ok_front (t := 1000) (t' := 1000) h rfl)) Try.call42 rfl rfl rfl (c_net_Net_Lose_c2 x101 go0 o0 _ hx107) (fun _ _ => ?_)
    refine g_sta _ (fun W h => (ok_front (t := 1000) (t' := 1000) h rfl)) <| g_v rfl (r_not rfl) <| g_nil <| d_then ?_
    refine c_cond rfl (fun h108 => ?_) (fun h108 => ?_)
    ·
     have h108' : x106 = false := by revert h108; cases x106 <;> simp
     replace hm := ite_f hm (bool_nt h108')
     refine c_seq <| c_region <| g_v rfl r_move <| g_v rfl r_move <| g_v rfl (r_loadA (tag := 100070) rfl rfl Try.isAgg63 Try.sizeOf63 rfl rfl) ?_
     replace hm := bnd hm
     obtain ⟨x109, hx109, hm⟩ := hm
     refine g_know _ (fun W hS => cl_at (p := (Sta.ok ⟨w0, M, (1000, go0, .cells #[.int .i64 o0] 3 (0, 0)) :: (100070, g105, .cells #[.int .i64 x101.fnumber, .int .i64 x101.fends.a0, .int .i64 x101.fends.a1] 63 (0, 0)) :: H, (1000, ⟨.slice Ap0_0 l75.length cp0_0, 63, 3, l75.length, l75.flatMap Gnet_conn.enc⟩) :: R, φ⟩)) (sz := 3) (fun _ => rfl) (by decide) hS (fun W hS => rowCl (S := ⟨w0, M, (1000, go0, .cells #[.int .i64 o0] 3 (0, 0)) :: (100070, g105, .cells #[.int .i64 x101.fnumber, .int .i64 x101.fends.a0, .int .i64 x101.fends.a1] 63 (0, 0)) :: H, (1000, ⟨.slice Ap0_0 l75.length cp0_0, 63, 3, l75.length, l75.flatMap Gnet_conn.enc⟩) :: R, φ⟩) (tag := 1000) rfl W hS) hx109) ?_
     rintro ⟨ad110, hA112, f111⟩
     refine g_v rfl (r_ix Try.underlying59 Try.sizeOf63 rfl hA112 rfl hx109) ?_
     replace hm := bnd hm
     obtain ⟨l113, hl113, hm⟩ := hm
     refine g_stR (tag := 1000) (enc := Gnet_conn.enc) (l := l75) (off := 0) (vs := [.int .i64 x101.fnumber, .int .i64 x101.fends.a0, .int .i64 x101.fends.a1]) (add0 rfl) hA112 rfl rfl hx109 hl113 rfl (Nat.le_of_ble_eq_true rfl) (fun _ => rfl) rfl rfl Try.sizeOf63 ?_
     rw [show l75.length = l113.length from (setAt_lenE hl113).symm]
     refine g_nil <| d_then ?_
     refine c_flat [(0, .slice Ap0_0 l113.length cp0_0), (1, .func (.func 42) #[] #[.pointer (some ⟨go0, 0, none⟩)]), (5, .int .i64 i78), (6, .int .i64 i79)] ⟨rfl, rfl, rfl, rfl, trivial⟩ (fun u => ?_)
     refine c_sta ⟨w0, M, (1000, go0, .cells #[.int .i64 o0] 3 (0, 0)) :: (100070, g105, .cells #[.int .i64 x101.fnumber, .int .i64 x101.fends.a0, .int .i64 x101.fends.a1] 63 (0, 0)) :: H, (1000, ⟨.slice Ap0_0 l113.length cp0_0, 63, 3, l113.length, l113.flatMap Gnet_conn.enc⟩) :: R, φ⟩ (fun _ h => h) <| c_region <| g_v rfl r_move <| g_v rfl (r_add rfl rfl rfl) <| g_v rfl r_assign <| g_nil <| d_normal_block <| d_then <| c_region <| g_v rfl r_move ?_
     refine g_v rfl (r_add rfl rfl rfl) <| g_v rfl r_assign <| g_nil ?_
     obtain ⟨n114, hn114, hlp⟩ := nx_inl hm hnx2
     exact d_round (n114, l113, w64 (i78 + 1), w64 (i79 + 1)) ⟨hlp, ⟨(setAt_len hl75.1 hl113), ((setAt_lenE hl113).trans hl75.2)⟩⟩ hn114 ⟨rfl, rfl, rfl, rfl, trivial⟩ (fun W h => (h.dropH (t := 100070) rfl).phi (fun W hφ => hφ))
    ·
     have h108' : x106 = true := by revert h108; cases x106 <;> simp
     replace hm := ite_t hm h108'
     refine c_skip <| d_normal_block <| d_then <| c_region <| g_v rfl r_move <| g_v rfl (r_add rfl rfl rfl) <| g_v rfl r_assign <| g_nil ?_
     obtain ⟨n115, hn115, hlp⟩ := nx_inl hm hnx2
     exact d_round (n115, l75, i78, w64 (i79 + 1)) ⟨hlp, ⟨hl75.1, hl75.2⟩⟩ hn115 ⟨rfl, rfl, rfl, rfl, trivial⟩ (fun W h => (h.dropH (t := 100070) rfl).phi (fun W hφ => hφ))
   ·
    replace hm := ite_f hm (of_decide_eq_false h100)
    refine c_exit <| d_exit_then <| d_exit_then <| d_exit_block ?_
    replace hm := nx_out (C := (fun e => m_slices_DeleteFunc_41_j1 e.1 e.2 = some r)) hm hnx2 hr2
    exact d_round (l75, i78) ⟨hm, ⟨hl75.1, hl75.2⟩⟩ Nat.zero_lt_one ⟨rfl, rfl, trivial⟩ (fun W h => h.phi (fun W hφ => hφ))
  ·
   unfold m_slices_DeleteFunc_41_j1 at hm
   refine d_flat [(0, .slice Ap0_0 l49.length cp0_0), (5, .int .i64 i52)] ⟨rfl, rfl, trivial⟩ (fun u => ?_)
   refine d_sta ⟨w0, M, (1000, go0, .cells #[.int .i64 o0] 3 (0, 0)) :: H, (1000, ⟨.slice Ap0_0 l49.length cp0_0, 63, 3, l49.length, l49.flatMap Gnet_conn.enc⟩) :: R, φ⟩ (fun _ h => h) <| d_then <| c_seq <| c_region <| g_v rfl r_move <| g_v rfl r_move ?_
   replace hm := bnd hm
   obtain ⟨l53, hl53, hm⟩ := hm
   refine g_v rfl (r_lcutLo Try.underlying59 Try.sizeOf63 rfl hl49.1 rfl hl53) ?_
   replace hm := bnd hm
   obtain ⟨l54, hl54, hm⟩ := hm
   refine g_sta _ (fun W h => row_cut (tag := 1000) (enc := Gnet_conn.enc) (fun _ => rfl) rfl hl54 h) <| g_e0 (e_clearLo (tag := 1000) (enc := Gnet_conn.enc) Try.underlying59 Try.zeroValue63 rfl rfl hl54 hl53 rfl hl49.1 rfl) <| g_nil <| d_then <| c_seq <| c_region <| g_v rfl r_move <| g_v rfl r_move <| g_v rfl (r_lcutHi Try.underlying59 Try.sizeOf63 rfl hl49.1 rfl hl54) <| g_v rfl r_assign ?_
   refine g_nil <| d_then <| c_ret ?_
   replace hm := Option.some.inj hm
   subst hm
   refine d_sta _ (fun W h => ok_frontR (t := 1000) (t' := 2000) h rfl) ?_
   refine d_retC (Ap0_0, cp0_0) Try.results41 ?_ (cutHi_len hl49.1 hl54) (fun W h => h.phi (fun W hφ => hφ)) (.inr rfl)
   refine res_tmp <| res_nil ?_
   exact rfl
noncomputable def m_net_Net_Lose_j1 (o0 : Gnet_Net) (p1 : Int) (l87 : List GItem) (i90 : Int) (i91 : Int) : Option (Int × Gnet_Net) :=
  (m_slices_DeleteFunc_41 o0.fconns p1).bind fun x92 =>
  some (i90, (⟨l87, x92, i91, o0.fopens⟩ : Gnet_Net))
noncomputable def m_net_Net_Lose_s2 (o0 : Gnet_Net) (p1 : Int) (l134 : List GItem) (i137 : Int) (i138 : Int) (i139 : Int) : Option (((List GItem) × Int × Int × Int) ⊕ ((List GItem) × Int × Int)) :=
  if i138 < (o0.fconns.length : Int) then
    (at_ o0.fconns i138).bind fun x178 =>
    (m_net_conn_has x178 p1).bind fun x183 =>
    if x183 = true then
      (m_net_conn_other x178 p1).bind fun x200 =>
      (m_net_Net_closed x178 x200 (⟨l134, o0.fconns, i139, o0.fopens⟩ : Gnet_Net)).bind fun x202 =>
      some (.inl (x202.fitems, i137, w64 (i138 + 1), x202.flast))
    else
      some (.inl (l134, i137, w64 (i138 + 1), i139))
  else
    some (.inr (l134, i137, i139))
noncomputable def m_net_Net_Lose (p1 : Int) (o0 : Gnet_Net) : Option (Int × Gnet_Net) :=
  (m_slices_DeleteFunc_31_2 o0.fitems p1).bind fun x2 =>
  (loop (fun s => m_net_Net_Lose_s2 o0 p1 s.1 s.2.1 s.2.2.1 s.2.2.2) (x2, w64 ((o0.fitems.length : Int) - (x2.length : Int)), 0, o0.flast)).bind fun e => m_net_Net_Lose_j1 o0 p1 e.1 e.2.1 e.2.2
theorem c_net_Net_Lose {w0 : World} {M : Nat → Prop} {H : List (Nat × Nat × Obj)} {R : List (Nat × Row)} {φ : World → Prop} (p1 : Int) (go0 : Nat) (o0 : Gnet_Net) (Ao0_0 : Option Addr) (co0_0 : Nat) (hco0_0 : o0.fitems.length ≤ co0_0) (Ao0_1 : Option Addr) (co0_1 : Nat) (hco0_1 : o0.fconns.length ≤ co0_1) (r : Int × Gnet_Net) (hm : m_net_Net_Lose p1 o0 = some r) :
    Cn Try.prog 19 #[.pointer (some ⟨go0, 0, none⟩), .int .i64 p1] ⟨w0, M, (1000, go0, .cells #[.slice Ao0_0 o0.fitems.length co0_0, .slice Ao0_1 o0.fconns.length co0_1, .int .i64 o0.flast, .int .i64 o0.fopens] 61 (0, 0)) :: H, (1000, ⟨.slice Ao0_0 o0.fitems.length co0_0, 40, 6, o0.fitems.length, o0.fitems.flatMap GItem.enc⟩) :: (1001, ⟨.slice Ao0_1 o0.fconns.length co0_1, 63, 3, o0.fconns.length, o0.fconns.flatMap Gnet_conn.enc⟩) :: R, φ⟩ (fun x : Option Addr × Nat × Option Addr × Nat => .int .i64 r.1) (fun x => r.2.fitems.length ≤ x.2.1 ∧ r.2.fconns.length ≤ x.2.2.2) (fun x => ⟨w0, M, (1000, go0, .cells #[.slice x.1 r.2.fitems.length x.2.1, .slice x.2.2.1 r.2.fconns.length x.2.2.2, .int .i64 r.2.flast, .int .i64 o0.fopens] 61 (0, 0)) :: H, (2000, ⟨.slice x.1 r.2.fitems.length x.2.1, 40, 6, r.2.fitems.length, r.2.fitems.flatMap GItem.enc⟩) :: (2001, ⟨.slice x.2.2.1 r.2.fconns.length x.2.2.2, 63, 3, r.2.fconns.length, r.2.fconns.flatMap Gnet_conn.enc⟩) :: R, φ⟩) := by
 unfold m_net_Net_Lose at hm
 refine cn_intro (fn := Try.f19) (N := 61) Try.func19 rfl Try.ntmps19 rfl <| c_seq <| c_region ?_
 refine g_e rfl (e_box 100030 rfl) (fun g1 _ => ?_)
 refine g_v rfl r_assign <| g_nil <| d_then <| c_seq <| c_seq <| c_region <| g_v rfl r_move <| g_v rfl (r_eqlP1 Try.underlying24 rfl rfl) <| g_nil <| d_then ?_
 refine c_cond0 rfl rfl <| c_skip <| d_then <| c_seq <| c_region <| g_v rfl r_move <| g_v rfl (r_nilck rfl) <| g_v rfl (r_field (n := 0) Try.underlying61 rfl Try.sizeOf52 rfl rfl) <| g_v rfl (r_load (tag := 1000) rfl rfl rfl Try.isAgg52) <| g_v rfl (r_lenL Try.underlying52 rfl) ?_
 refine g_v rfl r_assign <| g_nil <| d_then ?_
 refine c_flat [(0, .pointer (some ⟨go0, 0, none⟩)), (3, .pointer (some ⟨g1, 0, none⟩)), (5, .int .i64 (o0.fitems.length : Int))] ⟨rfl, rfl, rfl, trivial⟩ (fun u => ?_)
 refine c_sta ⟨w0, M, (100030, g1, .cells #[.int .i64 p1] 3 (0, 0)) :: (1000, go0, .cells #[.slice Ao0_0 o0.fitems.length co0_0, .slice Ao0_1 o0.fconns.length co0_1, .int .i64 o0.flast, .int .i64 o0.fopens] 61 (0, 0)) :: H, (1000, ⟨.slice Ao0_0 o0.fitems.length co0_0, 40, 6, o0.fitems.length, o0.fitems.flatMap GItem.enc⟩) :: (1001, ⟨.slice Ao0_1 o0.fconns.length co0_1, 63, 3, o0.fconns.length, o0.fconns.flatMap Gnet_conn.enc⟩) :: R, φ⟩ (fun _ h => h) <| c_seq <| c_region <| g_v rfl r_move <| g_v rfl r_move <| g_v rfl (r_nilck rfl) <| g_v rfl (r_field (n := 0) Try.underlying61 rfl Try.sizeOf52 rfl rfl) <| g_v rfl (r_load (tag := 1000) rfl rfl rfl Try.isAgg52) <| g_v rfl (r_mkf rfl) ?_
 replace hm := bnd hm
 obtain ⟨x2, hx3, hm⟩ := hm
 refine g_cn ⟨w0, M, (1000, g1, .cells #[.int .i64 p1] 3 (0, 0)) :: (1000, go0, .cells #[.slice Ao0_0 o0.fitems.length co0_0, .slice Ao0_1 o0.fconns.length co0_1, .int .i64 o0.flast, .int .i64 o0.fopens] 61 (0, 0)) :: H, (1000, ⟨.slice Ao0_0 o0.fitems.length co0_0, 40, 6, o0.fitems.length, o0.fitems.flatMap GItem.enc⟩) :: (1001, ⟨.slice Ao0_1 o0.fconns.length co0_1, 63, 3, o0.fconns.length, o0.fconns.flatMap Gnet_conn.enc⟩) :: R, φ⟩ (fun W h => (ok_front (t := 100030) (t' := 1000) (ok_frontR (t := 1000) (t' := 1000) h rfl) rfl)) Try.call31 rfl rfl (c_slices_DeleteFunc_31_2 o0.fitems Ao0_0 co0_0 hco0_0 g1 p1 _ hx3) (fun ⟨A4, c5⟩ hc5 => ?_)
 refine g_sta _ (fun W h => (ok_frontR (t := 2000) (t' := 1000) (ok_front (t := 1000) (t' := 100030) h rfl) rfl)) <| g_v rfl (r_nilck rfl) <| g_v rfl (r_field (n := 0) Try.underlying61 rfl Try.sizeOf52 rfl rfl) <| g_storeL (tag := 1000) rfl rfl rfl rfl Try.sizeOf52 rfl rfl <| g_nil <| d_then ?_
 refine c_flat [(0, .pointer (some ⟨go0, 0, none⟩)), (3, .pointer (some ⟨g1, 0, none⟩)), (5, .int .i64 (o0.fitems.length : Int))] ⟨rfl, rfl, rfl, trivial⟩ (fun u => ?_)
 refine c_sta ⟨w0, M, (100030, g1, .cells #[.int .i64 p1] 3 (0, 0)) :: (1000, go0, .cells #[.slice A4 x2.length c5, .slice Ao0_1 o0.fconns.length co0_1, .int .i64 o0.flast, .int .i64 o0.fopens] 61 (0, 0)) :: H, (1000, ⟨.slice A4 x2.length c5, 40, 6, x2.length, x2.flatMap GItem.enc⟩) :: (1001, ⟨.slice Ao0_1 o0.fconns.length co0_1, 63, 3, o0.fconns.length, o0.fconns.flatMap Gnet_conn.enc⟩) :: R, φ⟩ (fun _ h => h) <| c_seq <| c_region <| g_v rfl r_move <| g_v rfl r_move <| g_v rfl (r_nilck rfl) <| g_v rfl (r_field (n := 0) Try.underlying61 rfl Try.sizeOf52 rfl rfl) <| g_v rfl (r_load (tag := 1000) rfl rfl rfl Try.isAgg52) <| g_v rfl (r_lenL Try.underlying52 rfl) <| g_v rfl (r_sub rfl rfl rfl) ?_
 refine g_v rfl r_assign <| g_nil <| d_then <| c_seq <| c_seq <| c_region <| g_v rfl r_move <| g_v rfl (r_nilck rfl) <| g_v rfl (r_field (n := 1) Try.underlying61 rfl Try.sizeOf59 rfl rfl) <| g_v rfl (r_load (tag := 1000) rfl rfl rfl Try.isAgg59) ?_
 refine g_v rfl (r_lenL Try.underlying59 rfl) <| g_v rfl r_move <| g_nil <| d_then ?_
 refine c_flat [(0, .pointer (some ⟨go0, 0, none⟩)), (3, .pointer (some ⟨g1, 0, none⟩)), (6, .int .i64 (w64 ((o0.fitems.length : Int) - (x2.length : Int)))), (35, .slice Ao0_1 o0.fconns.length co0_1), (36, .int .i64 (o0.fconns.length : Int)), (37, .int .i64 0)] ⟨rfl, rfl, rfl, rfl, rfl, rfl, trivial⟩ (fun u => ?_)
 refine c_cut (ι := (List GItem) × Int × Int × Option Addr × Nat) [0, 3, 6] (fun ⟨l87, i90, i91, A88, c89⟩ => [(6, .int .i64 i90)]) (fun ⟨l87, i90, i91, A88, c89⟩ => ⟨w0, M, (100030, g1, .cells #[.int .i64 p1] 3 (0, 0)) :: (1000, go0, .cells #[.slice A88 l87.length c89, .slice Ao0_1 o0.fconns.length co0_1, .int .i64 i91, .int .i64 o0.fopens] 61 (0, 0)) :: H, (1000, ⟨.slice A88 l87.length c89, 40, 6, l87.length, l87.flatMap GItem.enc⟩) :: (1001, ⟨.slice Ao0_1 o0.fconns.length co0_1, 63, 3, o0.fconns.length, o0.fconns.flatMap Gnet_conn.enc⟩) :: R, φ⟩) (fun ⟨l87, i90, i91, A88, c89⟩ => m_net_Net_Lose_j1 o0 p1 l87 i90 i91 = some r ∧ l87.length ≤ c89) ?_ (fun ⟨l87, i90, i91, A88, c89⟩ u ⟨hm, hc89⟩ => ?_)
 ·
  refine c_block ?_
  replace hm := bnd hm
  obtain ⟨out2, hl2, hr2⟩ := hm
  obtain ⟨n176', hl2⟩ := loop_lp hl2
  refine c_loopU (ι := Nat × (List GItem) × Int × Int × Int × Option Addr × Nat) [0, 3, 6, 35, 36, 37] (fun ⟨n176, l134, i137, i138, i139, A135, c136⟩ => [(6, .int .i64 i137), (37, .int .i64 i138)]) (fun ⟨n176, l134, i137, i138, i139, A135, c136⟩ => ⟨w0, M, (100030, g1, .cells #[.int .i64 p1] 3 (0, 0)) :: (1000, go0, .cells #[.slice A135 l134.length c136, .slice Ao0_1 o0.fconns.length co0_1, .int .i64 i139, .int .i64 o0.fopens] 61 (0, 0)) :: H, (1000, ⟨.slice A135 l134.length c136, 40, 6, l134.length, l134.flatMap GItem.enc⟩) :: (1001, ⟨.slice Ao0_1 o0.fconns.length co0_1, 63, 3, o0.fconns.length, o0.fconns.flatMap Gnet_conn.enc⟩) :: R, φ⟩) (fun ⟨n176, l134, i137, i138, i139, A135, c136⟩ => Lp (fun s => m_net_Net_Lose_s2 o0 p1 s.1 s.2.1 s.2.2.1 s.2.2.2) n176 (l134, i137, i138, i139) out2 ∧ l134.length ≤ c136) (fun ⟨n176, l134, i137, i138, i139, A135, c136⟩ => n176) (n176', x2, w64 ((o0.fitems.length : Int) - (x2.length : Int)), 0, o0.flast, A4, c5) ⟨hl2, hc5⟩ ⟨rfl, rfl, rfl, rfl, rfl, rfl, trivial⟩ (fun W h => h.phi (fun W hφ => hφ)) (fun ⟨n176, l134, i137, i138, i139, A135, c136⟩ u ⟨hlp, hc136⟩ => ?_)
  obtain ⟨o2, hm, hnx2⟩ := lp_step hlp
  clear hlp
  replace hm : m_net_Net_Lose_s2 o0 p1 l134 i137 i138 i139 = some o2 := hm
  unfold m_net_Net_Lose_s2 at hm
  refine c_flat [(0, .pointer (some ⟨go0, 0, none⟩)), (3, .pointer (some ⟨g1, 0, none⟩)), (6, .int .i64 i137), (35, .slice Ao0_1 o0.fconns.length co0_1), (36, .int .i64 (o0.fconns.length : Int)), (37, .int .i64 i138)] ⟨rfl, rfl, rfl, rfl, rfl, rfl, trivial⟩ (fun u => ?_)
  refine c_sta ⟨w0, M, (100030, g1, .cells #[.int .i64 p1] 3 (0, 0)) :: (1000, go0, .cells #[.slice A135 l134.length c136, .slice Ao0_1 o0.fconns.length co0_1, .int .i64 i139, .int .i64 o0.fopens] 61 (0, 0)) :: H, (1000, ⟨.slice A135 l134.length c136, 40, 6, l134.length, l134.flatMap GItem.enc⟩) :: (1001, ⟨.slice Ao0_1 o0.fconns.length co0_1, 63, 3, o0.fconns.length, o0.fconns.flatMap Gnet_conn.enc⟩) :: R, φ⟩ (fun _ h => h) <| c_seq <| c_region <| g_v rfl (r_lss rfl rfl) <| g_nil <| d_then <| c_seq ?_
  refine c_cond rfl (fun h177 => ?_) (fun h177 => ?_)
  ·
   replace hm := ite_t hm (of_decide_eq_true h177)
   refine c_skip <| d_then <| c_seq <| c_block <| c_seq <| c_region ?_
   replace hm := bnd hm
   obtain ⟨x178, hx178, hm⟩ := hm
   refine g_know _ (fun W hS => cl_at (p := (Sta.ok ⟨w0, M, (100030, g1, .cells #[.int .i64 p1] 3 (0, 0)) :: (1000, go0, .cells #[.slice A135 l134.length c136, .slice Ao0_1 o0.fconns.length co0_1, .int .i64 i139, .int .i64 o0.fopens] 61 (0, 0)) :: H, (1000, ⟨.slice A135 l134.length c136, 40, 6, l134.length, l134.flatMap GItem.enc⟩) :: (1001, ⟨.slice Ao0_1 o0.fconns.length co0_1, 63, 3, o0.fconns.length, o0.fconns.flatMap Gnet_conn.enc⟩) :: R, φ⟩)) (sz := 3) (fun _ => rfl) (by decide) hS (fun W hS => rowCl (S := ⟨w0, M, (100030, g1, .cells #[.int .i64 p1] 3 (0, 0)) :: (1000, go0, .cells #[.slice A135 l134.length c136, .slice Ao0_1 o0.fconns.length co0_1, .int .i64 i139, .int .i64 o0.fopens] 61 (0, 0)) :: H, (1000, ⟨.slice A135 l134.length c136, 40, 6, l134.length, l134.flatMap GItem.enc⟩) :: (1001, ⟨.slice Ao0_1 o0.fconns.length co0_1, 63, 3, o0.fconns.length, o0.fconns.flatMap Gnet_conn.enc⟩) :: R, φ⟩) (tag := 1001) rfl W hS) hx178) ?_
   rintro ⟨ad179, hA181, f180⟩
   refine g_v rfl (r_ix Try.underlying59 Try.sizeOf63 rfl hA181 rfl hx178) <| g_v rfl (r_ldA rfl Try.isAgg63 Try.sizeOf63 (fun W hS => (f180 W hS).take 3) rfl) ?_
   refine g_e rfl (e_alloc 100080 Try.zeroValue63) (fun g182 _ => ?_)
   refine g_storeL (tag := 100080) rfl rfl rfl rfl Try.sizeOf63 rfl rfl <| g_nil <| d_then <| c_seq <| c_region <| g_v rfl (r_loadA (tag := 100080) rfl rfl Try.isAgg63 Try.sizeOf63 rfl rfl) <| g_v rfl (r_load (tag := 100030) rfl rfl rfl Try.isAgg3) ?_
   replace hm := bnd hm
   obtain ⟨x183, hx184, hm⟩ := hm
   refine g_cn ⟨w0, M, _, _, φ⟩ (fun _ h => h) Try.call39 rfl rfl (c_net_conn_has x178 p1 _ hx184) (fun _ _ => ?_)
   refine g_nil <| d_then ?_
   refine c_cond rfl (fun h185 => ?_) (fun h185 => ?_)
   ·
    replace hm := ite_t hm h185
    refine ga_start (n := 6) ⟨w0, M, (100080, g182, .cells #[.int .i64 x178.fnumber, .int .i64 x178.fends.a0, .int .i64 x178.fends.a1] 63 (0, 0)) :: (100030, g1, .cells #[.int .i64 p1] 3 (0, 0)) :: H, R, φ⟩ [] #[false, false, false, false, false, false] (fun W h => (((h.dropR (t := 1000) rfl).dropR (t := 1001) rfl).dropH (t := 1000) rfl).phi (fun W hφ => hφ)) mixed rfl rfl <| ga_v (i := 0) (bz 6 1) rfl (by kernel_rfl) (fun _ _ _ _ h => h) rfl (r_move) <| ga_v (i := 1) (bz 6 3) rfl (by kernel_rfl) (fun _ _ _ _ h => h) rfl (r_loadA (tag := 100080) rfl rfl Try.isAgg63 Try.sizeOf63 rfl rfl) <| ga_v (i := 2) (bz 6 7) rfl (by kernel_rfl) (fun _ _ _ _ h => h) rfl (r_loadA (tag := 100080) rfl rfl Try.isAgg63 Try.sizeOf63 rfl rfl) <| ga_r (i := 3) (bz 6 15) rfl (by kernel_rfl) (by decide) rfl (r_load (tag := 100030) rfl rfl rfl Try.isAgg3) ?_
    replace hm := bnd hm
    obtain ⟨x200, hx201, hm⟩ := hm
    refine ga_cn (first := #[]) (i := 4) (bz 6 31) rfl (by kernel_rfl) (by decide)  ⟨w0, M, _, _, φ⟩ (fun _ h => h) Try.call40 rfl rfl rfl (c_net_conn_other x178 p1 _ hx201) (fun _ W _ h => (((h.dropR (t := 1000) rfl).dropR (t := 1001) rfl).dropH (t := 1000) rfl).phi (fun W hφ => hφ)) (fun _ _ => ?_)
    replace hm := bnd hm
    obtain ⟨x202, hx203, hm⟩ := hm
    refine ga_cn (first := #[]) (i := 5) (bz 6 63) rfl (by kernel_rfl) (by decide)  ⟨w0, M, (1000, go0, .cells #[.slice A135 l134.length c136, .slice Ao0_1 o0.fconns.length co0_1, .int .i64 i139, .int .i64 o0.fopens] 61 (0, 0)) :: (100080, g182, .cells #[.int .i64 x178.fnumber, .int .i64 x178.fends.a0, .int .i64 x178.fends.a1] 63 (0, 0)) :: (100030, g1, .cells #[.int .i64 p1] 3 (0, 0)) :: H, (1000, ⟨.slice A135 l134.length c136, 40, 6, l134.length, l134.flatMap GItem.enc⟩) :: (1001, ⟨.slice Ao0_1 o0.fconns.length co0_1, 63, 3, o0.fconns.length, o0.fconns.flatMap Gnet_conn.enc⟩) :: R, φ⟩ (fun W h => (ok_front (t := 1000) (t' := 1000) (ok_frontR (t := 1000) (t' := 1000) (ok_frontR (t := 1001) (t' := 1001) h rfl) rfl) rfl)) Try.call33 rfl rfl rfl (c_net_Net_closed x178 x200 go0 (⟨l134, o0.fconns, i139, o0.fopens⟩ : Gnet_Net) A135 c136 hc136 Ao0_1 co0_1 hco0_1 _ hx203) (fun ⟨A204, c205⟩ W hc205 h => ((((ok_frontR (t := 2000) (t' := 1000) (ok_frontR (t := 1001) (t' := 1001) (ok_front (t := 1000) (t' := 1000) h rfl) rfl) rfl).dropR (t := 1000) rfl).dropR (t := 1001) rfl).dropH (t := 1000) rfl).phi (fun W hφ => hφ)) (fun ⟨A204, c205⟩ hc205 => ?_)
    refine ga_sta _ (fun W h => (ok_frontR (t := 2000) (t' := 1000) (ok_frontR (t := 1001) (t' := 1001) (ok_front (t := 1000) (t' := 1000) h rfl) rfl) rfl)) <| ga_done (by kernel_rfl) <| d_normal_block <| d_then ?_
    refine c_flat [(0, .pointer (some ⟨go0, 0, none⟩)), (3, .pointer (some ⟨g1, 0, none⟩)), (6, .int .i64 i137), (35, .slice Ao0_1 o0.fconns.length co0_1), (36, .int .i64 (o0.fconns.length : Int)), (37, .int .i64 i138)] ⟨rfl, rfl, rfl, rfl, rfl, rfl, trivial⟩ (fun u => ?_)
    refine c_sta ⟨w0, M, (1000, go0, .cells #[.slice A204 x202.fitems.length c205, .slice Ao0_1 o0.fconns.length co0_1, .int .i64 x202.flast, .int .i64 o0.fopens] 61 (0, 0)) :: (100080, g182, .cells #[.int .i64 x178.fnumber, .int .i64 x178.fends.a0, .int .i64 x178.fends.a1] 63 (0, 0)) :: (100030, g1, .cells #[.int .i64 p1] 3 (0, 0)) :: H, (1000, ⟨.slice A204 x202.fitems.length c205, 40, 6, x202.fitems.length, x202.fitems.flatMap GItem.enc⟩) :: (1001, ⟨.slice Ao0_1 o0.fconns.length co0_1, 63, 3, o0.fconns.length, o0.fconns.flatMap Gnet_conn.enc⟩) :: R, φ⟩ (fun _ h => h) <| c_region <| g_v rfl (r_add rfl rfl rfl) <| g_v rfl r_move <| g_nil ?_
    obtain ⟨n207, hn207, hlp⟩ := nx_inl hm hnx2
    exact d_round (n207, x202.fitems, i137, w64 (i138 + 1), x202.flast, A204, c205) ⟨hlp, hc205⟩ hn207 ⟨rfl, rfl, rfl, rfl, rfl, rfl, trivial⟩ (fun W h => (ok_front (t := 100030) (t' := 100030) (ok_front (t := 1000) (t' := 1000) (h.dropH (t := 100080) rfl) rfl) rfl).phi (fun W hφ => hφ))
   ·
    replace hm := ite_f hm (bool_nt h185)
    refine c_skip <| d_normal_block <| d_then <| c_region <| g_v rfl (r_add rfl rfl rfl) <| g_v rfl r_move <| g_nil ?_
    obtain ⟨n208, hn208, hlp⟩ := nx_inl hm hnx2
    exact d_round (n208, l134, i137, w64 (i138 + 1), i139, A135, c136) ⟨hlp, hc136⟩ hn208 ⟨rfl, rfl, rfl, rfl, rfl, rfl, trivial⟩ (fun W h => (h.dropH (t := 100080) rfl).phi (fun W hφ => hφ))
  ·
   replace hm := ite_f hm (of_decide_eq_false h177)
   refine c_exit <| d_exit_then <| d_exit_then <| d_exit_block ?_
   replace hm := nx_out (C := (fun e => m_net_Net_Lose_j1 o0 p1 e.1 e.2.1 e.2.2 = some r)) hm hnx2 hr2
   exact d_round (l134, i137, i139, A135, c136) ⟨hm, hc136⟩ Nat.zero_lt_one ⟨rfl, rfl, rfl, trivial⟩ (fun W h => h.phi (fun W hφ => hφ))
 ·
  unfold m_net_Net_Lose_j1 at hm
  refine d_flat [(0, .pointer (some ⟨go0, 0, none⟩)), (3, .pointer (some ⟨g1, 0, none⟩)), (6, .int .i64 i90)] ⟨rfl, rfl, rfl, trivial⟩ (fun u => ?_)
  refine d_sta ⟨w0, M, (100030, g1, .cells #[.int .i64 p1] 3 (0, 0)) :: (1000, go0, .cells #[.slice A88 l87.length c89, .slice Ao0_1 o0.fconns.length co0_1, .int .i64 i91, .int .i64 o0.fopens] 61 (0, 0)) :: H, (1000, ⟨.slice A88 l87.length c89, 40, 6, l87.length, l87.flatMap GItem.enc⟩) :: (1001, ⟨.slice Ao0_1 o0.fconns.length co0_1, 63, 3, o0.fconns.length, o0.fconns.flatMap Gnet_conn.enc⟩) :: R, φ⟩ (fun _ h => h) <| d_then <| c_seq <| c_region <| g_v rfl r_move <| g_v rfl r_move <| g_v rfl (r_nilck rfl) <| g_v rfl (r_field (n := 1) Try.underlying61 rfl Try.sizeOf59 rfl rfl) <| g_v rfl (r_load (tag := 1000) rfl rfl rfl Try.isAgg59) <| g_v rfl (r_mkf rfl) ?_
  replace hm := bnd hm
  obtain ⟨x92, hx93, hm⟩ := hm
  refine g_cn ⟨w0, M, (1000, g1, .cells #[.int .i64 p1] 3 (0, 0)) :: (1000, go0, .cells #[.slice A88 l87.length c89, .slice Ao0_1 o0.fconns.length co0_1, .int .i64 i91, .int .i64 o0.fopens] 61 (0, 0)) :: H, (1000, ⟨.slice Ao0_1 o0.fconns.length co0_1, 63, 3, o0.fconns.length, o0.fconns.flatMap Gnet_conn.enc⟩) :: (1000, ⟨.slice A88 l87.length c89, 40, 6, l87.length, l87.flatMap GItem.enc⟩) :: R, φ⟩ (fun W h => (ok_front (t := 100030) (t' := 1000) (ok_frontR (t := 1001) (t' := 1000) h rfl) rfl)) Try.call41 rfl rfl (c_slices_DeleteFunc_41 o0.fconns Ao0_1 co0_1 hco0_1 g1 p1 _ hx93) (fun ⟨A94, c95⟩ hc95 => ?_)
  refine g_sta _ (fun W h => (ok_frontR (t := 2000) (t' := 1001) (ok_front (t := 1000) (t' := 100030) h rfl) rfl)) <| g_v rfl (r_nilck rfl) <| g_v rfl (r_field (n := 1) Try.underlying61 rfl Try.sizeOf59 rfl rfl) <| g_storeL (tag := 1000) rfl rfl rfl rfl Try.sizeOf59 rfl rfl <| g_nil <| d_then ?_
  refine c_flat [(6, .int .i64 i90)] ⟨rfl, trivial⟩ (fun u => ?_)
  refine c_sta ⟨w0, M, (100030, g1, .cells #[.int .i64 p1] 3 (0, 0)) :: (1000, go0, .cells #[.slice A88 l87.length c89, .slice A94 x92.length c95, .int .i64 i91, .int .i64 o0.fopens] 61 (0, 0)) :: H, (1001, ⟨.slice A94 x92.length c95, 63, 3, x92.length, x92.flatMap Gnet_conn.enc⟩) :: (1000, ⟨.slice A88 l87.length c89, 40, 6, l87.length, l87.flatMap GItem.enc⟩) :: R, φ⟩ (fun _ h => h) <| c_seq <| c_region <| g_v rfl r_move <| g_v rfl r_assign <| g_nil <| d_then <| c_ret ?_
  replace hm := Option.some.inj hm
  subst hm
  refine d_sta _ (fun W h => ok_frontR (t := 1001) (t' := 2001) h rfl) <| d_sta _ (fun W h => ok_frontR (t := 1000) (t' := 2000) h rfl) ?_
  refine d_retC (A88, c89, A94, c95) Try.results19 ?_ ⟨hc89, hc95⟩ (fun W h => (h.dropH (t := 100030) rfl).phi (fun W hφ => hφ)) (.inr rfl)
  refine res_tmp <| res_nil ?_
  exact rfl
noncomputable def m_net_Net_datagrams_j1  (l82 : List Int) : Option (List Int) :=
  some l82
noncomputable def m_net_Net_datagrams_s2 (o0 : Gnet_Net) (l100 : List Int) (i103 : Int) : Option (((List Int) × Int) ⊕ (List Int)) :=
  if i103 < (o0.fitems.length : Int) then
    (at_ o0.fitems i103).bind fun x121 =>
    if x121.fKind = 1 then
      (app 8 l100 [i103]).bind fun l128 =>
      some (.inl (l128, w64 (i103 + 1)))
    else
      some (.inl (l100, w64 (i103 + 1)))
  else
    some (.inr l100)
noncomputable def m_net_Net_datagrams (o0 : Gnet_Net) : Option (List Int) :=
  (loop (fun s => m_net_Net_datagrams_s2 o0 s.1 s.2) (([] : List Int), 0)).bind fun e => m_net_Net_datagrams_j1 e
theorem c_net_Net_datagrams {w0 : World} {M : Nat → Prop} {H : List (Nat × Nat × Obj)} {R : List (Nat × Row)} {φ : World → Prop} (go0 : Nat) (o0 : Gnet_Net) (Ao0_0 : Option Addr) (co0_0 : Nat) (hco0_0 : o0.fitems.length ≤ co0_0) (Ao0_1 : Option Addr) (co0_1 : Nat) (hco0_1 : o0.fconns.length ≤ co0_1) (r : (List Int)) (hm : m_net_Net_datagrams o0 = some r) :
    Cn Try.prog 35 #[.pointer (some ⟨go0, 0, none⟩)] ⟨w0, M, (1000, go0, .cells #[.slice Ao0_0 o0.fitems.length co0_0, .slice Ao0_1 o0.fconns.length co0_1, .int .i64 o0.flast, .int .i64 o0.fopens] 61 (0, 0)) :: H, (1000, ⟨.slice Ao0_0 o0.fitems.length co0_0, 40, 6, o0.fitems.length, o0.fitems.flatMap GItem.enc⟩) :: (1001, ⟨.slice Ao0_1 o0.fconns.length co0_1, 63, 3, o0.fconns.length, o0.fconns.flatMap Gnet_conn.enc⟩) :: R, φ⟩ (fun x : Option Addr × Nat => .slice x.1 r.length x.2) (fun x => r.length ≤ x.2) (fun x => ⟨w0, M, (1000, go0, .cells #[.slice Ao0_0 o0.fitems.length co0_0, .slice Ao0_1 o0.fconns.length co0_1, .int .i64 o0.flast, .int .i64 o0.fopens] 61 (0, 0)) :: H, (2000, ⟨.slice x.1 r.length x.2, 3, 1, r.length, r.flatMap (fun x : Int => [Value.int .i64 x])⟩) :: (1000, ⟨.slice Ao0_0 o0.fitems.length co0_0, 40, 6, o0.fitems.length, o0.fitems.flatMap GItem.enc⟩) :: (1001, ⟨.slice Ao0_1 o0.fconns.length co0_1, 63, 3, o0.fconns.length, o0.fconns.flatMap Gnet_conn.enc⟩) :: R, φ⟩) := by
 unfold m_net_Net_datagrams at hm
 refine cn_intro (fn := Try.f35) (N := 25) Try.func35 rfl Try.ntmps35 rfl <| c_seq <| c_region <| g_v rfl r_assign <| g_nil <| d_then <| c_seq <| c_region <| g_v rfl r_assign <| g_nil ?_
 refine d_then <| c_seq <| c_seq <| c_region <| g_v rfl r_move <| g_v rfl (r_nilck rfl) <| g_v rfl (r_field (n := 0) Try.underlying61 rfl Try.sizeOf52 rfl rfl) <| g_v rfl (r_load (tag := 1000) rfl rfl rfl Try.isAgg52) <| g_v rfl (r_lenL Try.underlying52 rfl) <| g_v rfl r_move ?_
 refine g_nil <| d_then <| c_sta _ (fun W h => nilR h 13 3 1) ?_
 refine c_cut (ι := (List Int) × Option Addr × Nat) [3] (fun ⟨l82, A83, c84⟩ => [(3, .slice A83 l82.length c84)]) (fun ⟨l82, A83, c84⟩ => ⟨w0, M, (1000, go0, .cells #[.slice Ao0_0 o0.fitems.length co0_0, .slice Ao0_1 o0.fconns.length co0_1, .int .i64 o0.flast, .int .i64 o0.fopens] 61 (0, 0)) :: H, (13, ⟨.slice A83 l82.length c84, 3, 1, l82.length, l82.flatMap (fun x : Int => [Value.int .i64 x])⟩) :: (1000, ⟨.slice Ao0_0 o0.fitems.length co0_0, 40, 6, o0.fitems.length, o0.fitems.flatMap GItem.enc⟩) :: (1001, ⟨.slice Ao0_1 o0.fconns.length co0_1, 63, 3, o0.fconns.length, o0.fconns.flatMap Gnet_conn.enc⟩) :: R, φ⟩) (fun ⟨l82, A83, c84⟩ => m_net_Net_datagrams_j1 l82 = some r ∧ l82.length ≤ c84) ?_ (fun ⟨l82, A83, c84⟩ u ⟨hm, hc84⟩ => ?_)
 ·
  refine c_block ?_
  replace hm := bnd hm
  obtain ⟨out2, hl2, hr2⟩ := hm
  obtain ⟨n119', hl2⟩ := loop_lp hl2
  refine c_loopU (ι := Nat × (List Int) × Int × Option Addr × Nat) [3, 9, 10, 11] (fun ⟨n119, l100, i103, A101, c102⟩ => [(3, .slice A101 l100.length c102), (11, .int .i64 i103)]) (fun ⟨n119, l100, i103, A101, c102⟩ => ⟨w0, M, (1000, go0, .cells #[.slice Ao0_0 o0.fitems.length co0_0, .slice Ao0_1 o0.fconns.length co0_1, .int .i64 o0.flast, .int .i64 o0.fopens] 61 (0, 0)) :: H, (13, ⟨.slice A101 l100.length c102, 3, 1, l100.length, l100.flatMap (fun x : Int => [Value.int .i64 x])⟩) :: (1000, ⟨.slice Ao0_0 o0.fitems.length co0_0, 40, 6, o0.fitems.length, o0.fitems.flatMap GItem.enc⟩) :: (1001, ⟨.slice Ao0_1 o0.fconns.length co0_1, 63, 3, o0.fconns.length, o0.fconns.flatMap Gnet_conn.enc⟩) :: R, φ⟩) (fun ⟨n119, l100, i103, A101, c102⟩ => Lp (fun s => m_net_Net_datagrams_s2 o0 s.1 s.2) n119 (l100, i103) out2 ∧ l100.length ≤ c102) (fun ⟨n119, l100, i103, A101, c102⟩ => n119) (n119', ([] : List Int), 0, none, 0) ⟨hl2, (Nat.le_refl 0)⟩ ⟨rfl, rfl, rfl, rfl, trivial⟩ (fun W h => h.phi (fun W hφ => hφ)) (fun ⟨n119, l100, i103, A101, c102⟩ u ⟨hlp, hc102⟩ => ?_)
  obtain ⟨o2, hm, hnx2⟩ := lp_step hlp
  clear hlp
  replace hm : m_net_Net_datagrams_s2 o0 l100 i103 = some o2 := hm
  unfold m_net_Net_datagrams_s2 at hm
  refine c_flat [(3, .slice A101 l100.length c102), (9, .slice Ao0_0 o0.fitems.length co0_0), (10, .int .i64 (o0.fitems.length : Int)), (11, .int .i64 i103)] ⟨rfl, rfl, rfl, rfl, trivial⟩ (fun u => ?_)
  refine c_sta ⟨w0, M, (1000, go0, .cells #[.slice Ao0_0 o0.fitems.length co0_0, .slice Ao0_1 o0.fconns.length co0_1, .int .i64 o0.flast, .int .i64 o0.fopens] 61 (0, 0)) :: H, (13, ⟨.slice A101 l100.length c102, 3, 1, l100.length, l100.flatMap (fun x : Int => [Value.int .i64 x])⟩) :: (1000, ⟨.slice Ao0_0 o0.fitems.length co0_0, 40, 6, o0.fitems.length, o0.fitems.flatMap GItem.enc⟩) :: (1001, ⟨.slice Ao0_1 o0.fconns.length co0_1, 63, 3, o0.fconns.length, o0.fconns.flatMap Gnet_conn.enc⟩) :: R, φ⟩ (fun _ h => h) <| c_seq <| c_region <| g_v rfl (r_lss rfl rfl) <| g_nil <| d_then <| c_seq ?_
  refine c_cond rfl (fun h120 => ?_) (fun h120 => ?_)
  ·
   replace hm := ite_t hm (of_decide_eq_true h120)
   refine c_skip <| d_then <| c_seq <| c_block <| c_seq <| c_region <| g_v rfl r_move ?_
   replace hm := bnd hm
   obtain ⟨x121, hx121, hm⟩ := hm
   refine g_know _ (fun W hS => cl_at (p := (Sta.ok ⟨w0, M, (1000, go0, .cells #[.slice Ao0_0 o0.fitems.length co0_0, .slice Ao0_1 o0.fconns.length co0_1, .int .i64 o0.flast, .int .i64 o0.fopens] 61 (0, 0)) :: H, (13, ⟨.slice A101 l100.length c102, 3, 1, l100.length, l100.flatMap (fun x : Int => [Value.int .i64 x])⟩) :: (1000, ⟨.slice Ao0_0 o0.fitems.length co0_0, 40, 6, o0.fitems.length, o0.fitems.flatMap GItem.enc⟩) :: (1001, ⟨.slice Ao0_1 o0.fconns.length co0_1, 63, 3, o0.fconns.length, o0.fconns.flatMap Gnet_conn.enc⟩) :: R, φ⟩)) (sz := 6) (fun _ => rfl) (by decide) hS (fun W hS => rowCl (S := ⟨w0, M, (1000, go0, .cells #[.slice Ao0_0 o0.fitems.length co0_0, .slice Ao0_1 o0.fconns.length co0_1, .int .i64 o0.flast, .int .i64 o0.fopens] 61 (0, 0)) :: H, (13, ⟨.slice A101 l100.length c102, 3, 1, l100.length, l100.flatMap (fun x : Int => [Value.int .i64 x])⟩) :: (1000, ⟨.slice Ao0_0 o0.fitems.length co0_0, 40, 6, o0.fitems.length, o0.fitems.flatMap GItem.enc⟩) :: (1001, ⟨.slice Ao0_1 o0.fconns.length co0_1, 63, 3, o0.fconns.length, o0.fconns.flatMap Gnet_conn.enc⟩) :: R, φ⟩) (tag := 1000) rfl W hS) hx121) ?_
   rintro ⟨ad122, hA124, f123⟩
   refine g_v rfl (r_ix Try.underlying52 Try.sizeOf40 rfl hA124 rfl hx121) <| g_v rfl (r_ldA rfl Try.isAgg40 Try.sizeOf40 (fun W hS => (f123 W hS).take 6) rfl) ?_
   refine g_e rfl (e_alloc 100050 Try.zeroValue40) (fun g125 _ => ?_)
   refine g_v rfl r_assign <| g_storeL (tag := 100050) rfl rfl rfl rfl Try.sizeOf40 rfl rfl <| g_nil <| d_then <| c_seq <| c_region <| g_v rfl (r_field (n := 1) Try.underlying40 rfl Try.sizeOf3 rfl rfl) <| g_v rfl (r_load (tag := 100050) rfl rfl rfl Try.isAgg3) <| g_v rfl (r_eql rfl rfl) <| g_nil ?_
   refine d_then ?_
   refine c_flat [(3, .slice A101 l100.length c102), (4, .int .i64 i103), (9, .slice Ao0_0 o0.fitems.length co0_0), (10, .int .i64 (o0.fitems.length : Int)), (11, .int .i64 i103), (18, .bool (decide (x121.fKind = 1)))] ⟨rfl, rfl, rfl, rfl, rfl, rfl, trivial⟩ (fun u => ?_)
   refine c_sta ⟨w0, M, (100050, g125, .cells #[.int .i64 x121.fNumber, .int .i64 x121.fKind, .int .i64 x121.fFrom, .int .i64 x121.fTo, .int .i64 x121.fConn, .string x121.fBody] 40 (0, 0)) :: (1000, go0, .cells #[.slice Ao0_0 o0.fitems.length co0_0, .slice Ao0_1 o0.fconns.length co0_1, .int .i64 o0.flast, .int .i64 o0.fopens] 61 (0, 0)) :: H, (13, ⟨.slice A101 l100.length c102, 3, 1, l100.length, l100.flatMap (fun x : Int => [Value.int .i64 x])⟩) :: (1000, ⟨.slice Ao0_0 o0.fitems.length co0_0, 40, 6, o0.fitems.length, o0.fitems.flatMap GItem.enc⟩) :: (1001, ⟨.slice Ao0_1 o0.fconns.length co0_1, 63, 3, o0.fconns.length, o0.fconns.flatMap Gnet_conn.enc⟩) :: R, φ⟩ (fun _ h => h) ?_
   refine c_cond rfl (fun h126 => ?_) (fun h126 => ?_)
   ·
    replace hm := ite_t hm (of_decide_eq_true h126)
    refine c_region <| g_v rfl r_move <| g_v rfl r_move ?_
    refine g_e rfl (e_lit (tag := 100210) (l := [i103]) (enc := (fun x : Int => [Value.int .i64 x])) (sz := 1) rfl Try.underlying78 (lit3_7 _) rfl rfl (fun _ => rfl)) (fun g127 _ => ?_)
    replace hm := bnd hm
    obtain ⟨l128, hl128, hm⟩ := hm
    refine g_e rfl (e_appR (enc := (fun x : Int => [Value.int .i64 x])) (l := l100) (l1 := [i103]) (l2 := l128) (tag := 13) Try.underlying78 inf3_8 rfl (by decide) (by decide) (fun _ => rfl) (fun _ => rfl) rfl hc102 rfl rfl (fun W hS => rowCl (tag := 100210) rfl W hS) hl128) (fun ⟨A129, c130⟩ hc130 => ?_)
    refine g_v rfl r_assign <| g_nil <| d_normal_block <| d_then <| c_region <| g_v rfl (r_add rfl rfl rfl) <| g_v rfl r_move <| g_nil ?_
    obtain ⟨n131, hn131, hlp⟩ := nx_inl hm hnx2
    exact d_round (n131, l128, w64 (i103 + 1), A129, c130) ⟨hlp, hc130⟩ hn131 ⟨rfl, rfl, rfl, rfl, trivial⟩ (fun W h => ((h.dropR (t := 100210) rfl).dropH (t := 100050) rfl).phi (fun W hφ => hφ))
   ·
    replace hm := ite_f hm (of_decide_eq_false h126)
    refine c_skip <| d_normal_block <| d_then <| c_region <| g_v rfl (r_add rfl rfl rfl) <| g_v rfl r_move <| g_nil ?_
    obtain ⟨n132, hn132, hlp⟩ := nx_inl hm hnx2
    exact d_round (n132, l100, w64 (i103 + 1), A101, c102) ⟨hlp, hc102⟩ hn132 ⟨rfl, rfl, rfl, rfl, trivial⟩ (fun W h => (h.dropH (t := 100050) rfl).phi (fun W hφ => hφ))
  ·
   replace hm := ite_f hm (of_decide_eq_false h120)
   refine c_exit <| d_exit_then <| d_exit_then <| d_exit_block ?_
   replace hm := nx_out (C := (fun e => m_net_Net_datagrams_j1 e = some r)) hm hnx2 hr2
   exact d_round (l100, A101, c102) ⟨hm, hc102⟩ Nat.zero_lt_one ⟨rfl, trivial⟩ (fun W h => h.phi (fun W hφ => hφ))
 ·
  unfold m_net_Net_datagrams_j1 at hm
  refine d_flat [(3, .slice A83 l82.length c84)] ⟨rfl, trivial⟩ (fun u => ?_)
  refine d_sta ⟨w0, M, (1000, go0, .cells #[.slice Ao0_0 o0.fitems.length co0_0, .slice Ao0_1 o0.fconns.length co0_1, .int .i64 o0.flast, .int .i64 o0.fopens] 61 (0, 0)) :: H, (13, ⟨.slice A83 l82.length c84, 3, 1, l82.length, l82.flatMap (fun x : Int => [Value.int .i64 x])⟩) :: (1000, ⟨.slice Ao0_0 o0.fitems.length co0_0, 40, 6, o0.fitems.length, o0.fitems.flatMap GItem.enc⟩) :: (1001, ⟨.slice Ao0_1 o0.fconns.length co0_1, 63, 3, o0.fconns.length, o0.fconns.flatMap Gnet_conn.enc⟩) :: R, φ⟩ (fun _ h => h) <| d_then <| c_seq <| c_region <| g_v rfl r_move <| g_v rfl r_assign <| g_nil <| d_then <| c_ret ?_
  replace hm := Option.some.inj hm
  subst hm
  refine d_sta _ (fun W h => ok_frontR (t := 13) (t' := 2000) h rfl) ?_
  refine d_retC (A83, c84) Try.results35 ?_ hc84 (fun W h => h.phi (fun W hφ => hφ)) (.inr rfl)
  refine res_tmp <| res_nil ?_
  exact rfl
noncomputable def m_net_Net_picked_2_j1 (x1 : List Int) (i8 : Int) : Option (Int × Bool) :=
  (dvd (x1.length : Int)).bind fun u9 =>
  (at_ x1 (i8.tmod (x1.length : Int))).bind fun x10 =>
  some (x10, true)
noncomputable def m_net_Net_picked_2 (p2 : Int) (o0 : Gnet_Net) : Option (Int × Bool) :=
  (m_net_Net_datagrams o0).bind fun x1 =>
  if (x1.length : Int) = 0 then
    some (0, false)
  else
    if p2 < 0 then
      m_net_Net_picked_2_j1 x1 (w64 (0 - w64 (p2 + 1)))
    else
      m_net_Net_picked_2_j1 x1 p2
theorem c_net_Net_picked_2 {w0 : World} {M : Nat → Prop} {H : List (Nat × Nat × Obj)} {R : List (Nat × Row)} {φ : World → Prop} (p2 : Int) (go0 : Nat) (o0 : Gnet_Net) (Ao0_0 : Option Addr) (co0_0 : Nat) (hco0_0 : o0.fitems.length ≤ co0_0) (Ao0_1 : Option Addr) (co0_1 : Nat) (hco0_1 : o0.fconns.length ≤ co0_1) (r : Int × Bool) (hm : m_net_Net_picked_2 p2 o0 = some r) :
    Cn Try.prog 34 #[.pointer (some ⟨go0, 0, none⟩), .func (.func 35) #[] #[], .int .i64 p2] ⟨w0, M, (1000, go0, .cells #[.slice Ao0_0 o0.fitems.length co0_0, .slice Ao0_1 o0.fconns.length co0_1, .int .i64 o0.flast, .int .i64 o0.fopens] 61 (0, 0)) :: H, (1000, ⟨.slice Ao0_0 o0.fitems.length co0_0, 40, 6, o0.fitems.length, o0.fitems.flatMap GItem.enc⟩) :: (1001, ⟨.slice Ao0_1 o0.fconns.length co0_1, 63, 3, o0.fconns.length, o0.fconns.flatMap Gnet_conn.enc⟩) :: R, φ⟩ (fun x : Unit => .tuple #[.int .i64 r.1, .bool r.2]) (fun x => True) (fun x => ⟨w0, M, (1000, go0, .cells #[.slice Ao0_0 o0.fitems.length co0_0, .slice Ao0_1 o0.fconns.length co0_1, .int .i64 o0.flast, .int .i64 o0.fopens] 61 (0, 0)) :: H, (1000, ⟨.slice Ao0_0 o0.fitems.length co0_0, 40, 6, o0.fitems.length, o0.fitems.flatMap GItem.enc⟩) :: (1001, ⟨.slice Ao0_1 o0.fconns.length co0_1, 63, 3, o0.fconns.length, o0.fconns.flatMap Gnet_conn.enc⟩) :: R, φ⟩) := by
 unfold m_net_Net_picked_2 at hm
 refine cn_intro (fn := Try.f34) (N := 29) Try.func34 rfl Try.ntmps34 rfl <| c_seq <| c_region <| g_v rfl r_assign <| g_v rfl r_assign <| g_nil <| d_then <| c_seq <| c_seq <| c_region ?_
 refine g_v rfl r_move <| g_v rfl (r_eqlP1 Try.underlying24 rfl rfl) <| g_nil <| d_then <| c_cond0 rfl rfl <| c_skip <| d_then <| c_seq <| c_region <| g_v rfl r_move ?_
 refine g_v rfl r_move ?_
 replace hm := bnd hm
 obtain ⟨x1, hx2, hm⟩ := hm
 refine g_cnv ⟨w0, M, (1000, go0, .cells #[.slice Ao0_0 o0.fitems.length co0_0, .slice Ao0_1 o0.fconns.length co0_1, .int .i64 o0.flast, .int .i64 o0.fopens] 61 (0, 0)) :: H, (1000, ⟨.slice Ao0_0 o0.fitems.length co0_0, 40, 6, o0.fitems.length, o0.fitems.flatMap GItem.enc⟩) :: (1001, ⟨.slice Ao0_1 o0.fconns.length co0_1, 63, 3, o0.fconns.length, o0.fconns.flatMap Gnet_conn.enc⟩) :: R, φ⟩ (fun W h => (ok_front (t := 1000) (t' := 1000) (ok_frontR (t := 1000) (t' := 1000) (ok_frontR (t := 1001) (t' := 1001) h rfl) rfl) rfl)) Try.call35 rfl rfl rfl (c_net_Net_datagrams go0 o0 Ao0_0 co0_0 hco0_0 Ao0_1 co0_1 hco0_1 _ hx2) (fun ⟨A3, c4⟩ hc4 => ?_)
 refine g_sta _ (fun W h => (ok_frontR (t := 2000) (t' := 100130) (ok_frontR (t := 1000) (t' := 1000) (ok_frontR (t := 1001) (t' := 1001) (ok_front (t := 1000) (t' := 1000) h rfl) rfl) rfl) rfl)) <| g_v rfl r_assign <| g_nil <| d_then <| c_seq <| c_seq <| c_region <| g_v rfl r_move <| g_v rfl (r_lenL Try.underlying78 rfl) <| g_v rfl (r_eql rfl rfl) ?_
 refine g_nil <| d_then ?_
 refine c_flat [(2, .int .i64 p2), (8, .slice A3 x1.length c4), (16, .bool (decide ((x1.length : Int) = 0)))] ⟨rfl, rfl, rfl, trivial⟩ (fun u => ?_)
 refine c_sta ⟨w0, M, (1000, go0, .cells #[.slice Ao0_0 o0.fitems.length co0_0, .slice Ao0_1 o0.fconns.length co0_1, .int .i64 o0.flast, .int .i64 o0.fopens] 61 (0, 0)) :: H, (100130, ⟨.slice A3 x1.length c4, 3, 1, x1.length, x1.flatMap (fun x : Int => [Value.int .i64 x])⟩) :: (1000, ⟨.slice Ao0_0 o0.fitems.length co0_0, 40, 6, o0.fitems.length, o0.fitems.flatMap GItem.enc⟩) :: (1001, ⟨.slice Ao0_1 o0.fconns.length co0_1, 63, 3, o0.fconns.length, o0.fconns.flatMap Gnet_conn.enc⟩) :: R, φ⟩ (fun _ h => h) ?_
 refine c_cond rfl (fun h6 => ?_) (fun h6 => ?_)
 ·
  replace hm := ite_t hm (of_decide_eq_true h6)
  refine c_seq <| c_region <| g_v rfl r_assign <| g_v rfl r_assign <| g_nil <| d_then <| c_ret <| d_ret_then ?_
  replace hm := Option.some.inj hm
  subst hm
  refine d_retC () Try.results34 ?_ trivial (fun W h => (h.dropR (t := 100130) rfl).phi (fun W hφ => hφ)) (.inr rfl)
  refine res_tmp <| res_tmp <| res_nil ?_
  exact rfl
 ·
  replace hm := ite_f hm (of_decide_eq_false h6)
  refine c_skip <| d_then <| c_seq ?_
  refine c_cut (ι := Int) [2, 8] (fun i8 => [(2, .int .i64 i8)]) (fun i8 => ⟨w0, M, (1000, go0, .cells #[.slice Ao0_0 o0.fitems.length co0_0, .slice Ao0_1 o0.fconns.length co0_1, .int .i64 o0.flast, .int .i64 o0.fopens] 61 (0, 0)) :: H, (100130, ⟨.slice A3 x1.length c4, 3, 1, x1.length, x1.flatMap (fun x : Int => [Value.int .i64 x])⟩) :: (1000, ⟨.slice Ao0_0 o0.fitems.length co0_0, 40, 6, o0.fitems.length, o0.fitems.flatMap GItem.enc⟩) :: (1001, ⟨.slice Ao0_1 o0.fconns.length co0_1, 63, 3, o0.fconns.length, o0.fconns.flatMap Gnet_conn.enc⟩) :: R, φ⟩) (fun i8 => m_net_Net_picked_2_j1 x1 i8 = some r) ?_ (fun i8 u hm => ?_)
  ·
   refine c_seq <| c_region <| g_v rfl r_move <| g_v rfl (r_lss rfl rfl) <| g_nil <| d_then ?_
   refine c_cond rfl (fun h14 => ?_) (fun h14 => ?_)
   ·
    replace hm := ite_t hm (of_decide_eq_true h14)
    refine c_region <| g_v rfl r_move <| g_v rfl (r_add rfl rfl rfl) <| g_v rfl (r_neg rfl rfl) <| g_v rfl r_assign <| g_nil ?_
    exact d_round (w64 (0 - w64 (p2 + 1))) hm Nat.zero_lt_one ⟨rfl, rfl, trivial⟩ (fun W h => h.phi (fun W hφ => hφ))
   ·
    replace hm := ite_f hm (of_decide_eq_false h14)
    refine c_skip ?_
    exact d_round p2 hm Nat.zero_lt_one ⟨rfl, rfl, trivial⟩ (fun W h => h.phi (fun W hφ => hφ))
  ·
   unfold m_net_Net_picked_2_j1 at hm
   refine d_flat [(2, .int .i64 i8), (8, .slice A3 x1.length c4)] ⟨rfl, rfl, trivial⟩ (fun u => ?_)
   refine d_then <| c_seq <| c_region <| g_v rfl r_move <| g_v rfl r_move <| g_v rfl r_move <| g_v rfl (r_lenL Try.underlying78 rfl) ?_
   replace hm := bnd hm
   obtain ⟨u9, hu9, hm⟩ := hm
   refine g_v rfl (r_rem rfl rfl (dvd_some hu9) rfl) ?_
   replace hm := bnd hm
   obtain ⟨x10, hx10, hm⟩ := hm
   refine g_know _ (fun W hS => cl_at (p := (Sta.ok ⟨w0, M, (1000, go0, .cells #[.slice Ao0_0 o0.fitems.length co0_0, .slice Ao0_1 o0.fconns.length co0_1, .int .i64 o0.flast, .int .i64 o0.fopens] 61 (0, 0)) :: H, (100130, ⟨.slice A3 x1.length c4, 3, 1, x1.length, x1.flatMap (fun x : Int => [Value.int .i64 x])⟩) :: (1000, ⟨.slice Ao0_0 o0.fitems.length co0_0, 40, 6, o0.fitems.length, o0.fitems.flatMap GItem.enc⟩) :: (1001, ⟨.slice Ao0_1 o0.fconns.length co0_1, 63, 3, o0.fconns.length, o0.fconns.flatMap Gnet_conn.enc⟩) :: R, φ⟩)) (sz := 1) (fun _ => rfl) (by decide) hS (fun W hS => rowCl (S := ⟨w0, M, (1000, go0, .cells #[.slice Ao0_0 o0.fitems.length co0_0, .slice Ao0_1 o0.fconns.length co0_1, .int .i64 o0.flast, .int .i64 o0.fopens] 61 (0, 0)) :: H, (100130, ⟨.slice A3 x1.length c4, 3, 1, x1.length, x1.flatMap (fun x : Int => [Value.int .i64 x])⟩) :: (1000, ⟨.slice Ao0_0 o0.fitems.length co0_0, 40, 6, o0.fitems.length, o0.fitems.flatMap GItem.enc⟩) :: (1001, ⟨.slice Ao0_1 o0.fconns.length co0_1, 63, 3, o0.fconns.length, o0.fconns.flatMap Gnet_conn.enc⟩) :: R, φ⟩) (tag := 100130) rfl W hS) hx10) ?_
   rintro ⟨ad11, hA13, f12⟩
   refine g_v rfl (r_ix Try.underlying78 Try.sizeOf3 rfl hA13 rfl hx10) <| g_v rfl (r_ld rfl Try.isAgg3 (fun W hS => Cl.head (f12 W hS))) <| g_v rfl r_assign <| g_v rfl r_assign <| g_nil <| d_then ?_
   refine c_flat [(6, .int .i64 x10), (7, .bool true)] ⟨rfl, rfl, trivial⟩ (fun u => ?_)
   refine c_ret ?_
   replace hm := Option.some.inj hm
   subst hm
   refine d_retC () Try.results34 ?_ trivial (fun W h => (h.dropR (t := 100130) rfl).phi (fun W hφ => hφ)) (.inr rfl)
   refine res_tmp <| res_tmp <| res_nil ?_
   exact rfl
noncomputable def m_net_Net_Drop_j1 (x2 : Bool) (o0 : Gnet_Net) (l11 : List GItem) : Option (Bool × Gnet_Net) :=
  some (x2, (⟨l11, o0.fconns, o0.flast, o0.fopens⟩ : Gnet_Net))
noncomputable def m_net_Net_Drop (p1 : Int) (o0 : Gnet_Net) : Option (Bool × Gnet_Net) :=
  (m_net_Net_picked_2 p1 o0).bind fun (z4 : Int × Bool) =>
  if z4.2 = true then
    (m_slices_Delete_37 o0.fitems z4.1 (w64 (z4.1 + 1))).bind fun x15 =>
    m_net_Net_Drop_j1 z4.2 o0 x15
  else
    m_net_Net_Drop_j1 z4.2 o0 o0.fitems
theorem c_net_Net_Drop {w0 : World} {M : Nat → Prop} {H : List (Nat × Nat × Obj)} {R : List (Nat × Row)} {φ : World → Prop} (p1 : Int) (go0 : Nat) (o0 : Gnet_Net) (Ao0_0 : Option Addr) (co0_0 : Nat) (hco0_0 : o0.fitems.length ≤ co0_0) (Ao0_1 : Option Addr) (co0_1 : Nat) (hco0_1 : o0.fconns.length ≤ co0_1) (r : Bool × Gnet_Net) (hm : m_net_Net_Drop p1 o0 = some r) :
    Cn Try.prog 20 #[.pointer (some ⟨go0, 0, none⟩), .int .i64 p1] ⟨w0, M, (1000, go0, .cells #[.slice Ao0_0 o0.fitems.length co0_0, .slice Ao0_1 o0.fconns.length co0_1, .int .i64 o0.flast, .int .i64 o0.fopens] 61 (0, 0)) :: H, (1000, ⟨.slice Ao0_0 o0.fitems.length co0_0, 40, 6, o0.fitems.length, o0.fitems.flatMap GItem.enc⟩) :: (1001, ⟨.slice Ao0_1 o0.fconns.length co0_1, 63, 3, o0.fconns.length, o0.fconns.flatMap Gnet_conn.enc⟩) :: R, φ⟩ (fun x : Option Addr × Nat => .bool r.1) (fun x => r.2.fitems.length ≤ x.2) (fun x => ⟨w0, M, (1000, go0, .cells #[.slice x.1 r.2.fitems.length x.2, .slice Ao0_1 o0.fconns.length co0_1, .int .i64 o0.flast, .int .i64 o0.fopens] 61 (0, 0)) :: H, (2000, ⟨.slice x.1 r.2.fitems.length x.2, 40, 6, r.2.fitems.length, r.2.fitems.flatMap GItem.enc⟩) :: (1001, ⟨.slice Ao0_1 o0.fconns.length co0_1, 63, 3, o0.fconns.length, o0.fconns.flatMap Gnet_conn.enc⟩) :: R, φ⟩) := by
 unfold m_net_Net_Drop at hm
 refine cn_intro (fn := Try.f20) (N := 26) Try.func20 rfl Try.ntmps20 rfl <| c_seq <| c_region <| g_v rfl r_assign <| g_nil <| d_then <| c_seq <| c_region <| g_v rfl r_move <| g_v rfl r_move ?_
 replace hm := bnd hm
 obtain ⟨⟨x1, x2⟩, hx3, hm⟩ := hm
 refine g_cn ⟨w0, M, (1000, go0, .cells #[.slice Ao0_0 o0.fitems.length co0_0, .slice Ao0_1 o0.fconns.length co0_1, .int .i64 o0.flast, .int .i64 o0.fopens] 61 (0, 0)) :: H, (1000, ⟨.slice Ao0_0 o0.fitems.length co0_0, 40, 6, o0.fitems.length, o0.fitems.flatMap GItem.enc⟩) :: (1001, ⟨.slice Ao0_1 o0.fconns.length co0_1, 63, 3, o0.fconns.length, o0.fconns.flatMap Gnet_conn.enc⟩) :: R, φ⟩ (fun W h => (ok_front (t := 1000) (t' := 1000) (ok_frontR (t := 1000) (t' := 1000) (ok_frontR (t := 1001) (t' := 1001) h rfl) rfl) rfl)) Try.call34 rfl rfl (c_net_Net_picked_2 p1 go0 o0 Ao0_0 co0_0 hco0_0 Ao0_1 co0_1 hco0_1 _ hx3) (fun _ _ => ?_)
 refine g_sta _ (fun W h => (ok_frontR (t := 1000) (t' := 1000) (ok_frontR (t := 1001) (t' := 1001) (ok_front (t := 1000) (t' := 1000) h rfl) rfl) rfl)) <| g_v rfl r_move <| g_v rfl (r_extract rfl rfl) <| g_v rfl (r_extract rfl rfl) <| g_v rfl r_assign <| g_v rfl r_assign <| g_nil <| d_then ?_
 refine c_flat [(0, .pointer (some ⟨go0, 0, none⟩)), (5, .int .i64 x1), (6, .bool x2)] ⟨rfl, rfl, rfl, trivial⟩ (fun u => ?_)
 refine c_sta ⟨w0, M, (1000, go0, .cells #[.slice Ao0_0 o0.fitems.length co0_0, .slice Ao0_1 o0.fconns.length co0_1, .int .i64 o0.flast, .int .i64 o0.fopens] 61 (0, 0)) :: H, (1000, ⟨.slice Ao0_0 o0.fitems.length co0_0, 40, 6, o0.fitems.length, o0.fitems.flatMap GItem.enc⟩) :: (1001, ⟨.slice Ao0_1 o0.fconns.length co0_1, 63, 3, o0.fconns.length, o0.fconns.flatMap Gnet_conn.enc⟩) :: R, φ⟩ (fun _ h => h) <| c_seq ?_
 refine c_cut (ι := (List GItem) × Option Addr × Nat) [6] (fun ⟨l11, A12, c13⟩ => []) (fun ⟨l11, A12, c13⟩ => ⟨w0, M, (1000, go0, .cells #[.slice A12 l11.length c13, .slice Ao0_1 o0.fconns.length co0_1, .int .i64 o0.flast, .int .i64 o0.fopens] 61 (0, 0)) :: H, (1000, ⟨.slice A12 l11.length c13, 40, 6, l11.length, l11.flatMap GItem.enc⟩) :: (1001, ⟨.slice Ao0_1 o0.fconns.length co0_1, 63, 3, o0.fconns.length, o0.fconns.flatMap Gnet_conn.enc⟩) :: R, φ⟩) (fun ⟨l11, A12, c13⟩ => m_net_Net_Drop_j1 x2 o0 l11 = some r ∧ l11.length ≤ c13) ?_ (fun ⟨l11, A12, c13⟩ u ⟨hm, hc13⟩ => ?_)
 ·
  refine c_seq <| c_region <| g_v rfl r_move <| g_nil <| d_then ?_
  refine c_cond rfl (fun h14 => ?_) (fun h14 => ?_)
  ·
   replace hm := ite_t hm h14
   refine c_region <| g_v rfl r_move <| g_v rfl r_move <| g_v rfl (r_nilck rfl) <| g_v rfl (r_field (n := 0) Try.underlying61 rfl Try.sizeOf52 rfl rfl) <| g_v rfl (r_load (tag := 1000) rfl rfl rfl Try.isAgg52) <| g_v rfl r_move <| g_v rfl r_move <| g_v rfl (r_add rfl rfl rfl) ?_
   replace hm := bnd hm
   obtain ⟨x15, hx16, hm⟩ := hm
   refine g_cn ⟨w0, M, (1000, go0, .cells #[.slice Ao0_0 o0.fitems.length co0_0, .slice Ao0_1 o0.fconns.length co0_1, .int .i64 o0.flast, .int .i64 o0.fopens] 61 (0, 0)) :: H, (1000, ⟨.slice Ao0_0 o0.fitems.length co0_0, 40, 6, o0.fitems.length, o0.fitems.flatMap GItem.enc⟩) :: (1001, ⟨.slice Ao0_1 o0.fconns.length co0_1, 63, 3, o0.fconns.length, o0.fconns.flatMap Gnet_conn.enc⟩) :: R, φ⟩ (fun W h => (ok_frontR (t := 1000) (t' := 1000) h rfl)) Try.call37 rfl rfl (c_slices_Delete_37 o0.fitems Ao0_0 co0_0 hco0_0 x1 (w64 (x1 + 1)) _ hx16) (fun ⟨A17, c18⟩ hc18 => ?_)
   refine g_sta _ (fun W h => (ok_frontR (t := 2000) (t' := 1000) h rfl)) <| g_v rfl (r_nilck rfl) <| g_v rfl (r_field (n := 0) Try.underlying61 rfl Try.sizeOf52 rfl rfl) <| g_storeL (tag := 1000) rfl rfl rfl rfl Try.sizeOf52 rfl rfl <| g_nil ?_
   exact d_round (x15, A17, c18) ⟨hm, hc18⟩ Nat.zero_lt_one ⟨rfl, trivial⟩ (fun W h => h.phi (fun W hφ => hφ))
  ·
   replace hm := ite_f hm (bool_nt h14)
   refine c_skip ?_
   exact d_round (o0.fitems, Ao0_0, co0_0) ⟨hm, hco0_0⟩ Nat.zero_lt_one ⟨rfl, trivial⟩ (fun W h => h.phi (fun W hφ => hφ))
 ·
  unfold m_net_Net_Drop_j1 at hm
  refine d_flat [(6, .bool x2)] ⟨rfl, trivial⟩ (fun u => ?_)
  refine d_sta ⟨w0, M, (1000, go0, .cells #[.slice A12 l11.length c13, .slice Ao0_1 o0.fconns.length co0_1, .int .i64 o0.flast, .int .i64 o0.fopens] 61 (0, 0)) :: H, (1000, ⟨.slice A12 l11.length c13, 40, 6, l11.length, l11.flatMap GItem.enc⟩) :: (1001, ⟨.slice Ao0_1 o0.fconns.length co0_1, 63, 3, o0.fconns.length, o0.fconns.flatMap Gnet_conn.enc⟩) :: R, φ⟩ (fun _ h => h) <| d_then <| c_seq <| c_region <| g_v rfl r_move <| g_v rfl r_assign <| g_nil <| d_then <| c_ret ?_
  replace hm := Option.some.inj hm
  subst hm
  refine d_sta _ (fun W h => ok_frontR (t := 1000) (t' := 2000) h rfl) ?_
  refine d_retC (A12, c13) Try.results20 ?_ hc13 (fun W h => h.phi (fun W hφ => hφ)) (.inr rfl)
  refine res_tmp <| res_nil ?_
  exact rfl
noncomputable def m_net_Net_Waits (o0 : Gnet_Net) : Option Int :=
  some (o0.fitems.length : Int)
theorem c_net_Net_Waits {w0 : World} {M : Nat → Prop} {H : List (Nat × Nat × Obj)} {R : List (Nat × Row)} {φ : World → Prop} (go0 : Nat) (o0 : Gnet_Net) (Ao0_0 : Option Addr) (co0_0 : Nat) (hco0_0 : o0.fitems.length ≤ co0_0) (Ao0_1 : Option Addr) (co0_1 : Nat) (hco0_1 : o0.fconns.length ≤ co0_1) (r : Int) (hm : m_net_Net_Waits o0 = some r) :
    Cn Try.prog 18 #[.pointer (some ⟨go0, 0, none⟩)] ⟨w0, M, (1000, go0, .cells #[.slice Ao0_0 o0.fitems.length co0_0, .slice Ao0_1 o0.fconns.length co0_1, .int .i64 o0.flast, .int .i64 o0.fopens] 61 (0, 0)) :: H, (1000, ⟨.slice Ao0_0 o0.fitems.length co0_0, 40, 6, o0.fitems.length, o0.fitems.flatMap GItem.enc⟩) :: (1001, ⟨.slice Ao0_1 o0.fconns.length co0_1, 63, 3, o0.fconns.length, o0.fconns.flatMap Gnet_conn.enc⟩) :: R, φ⟩ (fun x : Unit => .int .i64 r) (fun x => True) (fun x => ⟨w0, M, (1000, go0, .cells #[.slice Ao0_0 o0.fitems.length co0_0, .slice Ao0_1 o0.fconns.length co0_1, .int .i64 o0.flast, .int .i64 o0.fopens] 61 (0, 0)) :: H, (1000, ⟨.slice Ao0_0 o0.fitems.length co0_0, 40, 6, o0.fitems.length, o0.fitems.flatMap GItem.enc⟩) :: (1001, ⟨.slice Ao0_1 o0.fconns.length co0_1, 63, 3, o0.fconns.length, o0.fconns.flatMap Gnet_conn.enc⟩) :: R, φ⟩) := by
 unfold m_net_Net_Waits at hm
 refine cn_intro (fn := Try.f18) (N := 10) Try.func18 rfl Try.ntmps18 rfl <| c_seq <| c_region <| g_v rfl r_assign <| g_nil <| d_then <| c_seq <| c_seq <| c_region <| g_v rfl r_move ?_
 refine g_v rfl (r_eqlP1 Try.underlying24 rfl rfl) <| g_nil <| d_then <| c_cond0 rfl rfl <| c_skip <| d_then <| c_seq <| c_region <| g_v rfl r_move <| g_v rfl (r_nilck rfl) ?_
 refine g_v rfl (r_field (n := 0) Try.underlying61 rfl Try.sizeOf52 rfl rfl) <| g_v rfl (r_load (tag := 1000) rfl rfl rfl Try.isAgg52) <| g_v rfl (r_lenL Try.underlying52 rfl) <| g_v rfl r_assign <| g_nil <| d_then ?_
 refine c_flat [(2, .int .i64 (o0.fitems.length : Int))] ⟨rfl, trivial⟩ (fun u => ?_)
 refine c_sta ⟨w0, M, (1000, go0, .cells #[.slice Ao0_0 o0.fitems.length co0_0, .slice Ao0_1 o0.fconns.length co0_1, .int .i64 o0.flast, .int .i64 o0.fopens] 61 (0, 0)) :: H, (1000, ⟨.slice Ao0_0 o0.fitems.length co0_0, 40, 6, o0.fitems.length, o0.fitems.flatMap GItem.enc⟩) :: (1001, ⟨.slice Ao0_1 o0.fconns.length co0_1, 63, 3, o0.fconns.length, o0.fconns.flatMap Gnet_conn.enc⟩) :: R, φ⟩ (fun _ h => h) <| c_ret ?_
 replace hm := Option.some.inj hm
 subst hm
 refine d_retC () Try.results18 ?_ trivial (fun W h => h.phi (fun W hφ => hφ)) (.inr rfl)
 refine res_tmp <| res_nil ?_
 exact rfl
noncomputable def m_law08_NetLost_j3  : Option Bool :=
  some false
noncomputable def m_law08_NetLost_s4 (x298 : Gnet_Net) (i294 : Int) (x295 : Int) (x1 : Bool) (l406 : List GItem) (i409 : Int) : Option (((List GItem) × Int) ⊕ (Unit ⊕ Bool)) :=
  if i409 < 300 then
    (m_net_Net_Take i409 (⟨l406, x298.fconns, x298.flast, i294⟩ : Gnet_Net)).bind fun (z440 : GItem × Bool × Gnet_Net) =>
    if z440.2.1 = true then
      if z440.1.fKind = 1 then
        some (.inr (.inr false))
      else
        if z440.1.fTo = x295 then
          some (.inr (.inr false))
        else
          if (!((decide (z440.1.fFrom = x295)) == (decide (z440.1.fKind = 4)))) = true then
            some (.inr (.inr false))
          else
            some (.inl (z440.2.2.fitems, w64 (i409 + 1)))
    else
      if x1 = true then
        (m_net_Net_Waits (⟨z440.2.2.fitems, x298.fconns, x298.flast, i294⟩ : Gnet_Net)).bind fun x444 =>
        some (.inr (.inr (decide (x444 = 0))))
      else
        some (.inr (.inr false))
  else
    some (.inr (.inl ()))
noncomputable def m_law08_NetLost_j2 (x298 : Gnet_Net) (i294 : Int) (x295 : Int) (x1 : Bool) (l337 : List GItem) : Option Bool :=
  (loop (fun s => m_law08_NetLost_s4 x298 i294 x295 x1 s.1 s.2) (l337, 0)).bind fun e => Sum.elim (fun e => m_law08_NetLost_j3) (fun x => some x) e
noncomputable def m_law08_NetLost_s5 (x298 : Gnet_Net) (i294 : Int) (l462 : List GItem) (i465 : Int) : Option (((List GItem) × Int) ⊕ (List GItem)) :=
  if i465 < 100 then
    (m_net_Net_Drop i465 (⟨l462, x298.fconns, x298.flast, i294⟩ : Gnet_Net)).bind fun (z487 : Bool × Gnet_Net) =>
    if z487.1 = true then
      some (.inl (z487.2.fitems, w64 (i465 + 1)))
    else
      some (.inr z487.2.fitems)
  else
    some (.inr l462)
noncomputable def m_law08_NetLost_j1 (p1 : Int) (x1 : Bool) (l287 : List GItem) (l290 : List Gnet_conn) (i293 : Int) (i294 : Int) : Option Bool :=
  (m_ref08_Pick p1 4).bind fun x295 =>
  (m_net_Net_Lose x295 (⟨l287, l290, i293, i294⟩ : Gnet_Net)).bind fun (z306 : Int × Gnet_Net) =>
  (loop (fun s => m_law08_NetLost_s5 z306.2 i294 s.1 s.2) (z306.2.fitems, 0)).bind fun e => m_law08_NetLost_j2 z306.2 i294 x295 x1 e
noncomputable def m_law08_NetLost_j7 (x767 : Glaw08_Op) (l622 : List GItem) (l625 : List Gnet_conn) (i629 : Int) (i630 : Int) (i628 : Int) (x772 : Int) (b775 : Bool) : Option (((List GItem) × (List Gnet_conn) × Int × Int × Int) ⊕ ((List GItem) × (List Gnet_conn) × Int × Int)) :=
  if b775 = true then
    (m_ref08_Pick x767.fA 4).bind fun x799 =>
    (m_ref08_Pick x767.fB 4).bind fun x801 =>
    (m_net_Net_Send x799 x801 x767.fBody (⟨l622, l625, i629, i630⟩ : Gnet_Net)).bind fun (z809 : Bool × Gnet_Net) =>
    some (.inl (z809.2.fitems, l625, w64 (i628 + 1), z809.2.flast, i630))
  else
    if x772 = 2 then
      (m_ref08_Pick x767.fA 4).bind fun x842 =>
      (m_ref08_Pick x767.fB 4).bind fun x844 =>
      (m_net_Net_Open x842 x844 (⟨l622, l625, i629, i630⟩ : Gnet_Net)).bind fun (z856 : Int × Bool × Gnet_Net) =>
      some (.inl (z856.2.2.fitems, z856.2.2.fconns, w64 (i628 + 1), z856.2.2.flast, z856.2.2.fopens))
    else
      (m_ref08_Pick x767.fN 6).bind fun x880 =>
      (m_ref08_Pick x767.fA 4).bind fun x882 =>
      (m_net_Net_Write (w64 (1 + x880)) x882 x767.fBody (⟨l622, l625, i629, i630⟩ : Gnet_Net)).bind fun (z890 : Bool × Gnet_Net) =>
      some (.inl (z890.2.fitems, l625, w64 (i628 + 1), z890.2.flast, i630))
noncomputable def m_law08_NetLost_s6 (p0 : List Glaw08_Op) (l622 : List GItem) (l625 : List Gnet_conn) (i628 : Int) (i629 : Int) (i630 : Int) : Option (((List GItem) × (List Gnet_conn) × Int × Int × Int) ⊕ ((List GItem) × (List Gnet_conn) × Int × Int)) :=
  if i628 < (p0.length : Int) then
    if i628 < 60 then
      (at_ p0 i628).bind fun x767 =>
      (m_ref08_Pick x767.fKind 5).bind fun x772 =>
      if x772 = 0 then
        m_law08_NetLost_j7 x767 l622 l625 i629 i630 i628 x772 (decide (x772 = 0))
      else
        m_law08_NetLost_j7 x767 l622 l625 i629 i630 i628 x772 (decide (x772 = 1))
    else
      some (.inr (l622, l625, i629, i630))
  else
    some (.inr (l622, l625, i629, i630))
noncomputable def m_law08_NetLost (p0 : List Glaw08_Op) (p1 : Int) : Option Bool :=
  (m_law08_awake).bind fun x1 =>
  (m_net_New).bind fun x3 =>
  (loop (fun s => m_law08_NetLost_s6 p0 s.1 s.2.1 s.2.2.1 s.2.2.2.1 s.2.2.2.2) (x3.fitems, x3.fconns, 0, x3.flast, x3.fopens)).bind fun e => m_law08_NetLost_j1 p1 x1 e.1 e.2.1 e.2.2.1 e.2.2.2
theorem c_law08_NetLost {w0 : World} {M : Nat → Prop} {H : List (Nat × Nat × Obj)} {R : List (Nat × Row)} {φ : World → Prop} (p0 : List Glaw08_Op) (Ap0_0 : Option Addr) (cp0_0 : Nat) (hcp0_0 : p0.length ≤ cp0_0) (fp0_0 : ∀ W, (Sta.mk w0 M H R φ).ok W → Cl W Ap0_0 (p0.flatMap Glaw08_Op.enc)) (p1 : Int) (r : Bool) (hm : m_law08_NetLost p0 p1 = some r) :
    Cn Try.prog 6 #[.slice Ap0_0 p0.length cp0_0, .int .i64 p1] ⟨w0, M, H, R, φ⟩ (fun x : Unit => .bool r) (fun x => True) (fun x => ⟨w0, M, H, R, φ⟩) := by
 unfold m_law08_NetLost at hm
 refine cn_intro (fn := Try.f6) (N := 119) Try.func6 rfl Try.ntmps6 rfl <| c_seq <| c_region <| g_v rfl r_assign <| g_nil <| d_then <| c_seq <| c_region ?_
 replace hm := bnd hm
 obtain ⟨x1, hx2, hm⟩ := hm
 refine g_cn ⟨w0, M, _, _, φ⟩ (fun _ h => h) Try.call9 rfl rfl (c_law08_awake  _ hx2) (fun _ _ => ?_)
 refine g_v rfl r_assign <| g_nil <| d_then <| c_seq <| c_region ?_
 replace hm := bnd hm
 obtain ⟨x3, hx4, hm⟩ := hm
 refine g_cn ⟨w0, M, _, _, φ⟩ (fun _ h => h) Try.call10 rfl rfl (c_net_New  _ hx4) (fun ⟨A5, c6, A8, c9, g11⟩ ⟨hc6, hc9⟩ => ?_)
 refine g_sta _ (fun W h => (ok_frontR (t := 2000) (t' := 100150) (ok_frontR (t := 2001) (t' := 100151) (ok_front (t := 3000) (t' := 100155) h rfl) rfl) rfl)) <| g_v rfl r_assign <| g_nil <| d_then <| c_seq <| c_seq <| c_region <| g_v rfl r_move <| g_v rfl (r_eqlP1 Try.underlying24 rfl rfl) <| g_nil ?_
 refine d_then <| c_cond0 rfl rfl <| c_skip <| d_then <| c_seq ?_
 refine c_cut (ι := (List GItem) × (List Gnet_conn) × Int × Int × Option Addr × Nat × Option Addr × Nat) [1, 5, 6] (fun ⟨l287, l290, i293, i294, A288, c289, A291, c292⟩ => []) (fun ⟨l287, l290, i293, i294, A288, c289, A291, c292⟩ => ⟨w0, M, (100155, g11, .cells #[.slice A288 l287.length c289, .slice A291 l290.length c292, .int .i64 i293, .int .i64 i294] 61 (0, 0)) :: H, (100150, ⟨.slice A288 l287.length c289, 40, 6, l287.length, l287.flatMap GItem.enc⟩) :: (100151, ⟨.slice A291 l290.length c292, 63, 3, l290.length, l290.flatMap Gnet_conn.enc⟩) :: R, φ⟩) (fun ⟨l287, l290, i293, i294, A288, c289, A291, c292⟩ => m_law08_NetLost_j1 p1 x1 l287 l290 i293 i294 = some r ∧ l287.length ≤ c289 ∧ l290.length ≤ c292) ?_ (fun ⟨l287, l290, i293, i294, A288, c289, A291, c292⟩ u ⟨hm, hc289, hc292⟩ => ?_)
 ·
  refine c_seq <| c_region <| g_v rfl r_assign <| g_nil <| d_then <| c_block ?_
  replace hm := bnd hm
  obtain ⟨out6, hl6, hr6⟩ := hm
  obtain ⟨n764', hl6⟩ := loop_lp hl6
  refine c_loopU (ι := Nat × (List GItem) × (List Gnet_conn) × Int × Int × Int × Option Addr × Nat × Option Addr × Nat) [0, 1, 5, 6, 7] (fun ⟨n764, l622, l625, i628, i629, i630, A623, c624, A626, c627⟩ => [(7, .int .i64 i628)]) (fun ⟨n764, l622, l625, i628, i629, i630, A623, c624, A626, c627⟩ => ⟨w0, M, (100155, g11, .cells #[.slice A623 l622.length c624, .slice A626 l625.length c627, .int .i64 i629, .int .i64 i630] 61 (0, 0)) :: H, (100150, ⟨.slice A623 l622.length c624, 40, 6, l622.length, l622.flatMap GItem.enc⟩) :: (100151, ⟨.slice A626 l625.length c627, 63, 3, l625.length, l625.flatMap Gnet_conn.enc⟩) :: R, φ⟩) (fun ⟨n764, l622, l625, i628, i629, i630, A623, c624, A626, c627⟩ => Lp (fun s => m_law08_NetLost_s6 p0 s.1 s.2.1 s.2.2.1 s.2.2.2.1 s.2.2.2.2) n764 (l622, l625, i628, i629, i630) out6 ∧ l622.length ≤ c624 ∧ l625.length ≤ c627) (fun ⟨n764, l622, l625, i628, i629, i630, A623, c624, A626, c627⟩ => n764) (n764', x3.fitems, x3.fconns, 0, x3.flast, x3.fopens, A5, c6, A8, c9) ⟨hl6, hc6, hc9⟩ ⟨rfl, rfl, rfl, rfl, rfl, trivial⟩ (fun W h => h.phi (fun W hφ => hφ)) (fun ⟨n764, l622, l625, i628, i629, i630, A623, c624, A626, c627⟩ u ⟨hlp, hc624, hc627⟩ => ?_)
  obtain ⟨o6, hm, hnx6⟩ := lp_step hlp
  clear hlp
  replace hm : m_law08_NetLost_s6 p0 l622 l625 i628 i629 i630 = some o6 := hm
  unfold m_law08_NetLost_s6 at hm
  refine c_flat [(0, .slice Ap0_0 p0.length cp0_0), (1, .int .i64 p1), (5, .bool x1), (6, .pointer (some ⟨g11, 0, none⟩)), (7, .int .i64 i628)] ⟨rfl, rfl, rfl, rfl, rfl, trivial⟩ (fun u => ?_)
  refine c_sta ⟨w0, M, (100155, g11, .cells #[.slice A623 l622.length c624, .slice A626 l625.length c627, .int .i64 i629, .int .i64 i630] 61 (0, 0)) :: H, (100150, ⟨.slice A623 l622.length c624, 40, 6, l622.length, l622.flatMap GItem.enc⟩) :: (100151, ⟨.slice A626 l625.length c627, 63, 3, l625.length, l625.flatMap Gnet_conn.enc⟩) :: R, φ⟩ (fun _ h => h) <| c_seq <| c_seq <| c_region <| g_v rfl r_move <| g_v rfl r_move <| g_v rfl (r_lenL Try.underlying22 rfl) <| g_v rfl (r_lss rfl rfl) <| g_v rfl r_move ?_
  refine g_if rfl rfl rfl rfl rfl (fun h765 => ?_) (fun h765 => ?_)
  ·
   replace hm := ite_t hm (of_decide_eq_true h765)
   refine g_v rfl r_move <| g_do rfl rfl rfl rfl rfl h765 <| g_v rfl (r_lss rfl rfl) <| g_v rfl (r_pick1 rfl h765) <| g_nil <| d_then ?_
   refine c_cond rfl (fun h766 => ?_) (fun h766 => ?_)
   ·
    replace hm := ite_t hm (of_decide_eq_true h766)
    refine c_skip <| d_then <| c_seq <| c_block <| c_seq <| c_region <| g_v rfl r_move <| g_v rfl r_move ?_
    replace hm := bnd hm
    obtain ⟨x767, hx767, hm⟩ := hm
    refine g_know _ (fun W hS => cl_at (p := (Sta.mk w0 M H R φ).ok) (sz := 5) (fun _ => rfl) (by decide) (ok_pre (H1 := [_]) (R1 := [_, _]) hS (fun W h => h)) fp0_0 hx767) ?_
    rintro ⟨ad768, hA770, f769⟩
    refine g_v rfl (r_ix Try.underlying22 Try.sizeOf33 rfl hA770 rfl hx767) <| g_v rfl (r_ldA rfl Try.isAgg33 Try.sizeOf33 (fun W hS => (f769 W (ok_pre (H1 := [_]) (R1 := [_, _]) hS (fun W h => h))).take 5) rfl) ?_
    refine g_e rfl (e_alloc 100080 Try.zeroValue33) (fun g771 _ => ?_)
    refine g_storeL (tag := 100080) rfl rfl rfl rfl Try.sizeOf33 rfl rfl <| g_nil <| d_then ?_
    refine c_flat [(0, .slice Ap0_0 p0.length cp0_0), (1, .int .i64 p1), (5, .bool x1), (6, .pointer (some ⟨g11, 0, none⟩)), (7, .int .i64 i628), (8, .pointer (some ⟨g771, 0, none⟩))] ⟨rfl, rfl, rfl, rfl, rfl, rfl, trivial⟩ (fun u => ?_)
    refine c_sta ⟨w0, M, (100080, g771, .cells #[.int .i64 x767.fKind, .int .i64 x767.fA, .int .i64 x767.fB, .int .i64 x767.fN, .string x767.fBody] 33 (0, 0)) :: (100155, g11, .cells #[.slice A623 l622.length c624, .slice A626 l625.length c627, .int .i64 i629, .int .i64 i630] 61 (0, 0)) :: H, (100150, ⟨.slice A623 l622.length c624, 40, 6, l622.length, l622.flatMap GItem.enc⟩) :: (100151, ⟨.slice A626 l625.length c627, 63, 3, l625.length, l625.flatMap Gnet_conn.enc⟩) :: R, φ⟩ (fun _ h => h) <| c_seq <| c_region <| g_v rfl (r_field (n := 0) Try.underlying33 rfl Try.sizeOf3 rfl rfl) <| g_v rfl (r_load (tag := 100080) rfl rfl rfl Try.isAgg3) ?_
    replace hm := bnd hm
    obtain ⟨x772, hx773, hm⟩ := hm
    refine g_cn ⟨w0, M, _, _, φ⟩ (fun _ h => h) Try.call11 rfl rfl (c_ref08_Pick x767.fKind 5 _ hx773) (fun _ _ => ?_)
    refine g_nil <| d_then <| c_block <| c_seq ?_
    refine c_cut (ι := Bool) [0, 1, 5, 6, 7, 8, 34, 46] (fun b775 => [(46, .bool b775)]) (fun b775 => ⟨w0, M, (100080, g771, .cells #[.int .i64 x767.fKind, .int .i64 x767.fA, .int .i64 x767.fB, .int .i64 x767.fN, .string x767.fBody] 33 (0, 0)) :: (100155, g11, .cells #[.slice A623 l622.length c624, .slice A626 l625.length c627, .int .i64 i629, .int .i64 i630] 61 (0, 0)) :: H, (100150, ⟨.slice A623 l622.length c624, 40, 6, l622.length, l622.flatMap GItem.enc⟩) :: (100151, ⟨.slice A626 l625.length c627, 63, 3, l625.length, l625.flatMap Gnet_conn.enc⟩) :: R, φ⟩) (fun b775 => m_law08_NetLost_j7 x767 l622 l625 i629 i630 i628 x772 b775 = some o6) ?_ (fun b775 u hm => ?_)
    ·
     refine c_seq <| c_region <| g_v rfl (r_eql rfl rfl) <| g_v rfl r_assign <| g_nil <| d_then ?_
     refine c_cond rfl (fun h892 => ?_) (fun h892 => ?_)
     ·
      replace hm := ite_t hm (of_decide_eq_true h892)
      refine c_skip ?_
      exact d_round (decide (x772 = 0)) hm Nat.zero_lt_one ⟨rfl, rfl, rfl, rfl, rfl, rfl, rfl, rfl, trivial⟩ (fun W h => h.phi (fun W hφ => hφ))
     ·
      replace hm := ite_f hm (of_decide_eq_false h892)
      refine c_region <| g_v rfl (r_eql rfl rfl) <| g_v rfl r_assign <| g_nil ?_
      exact d_round (decide (x772 = 1)) hm Nat.zero_lt_one ⟨rfl, rfl, rfl, rfl, rfl, rfl, rfl, rfl, trivial⟩ (fun W h => h.phi (fun W hφ => hφ))
    ·
     unfold m_law08_NetLost_j7 at hm
     refine d_flat [(0, .slice Ap0_0 p0.length cp0_0), (1, .int .i64 p1), (5, .bool x1), (6, .pointer (some ⟨g11, 0, none⟩)), (7, .int .i64 i628), (8, .pointer (some ⟨g771, 0, none⟩)), (34, .int .i64 x772), (46, .bool b775)] ⟨rfl, rfl, rfl, rfl, rfl, rfl, rfl, rfl, trivial⟩ (fun u => ?_)
     refine d_then ?_
     refine c_cond rfl (fun h776 => ?_) (fun h776 => ?_)
     ·
      replace hm := ite_t hm h776
      refine ga_start (n := 10) ⟨w0, M, (100080, g771, .cells #[.int .i64 x767.fKind, .int .i64 x767.fA, .int .i64 x767.fB, .int .i64 x767.fN, .string x767.fBody] 33 (0, 0)) :: H, R, φ⟩ [] #[false, false, false, false, false, false, false, false, false, false] (fun W h => (((h.dropR (t := 100150) rfl).dropR (t := 100151) rfl).dropH (t := 100155) rfl).phi (fun W hφ => hφ)) mixed rfl rfl <| ga_v (i := 0) (bz 10 1) rfl (by kernel_rfl) (fun _ _ _ _ h => h) rfl (r_move) <| ga_v (i := 1) (bz 10 3) rfl (by kernel_rfl) (fun _ _ _ _ h => h) rfl (r_field (n := 1) Try.underlying33 rfl Try.sizeOf3 rfl rfl) <| ga_v (i := 2) (bz 10 7) rfl (by kernel_rfl) (fun _ _ _ _ h => h) rfl (r_load (tag := 100080) rfl rfl rfl Try.isAgg3) <| ga_v (i := 4) (bz 10 23) rfl (by kernel_rfl) (fun _ _ _ _ h => h) rfl (r_field (n := 2) Try.underlying33 rfl Try.sizeOf3 rfl rfl) <| ga_v (i := 5) (bz 10 55) rfl (by kernel_rfl) (fun _ _ _ _ h => h) rfl (r_load (tag := 100080) rfl rfl rfl Try.isAgg3) <| ga_v (i := 7) (bz 10 183) rfl (by kernel_rfl) (fun _ _ _ _ h => h) rfl (r_field (n := 4) Try.underlying33 rfl Try.sizeOf9 rfl rfl) <| ga_v (i := 8) (bz 10 439) rfl (by kernel_rfl) (fun _ _ _ _ h => h) rfl (r_load (tag := 100080) rfl rfl rfl Try.isAgg9) ?_
      replace hm := bnd hm
      obtain ⟨x799, hx800, hm⟩ := hm
      refine ga_cn (first := #[]) (i := 3) (bz 10 447) rfl (by kernel_rfl) (by decide)  ⟨w0, M, _, _, φ⟩ (fun _ h => h) Try.call11 rfl rfl rfl (c_ref08_Pick x767.fA 4 _ hx800) (fun _ W _ h => (((h.dropR (t := 100150) rfl).dropR (t := 100151) rfl).dropH (t := 100155) rfl).phi (fun W hφ => hφ)) (fun _ _ => ?_)
      replace hm := bnd hm
      obtain ⟨x801, hx802, hm⟩ := hm
      refine ga_cn (first := #[]) (i := 6) (bz 10 511) rfl (by kernel_rfl) (by decide)  ⟨w0, M, _, _, φ⟩ (fun _ h => h) Try.call11 rfl rfl rfl (c_ref08_Pick x767.fB 4 _ hx802) (fun _ W _ h => (((h.dropR (t := 100150) rfl).dropR (t := 100151) rfl).dropH (t := 100155) rfl).phi (fun W hφ => hφ)) (fun _ _ => ?_)
      replace hm := bnd hm
      obtain ⟨⟨x803, x804⟩, hx805, hm⟩ := hm
      refine ga_cn (first := #[]) (i := 9) (bz 10 1023) rfl (by kernel_rfl) (by decide)  ⟨w0, M, (1000, g11, .cells #[.slice A623 l622.length c624, .slice A626 l625.length c627, .int .i64 i629, .int .i64 i630] 61 (0, 0)) :: (100080, g771, .cells #[.int .i64 x767.fKind, .int .i64 x767.fA, .int .i64 x767.fB, .int .i64 x767.fN, .string x767.fBody] 33 (0, 0)) :: H, (1000, ⟨.slice A623 l622.length c624, 40, 6, l622.length, l622.flatMap GItem.enc⟩) :: (1001, ⟨.slice A626 l625.length c627, 63, 3, l625.length, l625.flatMap Gnet_conn.enc⟩) :: R, φ⟩ (fun W h => (ok_front (t := 100155) (t' := 1000) (ok_frontR (t := 100150) (t' := 1000) (ok_frontR (t := 100151) (t' := 1001) h rfl) rfl) rfl)) Try.call15 rfl rfl rfl (c_net_Net_Send x799 x801 x767.fBody g11 (⟨l622, l625, i629, i630⟩ : Gnet_Net) A623 c624 hc624 A626 c627 hc627 _ hx805) (fun ⟨A806, c807⟩ W hc807 h => ((((ok_frontR (t := 2000) (t' := 100150) (ok_frontR (t := 1001) (t' := 100151) (ok_front (t := 1000) (t' := 100155) h rfl) rfl) rfl).dropR (t := 100150) rfl).dropR (t := 100151) rfl).dropH (t := 100155) rfl).phi (fun W hφ => hφ)) (fun ⟨A806, c807⟩ hc807 => ?_)
      refine ga_sta _ (fun W h => (ok_frontR (t := 2000) (t' := 100150) (ok_frontR (t := 1001) (t' := 100151) (ok_front (t := 1000) (t' := 100155) h rfl) rfl) rfl)) <| ga_done (by kernel_rfl) <| d_normal_block <| d_normal_block <| d_then ?_
      refine c_flat [(0, .slice Ap0_0 p0.length cp0_0), (1, .int .i64 p1), (5, .bool x1), (6, .pointer (some ⟨g11, 0, none⟩)), (7, .int .i64 i628)] ⟨rfl, rfl, rfl, rfl, rfl, trivial⟩ (fun u => ?_)
      refine c_sta ⟨w0, M, (100155, g11, .cells #[.slice A806 x804.fitems.length c807, .slice A626 l625.length c627, .int .i64 x804.flast, .int .i64 i630] 61 (0, 0)) :: (100080, g771, .cells #[.int .i64 x767.fKind, .int .i64 x767.fA, .int .i64 x767.fB, .int .i64 x767.fN, .string x767.fBody] 33 (0, 0)) :: H, (100150, ⟨.slice A806 x804.fitems.length c807, 40, 6, x804.fitems.length, x804.fitems.flatMap GItem.enc⟩) :: (100151, ⟨.slice A626 l625.length c627, 63, 3, l625.length, l625.flatMap Gnet_conn.enc⟩) :: R, φ⟩ (fun _ h => h) <| c_region <| g_v rfl r_move <| g_v rfl (r_add rfl rfl rfl) <| g_v rfl r_assign <| g_nil ?_
      obtain ⟨n810, hn810, hlp⟩ := nx_inl hm hnx6
      exact d_round (n810, x804.fitems, l625, w64 (i628 + 1), x804.flast, i630, A806, c807, A626, c627) ⟨hlp, hc807, hc627⟩ hn810 ⟨rfl, rfl, rfl, rfl, rfl, trivial⟩ (fun W h => (h.dropH (t := 100080) rfl).phi (fun W hφ => hφ))
     ·
      replace hm := ite_f hm (bool_nt h776)
      refine c_seq <| c_region <| g_v rfl (r_eql rfl rfl) <| g_v rfl r_assign <| g_nil <| d_then ?_
      refine c_cond rfl (fun h811 => ?_) (fun h811 => ?_)
      ·
       replace hm := ite_t hm (of_decide_eq_true h811)
       refine ga_start (n := 8) ⟨w0, M, (100080, g771, .cells #[.int .i64 x767.fKind, .int .i64 x767.fA, .int .i64 x767.fB, .int .i64 x767.fN, .string x767.fBody] 33 (0, 0)) :: H, R, φ⟩ [] #[false, false, false, false, false, false, false, false] (fun W h => (((h.dropR (t := 100150) rfl).dropR (t := 100151) rfl).dropH (t := 100155) rfl).phi (fun W hφ => hφ)) mixed rfl rfl <| ga_v (i := 0) (bz 8 1) rfl (by kernel_rfl) (fun _ _ _ _ h => h) rfl (r_move) <| ga_v (i := 1) (bz 8 3) rfl (by kernel_rfl) (fun _ _ _ _ h => h) rfl (r_field (n := 1) Try.underlying33 rfl Try.sizeOf3 rfl rfl) <| ga_v (i := 2) (bz 8 7) rfl (by kernel_rfl) (fun _ _ _ _ h => h) rfl (r_load (tag := 100080) rfl rfl rfl Try.isAgg3) <| ga_v (i := 4) (bz 8 23) rfl (by kernel_rfl) (fun _ _ _ _ h => h) rfl (r_field (n := 2) Try.underlying33 rfl Try.sizeOf3 rfl rfl) <| ga_v (i := 5) (bz 8 55) rfl (by kernel_rfl) (fun _ _ _ _ h => h) rfl (r_load (tag := 100080) rfl rfl rfl Try.isAgg3) ?_
       replace hm := bnd hm
       obtain ⟨x842, hx843, hm⟩ := hm
       refine ga_cn (first := #[]) (i := 3) (bz 8 63) rfl (by kernel_rfl) (by decide)  ⟨w0, M, _, _, φ⟩ (fun _ h => h) Try.call11 rfl rfl rfl (c_ref08_Pick x767.fA 4 _ hx843) (fun _ W _ h => (((h.dropR (t := 100150) rfl).dropR (t := 100151) rfl).dropH (t := 100155) rfl).phi (fun W hφ => hφ)) (fun _ _ => ?_)
       replace hm := bnd hm
       obtain ⟨x844, hx845, hm⟩ := hm
       refine ga_cn (first := #[]) (i := 6) (bz 8 127) rfl (by kernel_rfl) (by decide)  ⟨w0, M, _, _, φ⟩ (fun _ h => h) Try.call11 rfl rfl rfl (c_ref08_Pick x767.fB 4 _ hx845) (fun _ W _ h => (((h.dropR (t := 100150) rfl).dropR (t := 100151) rfl).dropH (t := 100155) rfl).phi (fun W hφ => hφ)) (fun _ _ => ?_)
       replace hm := bnd hm
       obtain ⟨⟨x846, x847, x848⟩, hx849, hm⟩ := hm
       refine ga_cn (first := #[]) (i := 7) (bz 8 255) rfl (by kernel_rfl) (by decide)  ⟨w0, M, (1000, g11, .cells #[.slice A623 l622.length c624, .slice A626 l625.length c627, .int .i64 i629, .int .i64 i630] 61 (0, 0)) :: (100080, g771, .cells #[.int .i64 x767.fKind, .int .i64 x767.fA, .int .i64 x767.fB, .int .i64 x767.fN, .string x767.fBody] 33 (0, 0)) :: H, (1000, ⟨.slice A623 l622.length c624, 40, 6, l622.length, l622.flatMap GItem.enc⟩) :: (1001, ⟨.slice A626 l625.length c627, 63, 3, l625.length, l625.flatMap Gnet_conn.enc⟩) :: R, φ⟩ (fun W h => (ok_front (t := 100155) (t' := 1000) (ok_frontR (t := 100150) (t' := 1000) (ok_frontR (t := 100151) (t' := 1001) h rfl) rfl) rfl)) Try.call12 rfl rfl rfl (c_net_Net_Open x842 x844 g11 (⟨l622, l625, i629, i630⟩ : Gnet_Net) A623 c624 hc624 A626 c627 hc627 _ hx849) (fun ⟨A850, c851, A853, c854⟩ W ⟨hc851, hc854⟩ h => ((((ok_frontR (t := 2000) (t' := 100150) (ok_frontR (t := 2001) (t' := 100151) (ok_front (t := 1000) (t' := 100155) h rfl) rfl) rfl).dropR (t := 100150) rfl).dropR (t := 100151) rfl).dropH (t := 100155) rfl).phi (fun W hφ => hφ)) (fun ⟨A850, c851, A853, c854⟩ ⟨hc851, hc854⟩ => ?_)
       refine ga_sta _ (fun W h => (ok_frontR (t := 2000) (t' := 100150) (ok_frontR (t := 2001) (t' := 100151) (ok_front (t := 1000) (t' := 100155) h rfl) rfl) rfl)) <| ga_done (by kernel_rfl) <| d_normal_block <| d_normal_block <| d_then ?_
       refine c_flat [(0, .slice Ap0_0 p0.length cp0_0), (1, .int .i64 p1), (5, .bool x1), (6, .pointer (some ⟨g11, 0, none⟩)), (7, .int .i64 i628)] ⟨rfl, rfl, rfl, rfl, rfl, trivial⟩ (fun u => ?_)
       refine c_sta ⟨w0, M, (100155, g11, .cells #[.slice A850 x848.fitems.length c851, .slice A853 x848.fconns.length c854, .int .i64 x848.flast, .int .i64 x848.fopens] 61 (0, 0)) :: (100080, g771, .cells #[.int .i64 x767.fKind, .int .i64 x767.fA, .int .i64 x767.fB, .int .i64 x767.fN, .string x767.fBody] 33 (0, 0)) :: H, (100150, ⟨.slice A850 x848.fitems.length c851, 40, 6, x848.fitems.length, x848.fitems.flatMap GItem.enc⟩) :: (100151, ⟨.slice A853 x848.fconns.length c854, 63, 3, x848.fconns.length, x848.fconns.flatMap Gnet_conn.enc⟩) :: R, φ⟩ (fun _ h => h) <| c_region <| g_v rfl r_move <| g_v rfl (r_add rfl rfl rfl) <| g_v rfl r_assign <| g_nil ?_
       obtain ⟨n857, hn857, hlp⟩ := nx_inl hm hnx6
       exact d_round (n857, x848.fitems, x848.fconns, w64 (i628 + 1), x848.flast, x848.fopens, A850, c851, A853, c854) ⟨hlp, hc851, hc854⟩ hn857 ⟨rfl, rfl, rfl, rfl, rfl, trivial⟩ (fun W h => (h.dropH (t := 100080) rfl).phi (fun W hφ => hφ))
      ·
       replace hm := ite_f hm (of_decide_eq_false h811)
       refine ga_start (n := 11) ⟨w0, M, (100080, g771, .cells #[.int .i64 x767.fKind, .int .i64 x767.fA, .int .i64 x767.fB, .int .i64 x767.fN, .string x767.fBody] 33 (0, 0)) :: H, R, φ⟩ [] #[false, false, false, false, false, false, false, false, false, false, false] (fun W h => (((h.dropR (t := 100150) rfl).dropR (t := 100151) rfl).dropH (t := 100155) rfl).phi (fun W hφ => hφ)) mixed rfl rfl <| ga_v (i := 0) (bz 11 1) rfl (by kernel_rfl) (fun _ _ _ _ h => h) rfl (r_move) <| ga_v (i := 1) (bz 11 3) rfl (by kernel_rfl) (fun _ _ _ _ h => h) rfl (r_field (n := 3) Try.underlying33 rfl Try.sizeOf3 rfl rfl) <| ga_v (i := 2) (bz 11 7) rfl (by kernel_rfl) (fun _ _ _ _ h => h) rfl (r_load (tag := 100080) rfl rfl rfl Try.isAgg3) <| ga_v (i := 5) (bz 11 39) rfl (by kernel_rfl) (fun _ _ _ _ h => h) rfl (r_field (n := 1) Try.underlying33 rfl Try.sizeOf3 rfl rfl) <| ga_v (i := 6) (bz 11 103) rfl (by kernel_rfl) (fun _ _ _ _ h => h) rfl (r_load (tag := 100080) rfl rfl rfl Try.isAgg3) <| ga_v (i := 8) (bz 11 359) rfl (by kernel_rfl) (fun _ _ _ _ h => h) rfl (r_field (n := 4) Try.underlying33 rfl Try.sizeOf9 rfl rfl) <| ga_v (i := 9) (bz 11 871) rfl (by kernel_rfl) (fun _ _ _ _ h => h) rfl (r_load (tag := 100080) rfl rfl rfl Try.isAgg9) ?_
       replace hm := bnd hm
       obtain ⟨x880, hx881, hm⟩ := hm
       refine ga_cn (first := #[]) (i := 3) (bz 11 879) rfl (by kernel_rfl) (by decide)  ⟨w0, M, _, _, φ⟩ (fun _ h => h) Try.call11 rfl rfl rfl (c_ref08_Pick x767.fN 6 _ hx881) (fun _ W _ h => (((h.dropR (t := 100150) rfl).dropR (t := 100151) rfl).dropH (t := 100155) rfl).phi (fun W hφ => hφ)) (fun _ _ => ?_)
       refine ga_v (i := 4) (bz 11 895) rfl (by kernel_rfl) (fun _ _ _ _ h => h) rfl (r_add rfl rfl rfl) ?_
       replace hm := bnd hm
       obtain ⟨x882, hx883, hm⟩ := hm
       refine ga_cn (first := #[]) (i := 7) (bz 11 1023) rfl (by kernel_rfl) (by decide)  ⟨w0, M, _, _, φ⟩ (fun _ h => h) Try.call11 rfl rfl rfl (c_ref08_Pick x767.fA 4 _ hx883) (fun _ W _ h => (((h.dropR (t := 100150) rfl).dropR (t := 100151) rfl).dropH (t := 100155) rfl).phi (fun W hφ => hφ)) (fun _ _ => ?_)
       replace hm := bnd hm
       obtain ⟨⟨x884, x885⟩, hx886, hm⟩ := hm
       refine ga_cn (first := #[]) (i := 10) (bz 11 2047) rfl (by kernel_rfl) (by decide)  ⟨w0, M, (1000, g11, .cells #[.slice A623 l622.length c624, .slice A626 l625.length c627, .int .i64 i629, .int .i64 i630] 61 (0, 0)) :: (100080, g771, .cells #[.int .i64 x767.fKind, .int .i64 x767.fA, .int .i64 x767.fB, .int .i64 x767.fN, .string x767.fBody] 33 (0, 0)) :: H, (1000, ⟨.slice A623 l622.length c624, 40, 6, l622.length, l622.flatMap GItem.enc⟩) :: (1001, ⟨.slice A626 l625.length c627, 63, 3, l625.length, l625.flatMap Gnet_conn.enc⟩) :: R, φ⟩ (fun W h => (ok_front (t := 100155) (t' := 1000) (ok_frontR (t := 100150) (t' := 1000) (ok_frontR (t := 100151) (t' := 1001) h rfl) rfl) rfl)) Try.call13 rfl rfl rfl (c_net_Net_Write (w64 (1 + x880)) x882 x767.fBody g11 (⟨l622, l625, i629, i630⟩ : Gnet_Net) A623 c624 hc624 A626 c627 hc627 _ hx886) (fun ⟨A887, c888⟩ W hc888 h => ((((ok_frontR (t := 2000) (t' := 100150) (ok_frontR (t := 1001) (t' := 100151) (ok_front (t := 1000) (t' := 100155) h rfl) rfl) rfl).dropR (t := 100150) rfl).dropR (t := 100151) rfl).dropH (t := 100155) rfl).phi (fun W hφ => hφ)) (fun ⟨A887, c888⟩ hc888 => ?_)
       refine ga_sta _ (fun W h => (ok_frontR (t := 2000) (t' := 100150) (ok_frontR (t := 1001) (t' := 100151) (ok_front (t := 1000) (t' := 100155) h rfl) rfl) rfl)) <| ga_done (by kernel_rfl) <| d_normal_block <| d_normal_block <| d_then ?_
       refine c_flat [(0, .slice Ap0_0 p0.length cp0_0), (1, .int .i64 p1), (5, .bool x1), (6, .pointer (some ⟨g11, 0, none⟩)), (7, .int .i64 i628)] ⟨rfl, rfl, rfl, rfl, rfl, trivial⟩ (fun u => ?_)
       refine c_sta ⟨w0, M, (100155, g11, .cells #[.slice A887 x885.fitems.length c888, .slice A626 l625.length c627, .int .i64 x885.flast, .int .i64 i630] 61 (0, 0)) :: (100080, g771, .cells #[.int .i64 x767.fKind, .int .i64 x767.fA, .int .i64 x767.fB, .int .i64 x767.fN, .string x767.fBody] 33 (0, 0)) :: H, (100150, ⟨.slice A887 x885.fitems.length c888, 40, 6, x885.fitems.length, x885.fitems.flatMap GItem.enc⟩) :: (100151, ⟨.slice A626 l625.length c627, 63, 3, l625.length, l625.flatMap Gnet_conn.enc⟩) :: R, φ⟩ (fun _ h => h) <| c_region <| g_v rfl r_move <| g_v rfl (r_add rfl rfl rfl) <| g_v rfl r_assign <| g_nil ?_
       obtain ⟨n891, hn891, hlp⟩ := nx_inl hm hnx6
       exact d_round (n891, x885.fitems, l625, w64 (i628 + 1), x885.flast, i630, A887, c888, A626, c627) ⟨hlp, hc888, hc627⟩ hn891 ⟨rfl, rfl, rfl, rfl, rfl, trivial⟩ (fun W h => (h.dropH (t := 100080) rfl).phi (fun W hφ => hφ))
   ·
    replace hm := ite_f hm (of_decide_eq_false h766)
    refine c_exit <| d_exit_then <| d_exit_then <| d_exit_block ?_
    replace hm := nx_out (C := (fun e => m_law08_NetLost_j1 p1 x1 e.1 e.2.1 e.2.2.1 e.2.2.2 = some r)) hm hnx6 hr6
    exact d_round (l622, l625, i629, i630, A623, c624, A626, c627) ⟨hm, hc624, hc627⟩ Nat.zero_lt_one ⟨rfl, rfl, rfl, trivial⟩ (fun W h => h.phi (fun W hφ => hφ))
  ·
   replace hm := ite_f hm (of_decide_eq_false h765)
   refine g_no rfl rfl rfl rfl rfl h765 <| g_v rfl (r_pick0 rfl h765) <| g_nil <| d_then <| c_cond0 rfl rfl <| c_exit <| d_exit_then <| d_exit_then <| d_exit_block ?_
   replace hm := nx_out (C := (fun e => m_law08_NetLost_j1 p1 x1 e.1 e.2.1 e.2.2.1 e.2.2.2 = some r)) hm hnx6 hr6
   exact d_round (l622, l625, i629, i630, A623, c624, A626, c627) ⟨hm, hc624, hc627⟩ Nat.zero_lt_one ⟨rfl, rfl, rfl, trivial⟩ (fun W h => h.phi (fun W hφ => hφ))
 ·
  unfold m_law08_NetLost_j1 at hm
  refine d_flat [(1, .int .i64 p1), (5, .bool x1), (6, .pointer (some ⟨g11, 0, none⟩))] ⟨rfl, rfl, rfl, trivial⟩ (fun u => ?_)
  refine d_sta ⟨w0, M, (100155, g11, .cells #[.slice A288 l287.length c289, .slice A291 l290.length c292, .int .i64 i293, .int .i64 i294] 61 (0, 0)) :: H, (100150, ⟨.slice A288 l287.length c289, 40, 6, l287.length, l287.flatMap GItem.enc⟩) :: (100151, ⟨.slice A291 l290.length c292, 63, 3, l290.length, l290.flatMap Gnet_conn.enc⟩) :: R, φ⟩ (fun _ h => h) <| d_then <| c_seq <| c_region <| g_v rfl r_move ?_
  replace hm := bnd hm
  obtain ⟨x295, hx296, hm⟩ := hm
  refine g_cn ⟨w0, M, _, _, φ⟩ (fun _ h => h) Try.call11 rfl rfl (c_ref08_Pick p1 4 _ hx296) (fun _ _ => ?_)
  refine g_v rfl r_assign <| g_nil <| d_then <| c_seq <| c_region <| g_v rfl r_move <| g_v rfl r_move ?_
  replace hm := bnd hm
  obtain ⟨⟨x297, x298⟩, hx299, hm⟩ := hm
  refine g_cn ⟨w0, M, (1000, g11, .cells #[.slice A288 l287.length c289, .slice A291 l290.length c292, .int .i64 i293, .int .i64 i294] 61 (0, 0)) :: H, (1000, ⟨.slice A288 l287.length c289, 40, 6, l287.length, l287.flatMap GItem.enc⟩) :: (1001, ⟨.slice A291 l290.length c292, 63, 3, l290.length, l290.flatMap Gnet_conn.enc⟩) :: R, φ⟩ (fun W h => (ok_front (t := 100155) (t' := 1000) (ok_frontR (t := 100150) (t' := 1000) (ok_frontR (t := 100151) (t' := 1001) h rfl) rfl) rfl)) Try.call19 rfl rfl (c_net_Net_Lose x295 g11 (⟨l287, l290, i293, i294⟩ : Gnet_Net) A288 c289 hc289 A291 c292 hc292 _ hx299) (fun ⟨A300, c301, A303, c304⟩ ⟨hc301, hc304⟩ => ?_)
  refine g_sta _ (fun W h => (ok_frontR (t := 2000) (t' := 100150) (ok_frontR (t := 2001) (t' := 100151) (ok_front (t := 1000) (t' := 100155) h rfl) rfl) rfl)) <| g_nil <| d_then <| c_seq ?_
  refine c_cut (ι := (List GItem) × Option Addr × Nat) [5, 6, 9] (fun ⟨l337, A338, c339⟩ => []) (fun ⟨l337, A338, c339⟩ => ⟨w0, M, (100155, g11, .cells #[.slice A338 l337.length c339, .slice A303 x298.fconns.length c304, .int .i64 x298.flast, .int .i64 i294] 61 (0, 0)) :: H, (100150, ⟨.slice A338 l337.length c339, 40, 6, l337.length, l337.flatMap GItem.enc⟩) :: (100151, ⟨.slice A303 x298.fconns.length c304, 63, 3, x298.fconns.length, x298.fconns.flatMap Gnet_conn.enc⟩) :: R, φ⟩) (fun ⟨l337, A338, c339⟩ => m_law08_NetLost_j2 x298 i294 x295 x1 l337 = some r ∧ l337.length ≤ c339) ?_ (fun ⟨l337, A338, c339⟩ u ⟨hm, hc339⟩ => ?_)
  ·
   refine c_seq <| c_region <| g_v rfl r_assign <| g_nil <| d_then <| c_block ?_
   replace hm := bnd hm
   obtain ⟨out5, hl5, hr5⟩ := hm
   obtain ⟨n479', hl5⟩ := loop_lp hl5
   refine c_loopU (ι := Nat × (List GItem) × Int × Option Addr × Nat) [5, 6, 9, 10] (fun ⟨n479, l462, i465, A463, c464⟩ => [(10, .int .i64 i465)]) (fun ⟨n479, l462, i465, A463, c464⟩ => ⟨w0, M, (100155, g11, .cells #[.slice A463 l462.length c464, .slice A303 x298.fconns.length c304, .int .i64 x298.flast, .int .i64 i294] 61 (0, 0)) :: H, (100150, ⟨.slice A463 l462.length c464, 40, 6, l462.length, l462.flatMap GItem.enc⟩) :: (100151, ⟨.slice A303 x298.fconns.length c304, 63, 3, x298.fconns.length, x298.fconns.flatMap Gnet_conn.enc⟩) :: R, φ⟩) (fun ⟨n479, l462, i465, A463, c464⟩ => Lp (fun s => m_law08_NetLost_s5 x298 i294 s.1 s.2) n479 (l462, i465) out5 ∧ l462.length ≤ c464) (fun ⟨n479, l462, i465, A463, c464⟩ => n479) (n479', x298.fitems, 0, A300, c301) ⟨hl5, hc301⟩ ⟨rfl, rfl, rfl, rfl, trivial⟩ (fun W h => h.phi (fun W hφ => hφ)) (fun ⟨n479, l462, i465, A463, c464⟩ u ⟨hlp, hc464⟩ => ?_)
   obtain ⟨o5, hm, hnx5⟩ := lp_step hlp
   clear hlp
   replace hm : m_law08_NetLost_s5 x298 i294 l462 i465 = some o5 := hm
   unfold m_law08_NetLost_s5 at hm
   refine c_flat [(5, .bool x1), (6, .pointer (some ⟨g11, 0, none⟩)), (9, .int .i64 x295), (10, .int .i64 i465)] ⟨rfl, rfl, rfl, rfl, trivial⟩ (fun u => ?_)
   refine c_sta ⟨w0, M, (100155, g11, .cells #[.slice A463 l462.length c464, .slice A303 x298.fconns.length c304, .int .i64 x298.flast, .int .i64 i294] 61 (0, 0)) :: H, (100150, ⟨.slice A463 l462.length c464, 40, 6, l462.length, l462.flatMap GItem.enc⟩) :: (100151, ⟨.slice A303 x298.fconns.length c304, 63, 3, x298.fconns.length, x298.fconns.flatMap Gnet_conn.enc⟩) :: R, φ⟩ (fun _ h => h) <| c_seq <| c_seq <| c_region <| g_v rfl r_move <| g_v rfl (r_lss rfl rfl) <| g_nil <| d_then ?_
   refine c_cond rfl (fun h480 => ?_) (fun h480 => ?_)
   ·
    replace hm := ite_t hm (of_decide_eq_true h480)
    refine c_skip <| d_then <| c_seq <| c_block <| c_seq <| c_region <| g_v rfl r_move <| g_v rfl r_move ?_
    replace hm := bnd hm
    obtain ⟨⟨x481, x482⟩, hx483, hm⟩ := hm
    refine g_cn ⟨w0, M, (1000, g11, .cells #[.slice A463 l462.length c464, .slice A303 x298.fconns.length c304, .int .i64 x298.flast, .int .i64 i294] 61 (0, 0)) :: H, (1000, ⟨.slice A463 l462.length c464, 40, 6, l462.length, l462.flatMap GItem.enc⟩) :: (1001, ⟨.slice A303 x298.fconns.length c304, 63, 3, x298.fconns.length, x298.fconns.flatMap Gnet_conn.enc⟩) :: R, φ⟩ (fun W h => (ok_front (t := 100155) (t' := 1000) (ok_frontR (t := 100150) (t' := 1000) (ok_frontR (t := 100151) (t' := 1001) h rfl) rfl) rfl)) Try.call20 rfl rfl (c_net_Net_Drop i465 g11 (⟨l462, x298.fconns, x298.flast, i294⟩ : Gnet_Net) A463 c464 hc464 A303 c304 hc304 _ hx483) (fun ⟨A484, c485⟩ hc485 => ?_)
    refine g_sta _ (fun W h => (ok_frontR (t := 2000) (t' := 100150) (ok_frontR (t := 1001) (t' := 100151) (ok_front (t := 1000) (t' := 100155) h rfl) rfl) rfl)) <| g_v rfl (r_not rfl) <| g_nil <| d_then ?_
    refine c_cond rfl (fun h488 => ?_) (fun h488 => ?_)
    ·
     have h488' : x481 = false := by revert h488; cases x481 <;> simp
     replace hm := ite_f hm (bool_nt h488')
     refine c_exit <| d_exit_other rfl <| d_exit_then <| d_exit_then <| d_exit_block ?_
     replace hm := nx_out (C := (fun e => m_law08_NetLost_j2 x298 i294 x295 x1 e = some r)) hm hnx5 hr5
     exact d_round (x482.fitems, A484, c485) ⟨hm, hc485⟩ Nat.zero_lt_one ⟨rfl, rfl, rfl, trivial⟩ (fun W h => h.phi (fun W hφ => hφ))
    ·
     have h488' : x481 = true := by revert h488; cases x481 <;> simp
     replace hm := ite_t hm h488'
     refine c_skip <| d_normal_block <| d_then <| c_region <| g_v rfl r_move <| g_v rfl (r_add rfl rfl rfl) <| g_v rfl r_assign <| g_nil ?_
     obtain ⟨n489, hn489, hlp⟩ := nx_inl hm hnx5
     exact d_round (n489, x482.fitems, w64 (i465 + 1), A484, c485) ⟨hlp, hc485⟩ hn489 ⟨rfl, rfl, rfl, rfl, trivial⟩ (fun W h => h.phi (fun W hφ => hφ))
   ·
    replace hm := ite_f hm (of_decide_eq_false h480)
    refine c_exit <| d_exit_then <| d_exit_then <| d_exit_block ?_
    replace hm := nx_out (C := (fun e => m_law08_NetLost_j2 x298 i294 x295 x1 e = some r)) hm hnx5 hr5
    exact d_round (l462, A463, c464) ⟨hm, hc464⟩ Nat.zero_lt_one ⟨rfl, rfl, rfl, trivial⟩ (fun W h => h.phi (fun W hφ => hφ))
  ·
   unfold m_law08_NetLost_j2 at hm
   refine d_flat [(5, .bool x1), (6, .pointer (some ⟨g11, 0, none⟩)), (9, .int .i64 x295)] ⟨rfl, rfl, rfl, trivial⟩ (fun u => ?_)
   refine d_sta ⟨w0, M, (100155, g11, .cells #[.slice A338 l337.length c339, .slice A303 x298.fconns.length c304, .int .i64 x298.flast, .int .i64 i294] 61 (0, 0)) :: H, (100150, ⟨.slice A338 l337.length c339, 40, 6, l337.length, l337.flatMap GItem.enc⟩) :: (100151, ⟨.slice A303 x298.fconns.length c304, 63, 3, x298.fconns.length, x298.fconns.flatMap Gnet_conn.enc⟩) :: R, φ⟩ (fun _ h => h) <| d_then <| c_seq <| c_seq <| c_region <| g_v rfl r_assign <| g_nil <| d_then ?_
   refine c_cut (ι := Unit) [] (fun _ => []) (fun _ => ⟨w0, M, H, R, φ⟩) (fun _ => m_law08_NetLost_j3 = some r) ?_ (fun _ u hm => ?_)
   ·
    refine c_block ?_
    replace hm := bnd hm
    obtain ⟨out4, hl4, hr4⟩ := hm
    obtain ⟨n431', hl4⟩ := loop_lp hl4
    refine c_loopU (ι := Nat × (List GItem) × Int × Option Addr × Nat) [5, 6, 9, 11] (fun ⟨n431, l406, i409, A407, c408⟩ => [(11, .int .i64 i409)]) (fun ⟨n431, l406, i409, A407, c408⟩ => ⟨w0, M, (100155, g11, .cells #[.slice A407 l406.length c408, .slice A303 x298.fconns.length c304, .int .i64 x298.flast, .int .i64 i294] 61 (0, 0)) :: H, (100150, ⟨.slice A407 l406.length c408, 40, 6, l406.length, l406.flatMap GItem.enc⟩) :: (100151, ⟨.slice A303 x298.fconns.length c304, 63, 3, x298.fconns.length, x298.fconns.flatMap Gnet_conn.enc⟩) :: R, φ⟩) (fun ⟨n431, l406, i409, A407, c408⟩ => Lp (fun s => m_law08_NetLost_s4 x298 i294 x295 x1 s.1 s.2) n431 (l406, i409) out4 ∧ l406.length ≤ c408) (fun ⟨n431, l406, i409, A407, c408⟩ => n431) (n431', l337, 0, A338, c339) ⟨hl4, hc339⟩ ⟨rfl, rfl, rfl, rfl, trivial⟩ (fun W h => h.phi (fun W hφ => hφ)) (fun ⟨n431, l406, i409, A407, c408⟩ u ⟨hlp, hc408⟩ => ?_)
    obtain ⟨o4, hm, hnx4⟩ := lp_step hlp
    clear hlp
    replace hm : m_law08_NetLost_s4 x298 i294 x295 x1 l406 i409 = some o4 := hm
    unfold m_law08_NetLost_s4 at hm
    refine c_flat [(5, .bool x1), (6, .pointer (some ⟨g11, 0, none⟩)), (9, .int .i64 x295), (11, .int .i64 i409)] ⟨rfl, rfl, rfl, rfl, trivial⟩ (fun u => ?_)
    refine c_sta ⟨w0, M, (100155, g11, .cells #[.slice A407 l406.length c408, .slice A303 x298.fconns.length c304, .int .i64 x298.flast, .int .i64 i294] 61 (0, 0)) :: H, (100150, ⟨.slice A407 l406.length c408, 40, 6, l406.length, l406.flatMap GItem.enc⟩) :: (100151, ⟨.slice A303 x298.fconns.length c304, 63, 3, x298.fconns.length, x298.fconns.flatMap Gnet_conn.enc⟩) :: R, φ⟩ (fun _ h => h) <| c_seq <| c_seq <| c_region <| g_v rfl r_move <| g_v rfl (r_lss rfl rfl) <| g_nil <| d_then ?_
    refine c_cond rfl (fun h432 => ?_) (fun h432 => ?_)
    ·
     replace hm := ite_t hm (of_decide_eq_true h432)
     refine c_skip <| d_then <| c_seq <| c_block <| c_seq <| c_region <| g_v rfl r_move <| g_v rfl r_move ?_
     replace hm := bnd hm
     obtain ⟨⟨x433, x434, x435⟩, hx436, hm⟩ := hm
     refine g_cn ⟨w0, M, (1000, g11, .cells #[.slice A407 l406.length c408, .slice A303 x298.fconns.length c304, .int .i64 x298.flast, .int .i64 i294] 61 (0, 0)) :: H, (1000, ⟨.slice A407 l406.length c408, 40, 6, l406.length, l406.flatMap GItem.enc⟩) :: (1001, ⟨.slice A303 x298.fconns.length c304, 63, 3, x298.fconns.length, x298.fconns.flatMap Gnet_conn.enc⟩) :: R, φ⟩ (fun W h => (ok_front (t := 100155) (t' := 1000) (ok_frontR (t := 100150) (t' := 1000) (ok_frontR (t := 100151) (t' := 1001) h rfl) rfl) rfl)) Try.call17 rfl rfl (c_net_Net_Take i409 g11 (⟨l406, x298.fconns, x298.flast, i294⟩ : Gnet_Net) A407 c408 hc408 A303 c304 hc304 _ hx436) (fun ⟨A437, c438⟩ hc438 => ?_)
     refine g_sta _ (fun W h => (ok_frontR (t := 2000) (t' := 100150) (ok_frontR (t := 1001) (t' := 100151) (ok_front (t := 1000) (t' := 100155) h rfl) rfl) rfl)) <| g_v rfl r_move <| g_v rfl (r_extract rfl rfl) <| g_v rfl (r_extract rfl rfl) ?_
     refine g_e rfl (e_alloc 100120 Try.zeroValue40) (fun g441 _ => ?_)
     refine g_storeL (tag := 100120) rfl rfl rfl rfl Try.sizeOf40 rfl rfl <| g_v rfl r_assign <| g_nil <| d_then ?_
     refine c_flat [(5, .bool x1), (6, .pointer (some ⟨g11, 0, none⟩)), (9, .int .i64 x295), (11, .int .i64 i409), (12, .pointer (some ⟨g441, 0, none⟩)), (13, .bool x434)] ⟨rfl, rfl, rfl, rfl, rfl, rfl, trivial⟩ (fun u => ?_)
     refine c_sta ⟨w0, M, (100120, g441, .cells #[.int .i64 x433.fNumber, .int .i64 x433.fKind, .int .i64 x433.fFrom, .int .i64 x433.fTo, .int .i64 x433.fConn, .string x433.fBody] 40 (0, 0)) :: (100155, g11, .cells #[.slice A437 x435.fitems.length c438, .slice A303 x298.fconns.length c304, .int .i64 x298.flast, .int .i64 i294] 61 (0, 0)) :: H, (100150, ⟨.slice A437 x435.fitems.length c438, 40, 6, x435.fitems.length, x435.fitems.flatMap GItem.enc⟩) :: (100151, ⟨.slice A303 x298.fconns.length c304, 63, 3, x298.fconns.length, x298.fconns.flatMap Gnet_conn.enc⟩) :: R, φ⟩ (fun _ h => h) <| c_seq <| c_seq <| c_region <| g_v rfl r_move <| g_v rfl (r_not rfl) <| g_nil <| d_then ?_
     refine c_cond rfl (fun h442 => ?_) (fun h442 => ?_)
     ·
      have h442' : x434 = false := by revert h442; cases x434 <;> simp
      replace hm := ite_f hm (bool_nt h442')
      refine c_seq <| c_region <| g_v rfl r_move <| g_v rfl r_move ?_
      refine g_if rfl rfl rfl rfl rfl (fun h443 => ?_) (fun h443 => ?_)
      ·
       replace hm := ite_t hm h443
       refine g_v rfl r_move <| g_do rfl rfl rfl rfl rfl h443 ?_
       replace hm := bnd hm
       obtain ⟨x444, hx445, hm⟩ := hm
       refine g_cn ⟨w0, M, (1000, g11, .cells #[.slice A437 x435.fitems.length c438, .slice A303 x298.fconns.length c304, .int .i64 x298.flast, .int .i64 i294] 61 (0, 0)) :: (100120, g441, .cells #[.int .i64 x433.fNumber, .int .i64 x433.fKind, .int .i64 x433.fFrom, .int .i64 x433.fTo, .int .i64 x433.fConn, .string x433.fBody] 40 (0, 0)) :: H, (1000, ⟨.slice A437 x435.fitems.length c438, 40, 6, x435.fitems.length, x435.fitems.flatMap GItem.enc⟩) :: (1001, ⟨.slice A303 x298.fconns.length c304, 63, 3, x298.fconns.length, x298.fconns.flatMap Gnet_conn.enc⟩) :: R, φ⟩ (fun W h => (ok_front (t := 100155) (t' := 1000) (ok_frontR (t := 100150) (t' := 1000) (ok_frontR (t := 100151) (t' := 1001) h rfl) rfl) rfl)) Try.call18 rfl rfl (c_net_Net_Waits g11 (⟨x435.fitems, x298.fconns, x298.flast, i294⟩ : Gnet_Net) A437 c438 hc438 A303 c304 hc304 _ hx445) (fun _ _ => ?_)
       refine g_sta _ (fun W h => (ok_frontR (t := 1000) (t' := 100150) (ok_frontR (t := 1001) (t' := 100151) (ok_front (t := 1000) (t' := 100155) h rfl) rfl) rfl)) <| g_do rfl rfl rfl rfl rfl h443 <| g_v rfl (r_eql rfl rfl) <| g_v rfl (r_pick1 rfl h443) <| g_v rfl r_assign <| g_nil <| d_then ?_
       refine c_flat [(4, .bool (decide (x444 = 0)))] ⟨rfl, trivial⟩ (fun u => ?_)
       refine c_sta ⟨w0, M, (100155, g11, .cells #[.slice A437 x435.fitems.length c438, .slice A303 x298.fconns.length c304, .int .i64 x298.flast, .int .i64 i294] 61 (0, 0)) :: (100120, g441, .cells #[.int .i64 x433.fNumber, .int .i64 x433.fKind, .int .i64 x433.fFrom, .int .i64 x433.fTo, .int .i64 x433.fConn, .string x433.fBody] 40 (0, 0)) :: H, (100150, ⟨.slice A437 x435.fitems.length c438, 40, 6, x435.fitems.length, x435.fitems.flatMap GItem.enc⟩) :: (100151, ⟨.slice A303 x298.fconns.length c304, 63, 3, x298.fconns.length, x298.fconns.flatMap Gnet_conn.enc⟩) :: R, φ⟩ (fun _ h => h) <| c_ret <| d_ret_then <| d_ret_block <| d_ret_then <| d_ret_then <| d_ret_block <| d_ret_then <| d_ret_then ?_
       replace hm := nx_out (C := (fun e => Sum.elim (fun e => m_law08_NetLost_j3) (fun x => some x) e = some r)) hm hnx4 hr4
       replace hm : some (decide (x444 = 0)) = some r := hm
       replace hm := Option.some.inj hm
       subst hm
       refine d_retC () Try.results6 ?_ trivial (fun W h => ok_pre (H1 := [_, _]) (R1 := [_, _]) h (fun W hφ => hφ)) (.inr rfl)
       refine res_tmp <| res_nil ?_
       exact rfl
      ·
       replace hm := ite_f hm (bool_nt h443)
       refine g_no rfl rfl rfl rfl rfl h443 <| g_no rfl rfl rfl rfl rfl h443 <| g_v rfl (r_pick0 rfl h443) <| g_v rfl r_assign <| g_nil <| d_then <| c_ret <| d_ret_then <| d_ret_block <| d_ret_then ?_
       refine d_ret_then <| d_ret_block <| d_ret_then <| d_ret_then ?_
       replace hm := nx_out (C := (fun e => Sum.elim (fun e => m_law08_NetLost_j3) (fun x => some x) e = some r)) hm hnx4 hr4
       replace hm : some false = some r := hm
       replace hm := Option.some.inj hm
       subst hm
       refine d_retC () Try.results6 ?_ trivial (fun W h => ok_pre (H1 := [_, _]) (R1 := [_, _]) h (fun W hφ => hφ)) (.inr rfl)
       refine res_tmp <| res_nil ?_
       exact rfl
     ·
      have h442' : x434 = true := by revert h442; cases x434 <;> simp
      replace hm := ite_t hm h442'
      refine c_skip <| d_then <| c_seq <| c_region <| g_v rfl (r_field (n := 1) Try.underlying40 rfl Try.sizeOf3 rfl rfl) <| g_v rfl (r_load (tag := 100120) rfl rfl rfl Try.isAgg3) <| g_v rfl (r_eql rfl rfl) <| g_v rfl r_move ?_
      refine g_if rfl rfl rfl rfl rfl (fun h446 => ?_) (fun h446 => ?_)
      ·
       replace hm := ite_f hm (of_decide_eq_false h446)
       refine g_v rfl (r_field (n := 3) Try.underlying40 rfl Try.sizeOf3 rfl rfl) <| g_do rfl rfl rfl rfl rfl h446 <| g_v rfl (r_load (tag := 100120) rfl rfl rfl Try.isAgg3) <| g_do rfl rfl rfl rfl rfl h446 <| g_v rfl r_move <| g_do rfl rfl rfl rfl rfl h446 <| g_v rfl (r_eql rfl rfl) <| g_v rfl (r_pick0 rfl h446) <| g_v rfl r_move ?_
       refine g_if rfl rfl rfl rfl rfl (fun h447 => ?_) (fun h447 => ?_)
       ·
        replace hm := ite_f hm (of_decide_eq_false h447)
        refine g_v rfl (r_field (n := 2) Try.underlying40 rfl Try.sizeOf3 rfl rfl) <| g_do rfl rfl rfl rfl rfl h447 <| g_v rfl (r_load (tag := 100120) rfl rfl rfl Try.isAgg3) <| g_do rfl rfl rfl rfl rfl h447 <| g_v rfl r_move <| g_do rfl rfl rfl rfl rfl h447 <| g_v rfl (r_eql rfl rfl) <| g_do rfl rfl rfl rfl rfl h447 <| g_v rfl (r_field (n := 1) Try.underlying40 rfl Try.sizeOf3 rfl rfl) <| g_do rfl rfl rfl rfl rfl h447 ?_
        refine g_v rfl (r_load (tag := 100120) rfl rfl rfl Try.isAgg3) <| g_do rfl rfl rfl rfl rfl h447 <| g_v rfl (r_eql rfl rfl) <| g_do rfl rfl rfl rfl rfl h447 <| g_v rfl (r_neqBo Try.underlying4 rfl rfl) <| g_v rfl (r_pick0 rfl h447) <| g_nil <| d_then ?_
        refine c_flat [(5, .bool x1), (6, .pointer (some ⟨g11, 0, none⟩)), (9, .int .i64 x295), (11, .int .i64 i409), (118, .bool (!((decide (x433.fFrom = x295)) == (decide (x433.fKind = 4)))))] ⟨rfl, rfl, rfl, rfl, rfl, trivial⟩ (fun u => ?_)
        refine c_cond rfl (fun h448 => ?_) (fun h448 => ?_)
        ·
         replace hm := ite_t hm h448
         refine c_seq <| c_region <| g_v rfl r_assign <| g_nil <| d_then <| c_ret <| d_ret_block <| d_ret_then <| d_ret_then <| d_ret_block ?_
         refine d_ret_then <| d_ret_then ?_
         replace hm := nx_out (C := (fun e => Sum.elim (fun e => m_law08_NetLost_j3) (fun x => some x) e = some r)) hm hnx4 hr4
         replace hm : some false = some r := hm
         replace hm := Option.some.inj hm
         subst hm
         refine d_retC () Try.results6 ?_ trivial (fun W h => ok_pre (H1 := [_, _]) (R1 := [_, _]) h (fun W hφ => hφ)) (.inr rfl)
         refine res_tmp <| res_nil ?_
         exact rfl
        ·
         replace hm := ite_f hm (bool_nt h448)
         refine c_skip <| d_normal_block <| d_then <| c_region <| g_v rfl r_move <| g_v rfl (r_add rfl rfl rfl) <| g_v rfl r_assign <| g_nil ?_
         obtain ⟨n449, hn449, hlp⟩ := nx_inl hm hnx4
         exact d_round (n449, x435.fitems, w64 (i409 + 1), A437, c438) ⟨hlp, hc438⟩ hn449 ⟨rfl, rfl, rfl, rfl, trivial⟩ (fun W h => (h.dropH (t := 100120) rfl).phi (fun W hφ => hφ))
       ·
        replace hm := ite_t hm (of_decide_eq_true h447)
        refine g_no rfl rfl rfl rfl rfl h447 <| g_no rfl rfl rfl rfl rfl h447 <| g_no rfl rfl rfl rfl rfl h447 <| g_no rfl rfl rfl rfl rfl h447 <| g_no rfl rfl rfl rfl rfl h447 <| g_no rfl rfl rfl rfl rfl h447 <| g_no rfl rfl rfl rfl rfl h447 <| g_v rfl (r_pick1 rfl h447) <| g_nil <| d_then ?_
        refine c_flat [(5, .bool x1), (6, .pointer (some ⟨g11, 0, none⟩)), (9, .int .i64 x295), (11, .int .i64 i409), (118, .bool true)] ⟨rfl, rfl, rfl, rfl, rfl, trivial⟩ (fun u => ?_)
        refine c_cond1 rfl rfl <| c_seq <| c_region <| g_v rfl r_assign <| g_nil <| d_then <| c_ret <| d_ret_block <| d_ret_then <| d_ret_then ?_
        refine d_ret_block <| d_ret_then <| d_ret_then ?_
        replace hm := nx_out (C := (fun e => Sum.elim (fun e => m_law08_NetLost_j3) (fun x => some x) e = some r)) hm hnx4 hr4
        replace hm : some false = some r := hm
        replace hm := Option.some.inj hm
        subst hm
        refine d_retC () Try.results6 ?_ trivial (fun W h => ok_pre (H1 := [_, _]) (R1 := [_, _]) h (fun W hφ => hφ)) (.inr rfl)
        refine res_tmp <| res_nil ?_
        exact rfl
      ·
       replace hm := ite_t hm (of_decide_eq_true h446)
       refine g_no rfl rfl rfl rfl rfl h446 <| g_no rfl rfl rfl rfl rfl h446 <| g_no rfl rfl rfl rfl rfl h446 <| g_v rfl (r_pick1 rfl h446) <| g_v rfl r_move <| g_no rfl rfl rfl rfl rfl rfl <| g_no rfl rfl rfl rfl rfl rfl <| g_no rfl rfl rfl rfl rfl rfl <| g_no rfl rfl rfl rfl rfl rfl <| g_no rfl rfl rfl rfl rfl rfl ?_
       refine g_no rfl rfl rfl rfl rfl rfl <| g_no rfl rfl rfl rfl rfl rfl <| g_no rfl rfl rfl rfl rfl rfl <| g_v rfl (r_pick1 rfl rfl) <| g_nil <| d_then ?_
       refine c_flat [(5, .bool x1), (6, .pointer (some ⟨g11, 0, none⟩)), (9, .int .i64 x295), (11, .int .i64 i409), (118, .bool true)] ⟨rfl, rfl, rfl, rfl, rfl, trivial⟩ (fun u => ?_)
       refine c_cond1 rfl rfl <| c_seq <| c_region <| g_v rfl r_assign <| g_nil <| d_then <| c_ret <| d_ret_block <| d_ret_then <| d_ret_then ?_
       refine d_ret_block <| d_ret_then <| d_ret_then ?_
       replace hm := nx_out (C := (fun e => Sum.elim (fun e => m_law08_NetLost_j3) (fun x => some x) e = some r)) hm hnx4 hr4
       replace hm : some false = some r := hm
       replace hm := Option.some.inj hm
       subst hm
       refine d_retC () Try.results6 ?_ trivial (fun W h => ok_pre (H1 := [_, _]) (R1 := [_, _]) h (fun W hφ => hφ)) (.inr rfl)
       refine res_tmp <| res_nil ?_
       exact rfl
    ·
     replace hm := ite_f hm (of_decide_eq_false h432)
     refine c_exit <| d_exit_then <| d_exit_then <| d_exit_block ?_
     replace hm := nx_out (C := (fun e => Sum.elim (fun e => m_law08_NetLost_j3) (fun x => some x) e = some r)) hm hnx4 hr4
     exact d_round () hm Nat.zero_lt_one trivial (fun W h => (((h.dropR (t := 100150) rfl).dropR (t := 100151) rfl).dropH (t := 100155) rfl).phi (fun W hφ => hφ))
   ·
    unfold m_law08_NetLost_j3 at hm
    refine d_flat [] trivial (fun u => ?_)
    refine d_sta ⟨w0, M, H, R, φ⟩ (fun _ h => h) <| d_then <| c_seq <| c_region <| g_v rfl r_assign <| g_nil <| d_then <| c_ret ?_
    replace hm := Option.some.inj hm
    subst hm
    refine d_retC () Try.results6 ?_ trivial (fun W h => ok_pre (H1 := []) (R1 := []) h (fun W hφ => hφ)) (.inr rfl)
    refine res_tmp <| res_nil ?_
    exact rfl
end Go.Proofs.Ythajfodilodhaaa
