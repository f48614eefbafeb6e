import Derived.Test.YthajfodilodhaaaWDFA
set_option maxRecDepth 100000
set_option maxHeartbeats 4000000
set_option linter.unusedVariables false
set_option linter.unusedSimpArgs false
namespace Go.Proofs.Ythajfodilodhaaa
open Go.RowKit Go.Proofs.YthajfodilodhaaaW.PrintLast
noncomputable def m_slices_IndexFunc_54_2_j1  : Option Int :=
  some (-1)
noncomputable def m_slices_IndexFunc_54_2_s2 (p0 : List GItem) (o0 : Int) (i30 : Int) : Option (Int ⊕ (Unit ⊕ Int)) :=
  if i30 < (p0.length : Int) then
    (at_ p0 i30).bind fun x42 =>
    (m_net_Net_Lose_c1 x42 o0).bind fun x46 =>
    if x46 = true then
      some (.inr (.inr i30))
    else
      some (.inl (w64 (i30 + 1)))
  else
    some (.inr (.inl ()))
noncomputable def m_slices_IndexFunc_54_2 (p0 : List GItem) (o0 : Int) : Option Int :=
  (loop (fun s => m_slices_IndexFunc_54_2_s2 p0 o0 s) 0).bind fun e => Sum.elim (fun e => m_slices_IndexFunc_54_2_j1) (fun x => some x) e
theorem c_slices_IndexFunc_54_2 {w0 : World} {M : Nat → Prop} {H : List (Nat × Nat × Obj)} {R : List (Nat × Row)} {φ : World → Prop} (p0 : List GItem) (Ap0_0 : Option Addr) (cp0_0 : Nat) (hcp0_0 : p0.length ≤ cp0_0) (fp0_0 : ∀ W, (Sta.mk w0 M H R φ).ok W → Cl W Ap0_0 (p0.flatMap GItem.enc)) (go0 : Nat) (o0 : Int) (r : Int) (hm : m_slices_IndexFunc_54_2 p0 o0 = some r) :
    Cn Try.prog 54 #[.slice Ap0_0 p0.length cp0_0, .func (.func 38) #[] #[.pointer (some ⟨go0, 0, none⟩)]] ⟨w0, M, (1000, go0, .cells #[.int .i64 o0] 3 (0, 0)) :: H, R, φ⟩ (fun x : Unit => .int .i64 r) (fun x => True) (fun x => ⟨w0, M, (1000, go0, .cells #[.int .i64 o0] 3 (0, 0)) :: H, R, φ⟩) := by
 unfold m_slices_IndexFunc_54_2 at hm
 refine cn_intro (fn := Try.f54) (N := 19) Try.func54 rfl Try.ntmps54 rfl <| c_seq <| c_region <| g_v rfl r_assign <| g_nil <| d_then <| c_seq <| c_seq <| c_region <| g_v rfl r_move ?_
 refine g_v rfl (r_lenL Try.underlying52 rfl) <| g_v rfl r_move <| g_nil <| d_then ?_
 refine c_cut (ι := Unit) [] (fun _ => []) (fun _ => ⟨w0, M, (1000, go0, .cells #[.int .i64 o0] 3 (0, 0)) :: H, R, φ⟩) (fun _ => m_slices_IndexFunc_54_2_j1 = some r) ?_ (fun _ u hm => ?_)
 ·
  refine c_block ?_
  replace hm := bnd hm
  obtain ⟨out2, hl2, hr2⟩ := hm
  obtain ⟨n40', hl2⟩ := loop_lp hl2
  refine c_loopU (ι := Nat × Int) [0, 1, 7, 8] (fun ⟨n40, i30⟩ => [(8, .int .i64 i30)]) (fun ⟨n40, i30⟩ => ⟨w0, M, (1000, go0, .cells #[.int .i64 o0] 3 (0, 0)) :: H, R, φ⟩) (fun ⟨n40, i30⟩ => Lp (fun s => m_slices_IndexFunc_54_2_s2 p0 o0 s) n40 i30 out2) (fun ⟨n40, i30⟩ => n40) (n40', 0) hl2 ⟨rfl, rfl, rfl, rfl, trivial⟩ (fun W h => h.phi (fun W hφ => hφ)) (fun ⟨n40, i30⟩ u hlp => ?_)
  obtain ⟨o2, hm, hnx2⟩ := lp_step hlp
  clear hlp
  replace hm : m_slices_IndexFunc_54_2_s2 p0 o0 i30 = some o2 := hm
  unfold m_slices_IndexFunc_54_2_s2 at hm
  refine c_flat [(0, .slice Ap0_0 p0.length cp0_0), (1, .func (.func 38) #[] #[.pointer (some ⟨go0, 0, none⟩)]), (7, .int .i64 (p0.length : Int)), (8, .int .i64 i30)] ⟨rfl, rfl, rfl, rfl, trivial⟩ (fun u => ?_)
  refine c_sta ⟨w0, M, (1000, go0, .cells #[.int .i64 o0] 3 (0, 0)) :: H, R, φ⟩ (fun _ h => h) <| c_seq <| c_region <| g_v rfl (r_lss rfl rfl) <| g_nil <| d_then <| c_seq ?_
  refine c_cond rfl (fun h41 => ?_) (fun h41 => ?_)
  ·
   replace hm := ite_t hm (of_decide_eq_true h41)
   refine c_skip <| d_then <| c_seq <| c_block <| c_seq <| c_region <| g_v rfl r_move <| g_v rfl r_assign <| g_nil <| d_then ?_
   refine c_seq <| c_region <| g_v rfl r_move <| g_v rfl r_move <| g_v rfl r_move ?_
   replace hm := bnd hm
   obtain ⟨x42, hx42, hm⟩ := hm
   refine g_know _ (fun W hS => cl_at (p := (Sta.mk w0 M H R φ).ok) (sz := 6) (fun _ => rfl) (by decide) (ok_pre (H1 := [_]) (R1 := []) hS (fun W h => h)) fp0_0 hx42) ?_
   rintro ⟨ad43, hA45, f44⟩
   refine g_v rfl (r_ix Try.underlying52 Try.sizeOf40 rfl hA45 rfl hx42) <| g_v rfl (r_ldA rfl Try.isAgg40 Try.sizeOf40 (fun W hS => (f44 W (ok_pre (H1 := [_]) (R1 := []) hS (fun W h => h))).take 6) rfl) ?_
   replace hm := bnd hm
   obtain ⟨x46, hx47, hm⟩ := hm
   refine g_cnv ⟨w0, M, (1000, go0, .cells #[.int .i64 o0] 3 (0, 0)) :: H, R, φ⟩ (fun W h => (ok_front (t := 1000) (t' := 1000) h rfl)) Try.call38 rfl rfl rfl (c_net_Net_Lose_c1 x42 go0 o0 _ hx47) (fun _ _ => ?_)
   refine g_sta _ (fun W h => (ok_front (t := 1000) (t' := 1000) h rfl)) <| g_nil <| d_then ?_
   refine c_flat [(0, .slice Ap0_0 p0.length cp0_0), (1, .func (.func 38) #[] #[.pointer (some ⟨go0, 0, none⟩)]), (5, .int .i64 i30), (7, .int .i64 (p0.length : Int)), (8, .int .i64 i30), (16, .bool x46)] ⟨rfl, rfl, rfl, rfl, rfl, rfl, trivial⟩ (fun u => ?_)
   refine c_cond rfl (fun h48 => ?_) (fun h48 => ?_)
   ·
    replace hm := ite_t hm h48
    refine c_seq <| c_region <| g_v rfl r_move <| g_v rfl r_assign <| g_nil <| d_then <| c_ret <| d_ret_block <| d_ret_then <| d_ret_then ?_
    refine d_ret_block <| d_ret_then <| d_ret_then ?_
    replace hm := nx_out (C := (fun e => Sum.elim (fun e => m_slices_IndexFunc_54_2_j1) (fun x => some x) e = some r)) hm hnx2 hr2
    replace hm : some i30 = some r := hm
    replace hm := Option.some.inj hm
    subst hm
    refine d_retC () Try.results54 ?_ trivial (fun W h => h.phi (fun W hφ => hφ)) (.inr rfl)
    refine res_tmp <| res_nil ?_
    exact rfl
   ·
    replace hm := ite_f hm (bool_nt h48)
    refine c_skip <| d_normal_block <| d_then <| c_region <| g_v rfl (r_add rfl rfl rfl) <| g_v rfl r_move <| g_nil ?_
    obtain ⟨n49, hn49, hlp⟩ := nx_inl hm hnx2
    exact d_round (n49, w64 (i30 + 1)) hlp hn49 ⟨rfl, rfl, rfl, rfl, trivial⟩ (fun W h => h.phi (fun W hφ => hφ))
  ·
   replace hm := ite_f hm (of_decide_eq_false h41)
   refine c_exit <| d_exit_then <| d_exit_then <| d_exit_block ?_
   replace hm := nx_out (C := (fun e => Sum.elim (fun e => m_slices_IndexFunc_54_2_j1) (fun x => some x) e = some r)) hm hnx2 hr2
   exact d_round () hm Nat.zero_lt_one trivial (fun W h => h.phi (fun W hφ => hφ))
 ·
  unfold m_slices_IndexFunc_54_2_j1 at hm
  refine d_flat [] trivial (fun u => ?_)
  refine d_sta ⟨w0, M, (1000, go0, .cells #[.int .i64 o0] 3 (0, 0)) :: H, R, φ⟩ (fun _ h => h) <| d_then <| c_seq <| c_region <| g_v rfl r_assign <| g_nil <| d_then <| c_ret ?_
  replace hm := Option.some.inj hm
  subst hm
  refine d_retC () Try.results54 ?_ trivial (fun W h => h.phi (fun W hφ => hφ)) (.inr rfl)
  refine res_tmp <| res_nil ?_
  exact rfl
noncomputable def m_slices_DeleteFunc_31_2_j1  (l49 : List GItem) (i52 : Int) : Option (List GItem) :=
  (cutLo l49 i52).bind fun l53 =>
  (cutHi l49 i52).bind fun l54 =>
  some l54
noncomputable def m_slices_DeleteFunc_31_2_s2 (o0 : Int) (l75 : List GItem) (i78 : Int) (i79 : Int) : Option (((List GItem) × Int × Int) ⊕ ((List GItem) × Int)) :=
  if i79 < (l75.length : Int) then
    (at_ l75 i79).bind fun x101 =>
    (m_net_Net_Lose_c1 x101 o0).bind fun x106 =>
    if x106 = true then
      some (.inl (l75, i78, w64 (i79 + 1)))
    else
      (at_ l75 i78).bind fun x109 =>
      (setAt l75 i78 x101).bind fun l113 =>
      some (.inl (l113, w64 (i78 + 1), w64 (i79 + 1)))
  else
    some (.inr (l75, i78))
noncomputable def m_slices_DeleteFunc_31_2 (p0 : List GItem) (o0 : Int) : Option (List GItem) :=
  (m_slices_IndexFunc_54_2 p0 o0).bind fun x1 =>
  if x1 = (-1) then
    some p0
  else
    (loop (fun s => m_slices_DeleteFunc_31_2_s2 o0 s.1 s.2.1 s.2.2) (p0, x1, w64 (x1 + 1))).bind fun e => m_slices_DeleteFunc_31_2_j1 e.1 e.2
theorem c_slices_DeleteFunc_31_2 {w0 : World} {M : Nat → Prop} {H : List (Nat × Nat × Obj)} {R : List (Nat × Row)} {φ : World → Prop} (p0 : List GItem) (Ap0_0 : Option Addr) (cp0_0 : Nat) (hcp0_0 : p0.length ≤ cp0_0) (go0 : Nat) (o0 : Int) (r : (List GItem)) (hm : m_slices_DeleteFunc_31_2 p0 o0 = some r) :
    Cn Try.prog 31 #[.slice Ap0_0 p0.length cp0_0, .func (.func 38) #[] #[.pointer (some ⟨go0, 0, none⟩)]] ⟨w0, M, (1000, go0, .cells #[.int .i64 o0] 3 (0, 0)) :: H, (1000, ⟨.slice Ap0_0 p0.length cp0_0, 40, 6, p0.length, p0.flatMap GItem.enc⟩) :: R, φ⟩ (fun x : Option Addr × Nat => .slice x.1 r.length x.2) (fun x => r.length ≤ x.2) (fun x => ⟨w0, M, (1000, go0, .cells #[.int .i64 o0] 3 (0, 0)) :: H, (2000, ⟨.slice x.1 r.length x.2, 40, 6, r.length, r.flatMap GItem.enc⟩) :: R, φ⟩) := by
 unfold m_slices_DeleteFunc_31_2 at hm
 refine cn_intro (fn := Try.f31) (N := 42) Try.func31 rfl Try.ntmps31 rfl <| c_seq <| c_region <| g_v rfl r_assign <| g_nil <| d_then <| c_seq <| c_region <| g_v rfl r_move <| g_v rfl r_move ?_
 replace hm := bnd hm
 obtain ⟨x1, hx2, hm⟩ := hm
 refine g_cn ⟨w0, M, (1000, go0, .cells #[.int .i64 o0] 3 (0, 0)) :: H, (1000, ⟨.slice Ap0_0 p0.length cp0_0, 40, 6, p0.length, p0.flatMap GItem.enc⟩) :: R, φ⟩ (fun W h => (ok_front (t := 1000) (t' := 1000) h rfl)) Try.call54 rfl rfl (c_slices_IndexFunc_54_2 p0 Ap0_0 cp0_0 hcp0_0 (fun W hS => rowCl (tag := 1000) rfl W hS) go0 o0 _ hx2) (fun _ _ => ?_)
 refine g_sta _ (fun W h => (ok_front (t := 1000) (t' := 1000) h rfl)) <| g_v rfl r_assign <| g_nil <| d_then <| c_seq <| c_seq <| c_region <| g_v rfl r_move <| g_v rfl (r_eql rfl rfl) <| g_nil ?_
 refine d_then ?_
 refine c_cond rfl (fun h3 => ?_) (fun h3 => ?_)
 ·
  replace hm := ite_t hm (of_decide_eq_true h3)
  refine c_seq <| c_region <| g_v rfl r_move <| g_v rfl r_assign <| g_nil <| d_then ?_
  refine c_flat [(4, .slice Ap0_0 p0.length cp0_0)] ⟨rfl, trivial⟩ (fun u => ?_)
  refine c_sta ⟨w0, M, (1000, go0, .cells #[.int .i64 o0] 3 (0, 0)) :: H, (1000, ⟨.slice Ap0_0 p0.length cp0_0, 40, 6, p0.length, p0.flatMap GItem.enc⟩) :: R, φ⟩ (fun _ h => h) <| c_ret <| d_ret_then ?_
  replace hm := Option.some.inj hm
  subst hm
  refine d_sta _ (fun W h => ok_frontR (t := 1000) (t' := 2000) h rfl) ?_
  refine d_retC (Ap0_0, cp0_0) Try.results31 ?_ hcp0_0 (fun W h => h.phi (fun W hφ => hφ)) (.inr rfl)
  refine res_tmp <| res_nil ?_
  exact rfl
 ·
  replace hm := ite_f hm (of_decide_eq_false h3)
  refine c_skip <| d_then <| c_seq <| c_seq <| c_region <| g_v rfl r_move <| g_v rfl (r_add rfl rfl rfl) <| g_v rfl r_assign <| g_nil <| d_then ?_
  refine c_flat [(0, .slice Ap0_0 p0.length cp0_0), (1, .func (.func 38) #[] #[.pointer (some ⟨go0, 0, none⟩)]), (5, .int .i64 x1), (6, .int .i64 (w64 (x1 + 1)))] ⟨rfl, rfl, rfl, rfl, trivial⟩ (fun u => ?_)
  refine c_sta ⟨w0, M, (1000, go0, .cells #[.int .i64 o0] 3 (0, 0)) :: H, (1000, ⟨.slice Ap0_0 p0.length cp0_0, 40, 6, p0.length, p0.flatMap GItem.enc⟩) :: R, φ⟩ (fun _ h => h) ?_
  refine c_cut (ι := (List GItem) × Int) [0, 5] (fun ⟨l49, i52⟩ => [(0, .slice Ap0_0 l49.length cp0_0), (5, .int .i64 i52)]) (fun ⟨l49, i52⟩ => ⟨w0, M, (1000, go0, .cells #[.int .i64 o0] 3 (0, 0)) :: H, (1000, ⟨.slice Ap0_0 l49.length cp0_0, 40, 6, l49.length, l49.flatMap GItem.enc⟩) :: R, φ⟩) (fun ⟨l49, i52⟩ => m_slices_DeleteFunc_31_2_j1 l49 i52 = some r ∧ (l49.length ≤ cp0_0 ∧ l49.length = p0.length)) ?_ (fun ⟨l49, i52⟩ u ⟨hm, hl49⟩ => ?_)
  ·
   refine c_block ?_
   replace hm := bnd hm
   obtain ⟨out2, hl2, hr2⟩ := hm
   obtain ⟨n99', hl2⟩ := loop_lp hl2
   refine c_loopU (ι := Nat × (List GItem) × Int × Int) [0, 1, 5, 6] (fun ⟨n99, l75, i78, i79⟩ => [(0, .slice Ap0_0 l75.length cp0_0), (5, .int .i64 i78), (6, .int .i64 i79)]) (fun ⟨n99, l75, i78, i79⟩ => ⟨w0, M, (1000, go0, .cells #[.int .i64 o0] 3 (0, 0)) :: H, (1000, ⟨.slice Ap0_0 l75.length cp0_0, 40, 6, l75.length, l75.flatMap GItem.enc⟩) :: R, φ⟩) (fun ⟨n99, l75, i78, i79⟩ => Lp (fun s => m_slices_DeleteFunc_31_2_s2 o0 s.1 s.2.1 s.2.2) n99 (l75, i78, i79) out2 ∧ (l75.length ≤ cp0_0 ∧ l75.length = p0.length)) (fun ⟨n99, l75, i78, i79⟩ => n99) (n99', p0, x1, w64 (x1 + 1)) ⟨hl2, ⟨hcp0_0, rfl⟩⟩ ⟨rfl, rfl, rfl, rfl, trivial⟩ (fun W h => h.phi (fun W hφ => hφ)) (fun ⟨n99, l75, i78, i79⟩ u ⟨hlp, hl75⟩ => ?_)
   obtain ⟨o2, hm, hnx2⟩ := lp_step hlp
   clear hlp
   replace hm : m_slices_DeleteFunc_31_2_s2 o0 l75 i78 i79 = some o2 := hm
   unfold m_slices_DeleteFunc_31_2_s2 at hm
   refine c_flat [(0, .slice Ap0_0 l75.length cp0_0), (1, .func (.func 38) #[] #[.pointer (some ⟨go0, 0, none⟩)]), (5, .int .i64 i78), (6, .int .i64 i79)] ⟨rfl, rfl, rfl, rfl, trivial⟩ (fun u => ?_)
   refine c_sta ⟨w0, M, (1000, go0, .cells #[.int .i64 o0] 3 (0, 0)) :: H, (1000, ⟨.slice Ap0_0 l75.length cp0_0, 40, 6, l75.length, l75.flatMap GItem.enc⟩) :: R, φ⟩ (fun _ h => h) <| c_seq <| c_seq <| c_region <| g_v rfl r_move <| g_v rfl r_move <| g_v rfl (r_lenL Try.underlying52 rfl) <| g_v rfl (r_lss rfl rfl) <| g_nil <| d_then ?_
   refine c_cond rfl (fun h100 => ?_) (fun h100 => ?_)
   ·
    replace hm := ite_t hm (of_decide_eq_true h100)
    refine c_skip <| d_then <| c_seq <| c_block <| c_seq <| c_region <| g_v rfl r_move <| g_v rfl r_move ?_
    replace hm := bnd hm
    obtain ⟨x101, hx101, hm⟩ := hm
    refine g_know _ (fun W hS => cl_at (p := (Sta.ok ⟨w0, M, (1000, go0, .cells #[.int .i64 o0] 3 (0, 0)) :: H, (1000, ⟨.slice Ap0_0 l75.length cp0_0, 40, 6, l75.length, l75.flatMap GItem.enc⟩) :: R, φ⟩)) (sz := 6) (fun _ => rfl) (by decide) hS (fun W hS => rowCl (S := ⟨w0, M, (1000, go0, .cells #[.int .i64 o0] 3 (0, 0)) :: H, (1000, ⟨.slice Ap0_0 l75.length cp0_0, 40, 6, l75.length, l75.flatMap GItem.enc⟩) :: R, φ⟩) (tag := 1000) rfl W hS) hx101) ?_
    rintro ⟨ad102, hA104, f103⟩
    refine g_v rfl (r_ix Try.underlying52 Try.sizeOf40 rfl hA104 rfl hx101) <| g_v rfl (r_ldA rfl Try.isAgg40 Try.sizeOf40 (fun W hS => (f103 W hS).take 6) rfl) ?_
    refine g_e rfl (e_alloc 100070 Try.zeroValue40) (fun g105 _ => ?_)
    refine g_storeL (tag := 100070) rfl rfl rfl rfl Try.sizeOf40 rfl rfl <| g_nil <| d_then ?_
    refine c_flat [(0, .slice Ap0_0 l75.length cp0_0), (1, .func (.func 38) #[] #[.pointer (some ⟨go0, 0, none⟩)]), (5, .int .i64 i78), (6, .int .i64 i79), (7, .pointer (some ⟨g105, 0, none⟩))] ⟨rfl, rfl, rfl, rfl, rfl, trivial⟩ (fun u => ?_)
    refine c_sta ⟨w0, M, (100070, g105, .cells #[.int .i64 x101.fNumber, .int .i64 x101.fKind, .int .i64 x101.fFrom, .int .i64 x101.fTo, .int .i64 x101.fConn, .string x101.fBody] 40 (0, 0)) :: (1000, go0, .cells #[.int .i64 o0] 3 (0, 0)) :: H, (1000, ⟨.slice Ap0_0 l75.length cp0_0, 40, 6, l75.length, l75.flatMap GItem.enc⟩) :: R, φ⟩ (fun _ h => h) <| c_seq <| c_region <| g_v rfl r_move <| g_v rfl (r_loadA (tag := 100070) rfl rfl Try.isAgg40 Try.sizeOf40 rfl rfl) ?_
    replace hm := bnd hm
    obtain ⟨x106, hx107, hm⟩ := hm
    refine g_cnv ⟨w0, M, (1000, go0, .cells #[.int .i64 o0] 3 (0, 0)) :: (100070, g105, .cells #[.int .i64 x101.fNumber, .int .i64 x101.fKind, .int .i64 x101.fFrom, .int .i64 x101.fTo, .int .i64 x101.fConn, .string x101.fBody] 40 (0, 0)) :: H, (1000, ⟨.slice Ap0_0 l75.length cp0_0, 40, 6, l75.length, l75.flatMap GItem.enc⟩) :: R, φ⟩ (fun W h => (ok_front (t := 1000) (t' := 1000) h rfl)) Try.call38 rfl rfl rfl (c_net_Net_Lose_c1 x101 go0 o0 _ hx107) (fun _ _ => ?_)
    refine g_sta _ (fun W h => (ok_front (t := 1000) (t' := 1000) h rfl)) <| g_v rfl (r_not rfl) <| g_nil <| d_then ?_
    refine c_cond rfl (fun h108 => ?_) (fun h108 => ?_)
    ·
     have h108' : x106 = false := by revert h108; cases x106 <;> simp
     replace hm := ite_f hm (bool_nt h108')
     refine c_seq <| c_region <| g_v rfl r_move <| g_v rfl r_move <| g_v rfl (r_loadA (tag := 100070) rfl rfl Try.isAgg40 Try.sizeOf40 rfl rfl) ?_
     replace hm := bnd hm
     obtain ⟨x109, hx109, hm⟩ := hm
     refine g_know _ (fun W hS => cl_at (p := (Sta.ok ⟨w0, M, (1000, go0, .cells #[.int .i64 o0] 3 (0, 0)) :: (100070, g105, .cells #[.int .i64 x101.fNumber, .int .i64 x101.fKind, .int .i64 x101.fFrom, .int .i64 x101.fTo, .int .i64 x101.fConn, .string x101.fBody] 40 (0, 0)) :: H, (1000, ⟨.slice Ap0_0 l75.length cp0_0, 40, 6, l75.length, l75.flatMap GItem.enc⟩) :: R, φ⟩)) (sz := 6) (fun _ => rfl) (by decide) hS (fun W hS => rowCl (S := ⟨w0, M, (1000, go0, .cells #[.int .i64 o0] 3 (0, 0)) :: (100070, g105, .cells #[.int .i64 x101.fNumber, .int .i64 x101.fKind, .int .i64 x101.fFrom, .int .i64 x101.fTo, .int .i64 x101.fConn, .string x101.fBody] 40 (0, 0)) :: H, (1000, ⟨.slice Ap0_0 l75.length cp0_0, 40, 6, l75.length, l75.flatMap GItem.enc⟩) :: R, φ⟩) (tag := 1000) rfl W hS) hx109) ?_
     rintro ⟨ad110, hA112, f111⟩
     refine g_v rfl (r_ix Try.underlying52 Try.sizeOf40 rfl hA112 rfl hx109) ?_
     replace hm := bnd hm
     obtain ⟨l113, hl113, hm⟩ := hm
     refine g_stR (tag := 1000) (enc := GItem.enc) (l := l75) (off := 0) (vs := [.int .i64 x101.fNumber, .int .i64 x101.fKind, .int .i64 x101.fFrom, .int .i64 x101.fTo, .int .i64 x101.fConn, .string x101.fBody]) (add0 rfl) hA112 rfl rfl hx109 hl113 rfl (Nat.le_of_ble_eq_true rfl) (fun _ => rfl) rfl rfl Try.sizeOf40 ?_
     rw [show l75.length = l113.length from (setAt_lenE hl113).symm]
     refine g_nil <| d_then ?_
     refine c_flat [(0, .slice Ap0_0 l113.length cp0_0), (1, .func (.func 38) #[] #[.pointer (some ⟨go0, 0, none⟩)]), (5, .int .i64 i78), (6, .int .i64 i79)] ⟨rfl, rfl, rfl, rfl, trivial⟩ (fun u => ?_)
     refine c_sta ⟨w0, M, (1000, go0, .cells #[.int .i64 o0] 3 (0, 0)) :: (100070, g105, .cells #[.int .i64 x101.fNumber, .int .i64 x101.fKind, .int .i64 x101.fFrom, .int .i64 x101.fTo, .int .i64 x101.fConn, .string x101.fBody] 40 (0, 0)) :: H, (1000, ⟨.slice Ap0_0 l113.length cp0_0, 40, 6, l113.length, l113.flatMap GItem.enc⟩) :: R, φ⟩ (fun _ h => h) <| c_region <| g_v rfl r_move <| g_v rfl (r_add rfl rfl rfl) <| g_v rfl r_assign <| g_nil <| d_normal_block <| d_then <| c_region <| g_v rfl r_move ?_
     refine g_v rfl (r_add rfl rfl rfl) <| g_v rfl r_assign <| g_nil ?_
     obtain ⟨n114, hn114, hlp⟩ := nx_inl hm hnx2
     exact d_round (n114, l113, w64 (i78 + 1), w64 (i79 + 1)) ⟨hlp, ⟨(setAt_len hl75.1 hl113), ((setAt_lenE hl113).trans hl75.2)⟩⟩ hn114 ⟨rfl, rfl, rfl, rfl, trivial⟩ (fun W h => (h.dropH (t := 100070) rfl).phi (fun W hφ => hφ))
    ·
     have h108' : x106 = true := by revert h108; cases x106 <;> simp
     replace hm := ite_t hm h108'
     refine c_skip <| d_normal_block <| d_then <| c_region <| g_v rfl r_move <| g_v rfl (r_add rfl rfl rfl) <| g_v rfl r_assign <| g_nil ?_
     obtain ⟨n115, hn115, hlp⟩ := nx_inl hm hnx2
     exact d_round (n115, l75, i78, w64 (i79 + 1)) ⟨hlp, ⟨hl75.1, hl75.2⟩⟩ hn115 ⟨rfl, rfl, rfl, rfl, trivial⟩ (fun W h => (h.dropH (t := 100070) rfl).phi (fun W hφ => hφ))
   ·
    replace hm := ite_f hm (of_decide_eq_false h100)
    refine c_exit <| d_exit_then <| d_exit_then <| d_exit_block ?_
    replace hm := nx_out (C := (fun e => m_slices_DeleteFunc_31_2_j1 e.1 e.2 = some r)) hm hnx2 hr2
    exact d_round (l75, i78) ⟨hm, ⟨hl75.1, hl75.2⟩⟩ Nat.zero_lt_one ⟨rfl, rfl, trivial⟩ (fun W h => h.phi (fun W hφ => hφ))
  ·
   unfold m_slices_DeleteFunc_31_2_j1 at hm
   refine d_flat [(0, .slice Ap0_0 l49.length cp0_0), (5, .int .i64 i52)] ⟨rfl, rfl, trivial⟩ (fun u => ?_)
   refine d_sta ⟨w0, M, (1000, go0, .cells #[.int .i64 o0] 3 (0, 0)) :: H, (1000, ⟨.slice Ap0_0 l49.length cp0_0, 40, 6, l49.length, l49.flatMap GItem.enc⟩) :: R, φ⟩ (fun _ h => h) <| d_then <| c_seq <| c_region <| g_v rfl r_move <| g_v rfl r_move ?_
   replace hm := bnd hm
   obtain ⟨l53, hl53, hm⟩ := hm
   refine g_v rfl (r_lcutLo Try.underlying52 Try.sizeOf40 rfl hl49.1 rfl hl53) ?_
   replace hm := bnd hm
   obtain ⟨l54, hl54, hm⟩ := hm
   refine g_sta _ (fun W h => row_cut (tag := 1000) (enc := GItem.enc) (fun _ => rfl) rfl hl54 h) <| g_e0 (e_clearLo (tag := 1000) (enc := GItem.enc) Try.underlying52 Try.zeroValue40 rfl rfl hl54 hl53 rfl hl49.1 rfl) <| g_nil <| d_then <| c_seq <| c_region <| g_v rfl r_move <| g_v rfl r_move <| g_v rfl (r_lcutHi Try.underlying52 Try.sizeOf40 rfl hl49.1 rfl hl54) <| g_v rfl r_assign ?_
   refine g_nil <| d_then <| c_ret ?_
   replace hm := Option.some.inj hm
   subst hm
   refine d_sta _ (fun W h => ok_frontR (t := 1000) (t' := 2000) h rfl) ?_
   refine d_retC (Ap0_0, cp0_0) Try.results31 ?_ (cutHi_len hl49.1 hl54) (fun W h => h.phi (fun W hφ => hφ)) (.inr rfl)
   refine res_tmp <| res_nil ?_
   exact rfl
noncomputable def m_net_Net_Lose_c2 (p0 : Gnet_conn) (o0 : Int) : Option Bool :=
  (m_net_conn_has p0 o0).bind fun x2 =>
  some x2
theorem c_net_Net_Lose_c2 {w0 : World} {M : Nat → Prop} {H : List (Nat × Nat × Obj)} {R : List (Nat × Row)} {φ : World → Prop} (p0 : Gnet_conn) (go0 : Nat) (o0 : Int) (r : Bool) (hm : m_net_Net_Lose_c2 p0 o0 = some r) :
    Cn Try.prog 42 #[.agg #[.int .i64 p0.fnumber, .int .i64 p0.fends.a0, .int .i64 p0.fends.a1], .pointer (some ⟨go0, 0, none⟩)] ⟨w0, M, (1000, go0, .cells #[.int .i64 o0] 3 (0, 0)) :: H, R, φ⟩ (fun x : Unit => .bool r) (fun x => True) (fun x => ⟨w0, M, (1000, go0, .cells #[.int .i64 o0] 3 (0, 0)) :: H, R, φ⟩) := by
 unfold m_net_Net_Lose_c2 at hm
 refine cn_intro (fn := Try.f42) (N := 7) Try.func42 rfl Try.ntmps42 rfl <| c_seq <| c_region ?_
 refine g_e rfl (e_box 100020 rfl) (fun g1 _ => ?_)
 refine g_v rfl r_assign <| g_nil <| d_then <| c_seq <| c_region <| g_v rfl (r_loadA (tag := 100020) rfl rfl Try.isAgg63 Try.sizeOf63 rfl rfl) <| g_v rfl (r_load (tag := 1000) rfl rfl rfl Try.isAgg3) ?_
 replace hm := bnd hm
 obtain ⟨x2, hx3, hm⟩ := hm
 refine g_cn ⟨w0, M, _, _, φ⟩ (fun _ h => h) Try.call39 rfl rfl (c_net_conn_has p0 o0 _ hx3) (fun _ _ => ?_)
 refine g_v rfl r_assign <| g_nil <| d_then <| c_ret ?_
 replace hm := Option.some.inj hm
 subst hm
 refine d_retC () Try.results42 ?_ trivial (fun W h => (h.dropH (t := 100020) rfl).phi (fun W hφ => hφ)) (.inr rfl)
 refine res_tmp <| res_nil ?_
 exact rfl
noncomputable def m_slices_IndexFunc_52_2_j1  : Option Int :=
  some (-1)
noncomputable def m_slices_IndexFunc_52_2_s2 (p0 : List Gnet_conn) (o0 : Int) (i30 : Int) : Option (Int ⊕ (Unit ⊕ Int)) :=
  if i30 < (p0.length : Int) then
    (at_ p0 i30).bind fun x42 =>
    (m_net_Net_Lose_c2 x42 o0).bind fun x46 =>
    if x46 = true then
      some (.inr (.inr i30))
    else
      some (.inl (w64 (i30 + 1)))
  else
    some (.inr (.inl ()))
noncomputable def m_slices_IndexFunc_52_2 (p0 : List Gnet_conn) (o0 : Int) : Option Int :=
  (loop (fun s => m_slices_IndexFunc_52_2_s2 p0 o0 s) 0).bind fun e => Sum.elim (fun e => m_slices_IndexFunc_52_2_j1) (fun x => some x) e
theorem c_slices_IndexFunc_52_2 {w0 : World} {M : Nat → Prop} {H : List (Nat × Nat × Obj)} {R : List (Nat × Row)} {φ : World → Prop} (p0 : List Gnet_conn) (Ap0_0 : Option Addr) (cp0_0 : Nat) (hcp0_0 : p0.length ≤ cp0_0) (fp0_0 : ∀ W, (Sta.mk w0 M H R φ).ok W → Cl W Ap0_0 (p0.flatMap Gnet_conn.enc)) (go0 : Nat) (o0 : Int) (r : Int) (hm : m_slices_IndexFunc_52_2 p0 o0 = some r) :
    Cn Try.prog 52 #[.slice Ap0_0 p0.length cp0_0, .func (.func 42) #[] #[.pointer (some ⟨go0, 0, none⟩)]] ⟨w0, M, (1000, go0, .cells #[.int .i64 o0] 3 (0, 0)) :: H, R, φ⟩ (fun x : Unit => .int .i64 r) (fun x => True) (fun x => ⟨w0, M, (1000, go0, .cells #[.int .i64 o0] 3 (0, 0)) :: H, R, φ⟩) := by
 unfold m_slices_IndexFunc_52_2 at hm
 refine cn_intro (fn := Try.f52) (N := 19) Try.func52 rfl Try.ntmps52 rfl <| c_seq <| c_region <| g_v rfl r_assign <| g_nil <| d_then <| c_seq <| c_seq <| c_region <| g_v rfl r_move ?_
 refine g_v rfl (r_lenL Try.underlying59 rfl) <| g_v rfl r_move <| g_nil <| d_then ?_
 refine c_cut (ι := Unit) [] (fun _ => []) (fun _ => ⟨w0, M, (1000, go0, .cells #[.int .i64 o0] 3 (0, 0)) :: H, R, φ⟩) (fun _ => m_slices_IndexFunc_52_2_j1 = some r) ?_ (fun _ u hm => ?_)
 ·
  refine c_block ?_
  replace hm := bnd hm
  obtain ⟨out2, hl2, hr2⟩ := hm
  obtain ⟨n40', hl2⟩ := loop_lp hl2
  refine c_loopU (ι := Nat × Int) [0, 1, 7, 8] (fun ⟨n40, i30⟩ => [(8, .int .i64 i30)]) (fun ⟨n40, i30⟩ => ⟨w0, M, (1000, go0, .cells #[.int .i64 o0] 3 (0, 0)) :: H, R, φ⟩) (fun ⟨n40, i30⟩ => Lp (fun s => m_slices_IndexFunc_52_2_s2 p0 o0 s) n40 i30 out2) (fun ⟨n40, i30⟩ => n40) (n40', 0) hl2 ⟨rfl, rfl, rfl, rfl, trivial⟩ (fun W h => h.phi (fun W hφ => hφ)) (fun ⟨n40, i30⟩ u hlp => ?_)
  obtain ⟨o2, hm, hnx2⟩ := lp_step hlp
  clear hlp
  replace hm : m_slices_IndexFunc_52_2_s2 p0 o0 i30 = some o2 := hm
  unfold m_slices_IndexFunc_52_2_s2 at hm
  refine c_flat [(0, .slice Ap0_0 p0.length cp0_0), (1, .func (.func 42) #[] #[.pointer (some ⟨go0, 0, none⟩)]), (7, .int .i64 (p0.length : Int)), (8, .int .i64 i30)] ⟨rfl, rfl, rfl, rfl, trivial⟩ (fun u => ?_)
  refine c_sta ⟨w0, M, (1000, go0, .cells #[.int .i64 o0] 3 (0, 0)) :: H, R, φ⟩ (fun _ h => h) <| c_seq <| c_region <| g_v rfl (r_lss rfl rfl) <| g_nil <| d_then <| c_seq ?_
  refine c_cond rfl (fun h41 => ?_) (fun h41 => ?_)
  ·
   replace hm := ite_t hm (of_decide_eq_true h41)
   refine c_skip <| d_then <| c_seq <| c_block <| c_seq <| c_region <| g_v rfl r_move <| g_v rfl r_assign <| g_nil <| d_then ?_
   refine c_seq <| c_region <| g_v rfl r_move <| g_v rfl r_move <| g_v rfl r_move ?_
   replace hm := bnd hm
   obtain ⟨x42, hx42, hm⟩ := hm
   refine g_know _ (fun W hS => cl_at (p := (Sta.mk w0 M H R φ).ok) (sz := 3) (fun _ => rfl) (by decide) (ok_pre (H1 := [_]) (R1 := []) hS (fun W h => h)) fp0_0 hx42) ?_
   rintro ⟨ad43, hA45, f44⟩
   refine g_v rfl (r_ix Try.underlying59 Try.sizeOf63 rfl hA45 rfl hx42) <| g_v rfl (r_ldA rfl Try.isAgg63 Try.sizeOf63 (fun W hS => (f44 W (ok_pre (H1 := [_]) (R1 := []) hS (fun W h => h))).take 3) rfl) ?_
   replace hm := bnd hm
   obtain ⟨x46, hx47, hm⟩ := hm
   refine g_cnv ⟨w0, M, (1000, go0, .cells #[.int .i64 o0] 3 (0, 0)) :: H, R, φ⟩ (fun W h => (ok_front (t := 1000) (t' := 1000) h rfl)) Try.call42 rfl rfl rfl (c_net_Net_Lose_c2 x42 go0 o0 _ hx47) (fun _ _ => ?_)
   refine g_sta _ (fun W h => (ok_front (t := 1000) (t' := 1000) h rfl)) <| g_nil <| d_then ?_
   refine c_flat [(0, .slice Ap0_0 p0.length cp0_0), (1, .func (.func 42) #[] #[.pointer (some ⟨go0, 0, none⟩)]), (5, .int .i64 i30), (7, .int .i64 (p0.length : Int)), (8, .int .i64 i30), (16, .bool x46)] ⟨rfl, rfl, rfl, rfl, rfl, rfl, trivial⟩ (fun u => ?_)
   refine c_cond rfl (fun h48 => ?_) (fun h48 => ?_)
   ·
    replace hm := ite_t hm h48
    refine c_seq <| c_region <| g_v rfl r_move <| g_v rfl r_assign <| g_nil <| d_then <| c_ret <| d_ret_block <| d_ret_then <| d_ret_then ?_
    refine d_ret_block <| d_ret_then <| d_ret_then ?_
    replace hm := nx_out (C := (fun e => Sum.elim (fun e => m_slices_IndexFunc_52_2_j1) (fun x => some x) e = some r)) hm hnx2 hr2
    replace hm : some i30 = some r := hm
    replace hm := Option.some.inj hm
    subst hm
    refine d_retC () Try.results52 ?_ trivial (fun W h => h.phi (fun W hφ => hφ)) (.inr rfl)
    refine res_tmp <| res_nil ?_
    exact rfl
   ·
    replace hm := ite_f hm (bool_nt h48)
    refine c_skip <| d_normal_block <| d_then <| c_region <| g_v rfl (r_add rfl rfl rfl) <| g_v rfl r_move <| g_nil ?_
    obtain ⟨n49, hn49, hlp⟩ := nx_inl hm hnx2
    exact d_round (n49, w64 (i30 + 1)) hlp hn49 ⟨rfl, rfl, rfl, rfl, trivial⟩ (fun W h => h.phi (fun W hφ => hφ))
  ·
   replace hm := ite_f hm (of_decide_eq_false h41)
   refine c_exit <| d_exit_then <| d_exit_then <| d_exit_block ?_
   replace hm := nx_out (C := (fun e => Sum.elim (fun e => m_slices_IndexFunc_52_2_j1) (fun x => some x) e = some r)) hm hnx2 hr2
   exact d_round () hm Nat.zero_lt_one trivial (fun W h => h.phi (fun W hφ => hφ))
 ·
  unfold m_slices_IndexFunc_52_2_j1 at hm
  refine d_flat [] trivial (fun u => ?_)
  refine d_sta ⟨w0, M, (1000, go0, .cells #[.int .i64 o0] 3 (0, 0)) :: H, R, φ⟩ (fun _ h => h) <| d_then <| c_seq <| c_region <| g_v rfl r_assign <| g_nil <| d_then <| c_ret ?_
  replace hm := Option.some.inj hm
  subst hm
  refine d_retC () Try.results52 ?_ trivial (fun W h => h.phi (fun W hφ => hφ)) (.inr rfl)
  refine res_tmp <| res_nil ?_
  exact rfl
noncomputable def m_slices_DeleteFunc_41_j1  (l49 : List Gnet_conn) (i52 : Int) : Option (List Gnet_conn) :=
  (cutLo l49 i52).bind fun l53 =>
  (cutHi l49 i52).bind fun l54 =>
  some l54
noncomputable def m_slices_DeleteFunc_41_s2 (o0 : Int) (l75 : List Gnet_conn) (i78 : Int) (i79 : Int) : Option (((List Gnet_conn) × Int × Int) ⊕ ((List Gnet_conn) × Int)) :=
  if i79 < (l75.length : Int) then
    (at_ l75 i79).bind fun x101 =>
    (m_net_Net_Lose_c2 x101 o0).bind fun x106 =>
    if x106 = true then
      some (.inl (l75, i78, w64 (i79 + 1)))
    else
      (at_ l75 i78).bind fun x109 =>
      (setAt l75 i78 x101).bind fun l113 =>
      some (.inl (l113, w64 (i78 + 1), w64 (i79 + 1)))
  else
    some (.inr (l75, i78))
noncomputable def m_slices_DeleteFunc_41 (p0 : List Gnet_conn) (o0 : Int) : Option (List Gnet_conn) :=
  (m_slices_IndexFunc_52_2 p0 o0).bind fun x1 =>
  if x1 = (-1) then
    some p0
  else
    (loop (fun s => m_slices_DeleteFunc_41_s2 o0 s.1 s.2.1 s.2.2) (p0, x1, w64 (x1 + 1))).bind fun e => m_slices_DeleteFunc_41_j1 e.1 e.2
theorem c_slices_DeleteFunc_41 {w0 : World} {M : Nat → Prop} {H : List (Nat × Nat × Obj)} {R : List (Nat × Row)} {φ : World → Prop} (p0 : List Gnet_conn) (Ap0_0 : Option Addr) (cp0_0 : Nat) (hcp0_0 : p0.length ≤ cp0_0) (go0 : Nat) (o0 : Int) (r : (List Gnet_conn)) (hm : m_slices_DeleteFunc_41 p0 o0 = some r) :
    Cn Try.prog 41 #[.slice Ap0_0 p0.length cp0_0, .func (.func 42) #[] #[.pointer (some ⟨go0, 0, none⟩)]] ⟨w0, M, (1000, go0, .cells #[.int .i64 o0] 3 (0, 0)) :: H, (1000, ⟨.slice Ap0_0 p0.length cp0_0, 63, 3, p0.length, p0.flatMap Gnet_conn.enc⟩) :: R, φ⟩ (fun x : Option Addr × Nat => .slice x.1 r.length x.2) (fun x => r.length ≤ x.2) (fun x => ⟨w0, M, (1000, go0, .cells #[.int .i64 o0] 3 (0, 0)) :: H, (2000, ⟨.slice x.1 r.length x.2, 63, 3, r.length, r.flatMap Gnet_conn.enc⟩) :: R, φ⟩) := by
 unfold m_slices_DeleteFunc_41 at hm
 refine cn_intro (fn := Try.f41) (N := 42) Try.func41 rfl Try.ntmps41 rfl <| c_seq <| c_region <| g_v rfl r_assign <| g_nil <| d_then <| c_seq <| c_region <| g_v rfl r_move <| g_v rfl r_move ?_
 replace hm := bnd hm
 obtain ⟨x1, hx2, hm⟩ := hm
 refine g_cn ⟨w0, M, (1000, go0, .cells #[.int .i64 o0] 3 (0, 0)) :: H, (1000, ⟨.slice Ap0_0 p0.length cp0_0, 63, 3, p0.length, p0.flatMap Gnet_conn.enc⟩) :: R, φ⟩ (fun W h => (ok_front (t := 1000) (t' := 1000) h rfl)) Try.call52 rfl rfl (c_slices_IndexFunc_52_2 p0 Ap0_0 cp0_0 hcp0_0 (fun W hS => rowCl (tag := 1000) rfl W hS) go0 o0 _ hx2) (fun _ _ => ?_)
 refine g_sta _ (fun W h => (ok_front (t := 1000) (t' := 1000) h rfl)) <| g_v rfl r_assign <| g_nil <| d_then <| c_seq <| c_seq <| c_region <| g_v rfl r_move <| g_v rfl (r_eql rfl rfl) <| g_nil ?_
 refine d_then ?_
 refine c_cond rfl (fun h3 => ?_) (fun h3 => ?_)
 ·
  replace hm := ite_t hm (of_decide_eq_true h3)
  refine c_seq <| c_region <| g_v rfl r_move <| g_v rfl r_assign <| g_nil <| d_then ?_
  refine c_flat [(4, .slice Ap0_0 p0.length cp0_0)] ⟨rfl, trivial⟩ (fun u => ?_)
  refine c_sta ⟨w0, M, (1000, go0, .cells #[.int .i64 o0] 3 (0, 0)) :: H, (1000, ⟨.slice Ap0_0 p0.length cp0_0, 63, 3, p0.length, p0.flatMap Gnet_conn.enc⟩) :: R, φ⟩ (fun _ h => h) <| c_ret <| d_ret_then ?_
  replace hm := Option.some.inj hm
  subst hm
  refine d_sta _ (fun W h => ok_frontR (t := 1000) (t' := 2000) h rfl) ?_
  refine d_retC (Ap0_0, cp0_0) Try.results41 ?_ hcp0_0 (fun W h => h.phi (fun W hφ => hφ)) (.inr rfl)
  refine res_tmp <| res_nil ?_
  exact rfl
 ·
  replace hm := ite_f hm (of_decide_eq_false h3)
  refine c_skip <| d_then <| c_seq <| c_seq <| c_region <| g_v rfl r_move <| g_v rfl (r_add rfl rfl rfl) <| g_v rfl r_assign <| g_nil <| d_then ?_
  refine c_flat [(0, .slice Ap0_0 p0.length cp0_0), (1, .func (.func 42) #[] #[.pointer (some ⟨go0, 0, none⟩)]), (5, .int .i64 x1), (6, .int .i64 (w64 (x1 + 1)))] ⟨rfl, rfl, rfl, rfl, trivial⟩ (fun u => ?_)
  refine c_sta ⟨w0, M, (1000, go0, .cells #[.int .i64 o0] 3 (0, 0)) :: H, (1000, ⟨.slice Ap0_0 p0.length cp0_0, 63, 3, p0.length, p0.flatMap Gnet_conn.enc⟩) :: R, φ⟩ (fun _ h => h) ?_
  refine c_cut (ι := (List Gnet_conn) × Int) [0, 5] (fun ⟨l49, i52⟩ => [(0, .slice Ap0_0 l49.length cp0_0), (5, .int .i64 i52)]) (fun ⟨l49, i52⟩ => ⟨w0, M, (1000, go0, .cells #[.int .i64 o0] 3 (0, 0)) :: H, (1000, ⟨.slice Ap0_0 l49.length cp0_0, 63, 3, l49.length, l49.flatMap Gnet_conn.enc⟩) :: R, φ⟩) (fun ⟨l49, i52⟩ => m_slices_DeleteFunc_41_j1 l49 i52 = some r ∧ (l49.length ≤ cp0_0 ∧ l49.length = p0.length)) ?_ (fun ⟨l49, i52⟩ u ⟨hm, hl49⟩ => ?_)
  ·
   refine c_block ?_
   replace hm := bnd hm
   obtain ⟨out2, hl2, hr2⟩ := hm
   obtain ⟨n99', hl2⟩ := loop_lp hl2
   refine c_loopU (ι := Nat × (List Gnet_conn) × Int × Int) [0, 1, 5, 6] (fun ⟨n99, l75, i78, i79⟩ => [(0, .slice Ap0_0 l75.length cp0_0), (5, .int .i64 i78), (6, .int .i64 i79)]) (fun ⟨n99, l75, i78, i79⟩ => ⟨w0, M, (1000, go0, .cells #[.int .i64 o0] 3 (0, 0)) :: H, (1000, ⟨.slice Ap0_0 l75.length cp0_0, 63, 3, l75.length, l75.flatMap Gnet_conn.enc⟩) :: R, φ⟩) (fun ⟨n99, l75, i78, i79⟩ => Lp (fun s => m_slices_DeleteFunc_41_s2 o0 s.1 s.2.1 s.2.2) n99 (l75, i78, i79) out2 ∧ (l75.length ≤ cp0_0 ∧ l75.length = p0.length)) (fun ⟨n99, l75, i78, i79⟩ => n99) (n99', p0, x1, w64 (x1 + 1)) ⟨hl2, ⟨hcp0_0, rfl⟩⟩ ⟨rfl, rfl, rfl, rfl, trivial⟩ (fun W h => h.phi (fun W hφ => hφ)) (fun ⟨n99, l75, i78, i79⟩ u ⟨hlp, hl75⟩ => ?_)
   obtain ⟨o2, hm, hnx2⟩ := lp_step hlp
   clear hlp
   replace hm : m_slices_DeleteFunc_41_s2 o0 l75 i78 i79 = some o2 := hm
   unfold m_slices_DeleteFunc_41_s2 at hm
   refine c_flat [(0, .slice Ap0_0 l75.length cp0_0), (1, .func (.func 42) #[] #[.pointer (some ⟨go0, 0, none⟩)]), (5, .int .i64 i78), (6, .int .i64 i79)] ⟨rfl, rfl, rfl, rfl, trivial⟩ (fun u => ?_)
   refine c_sta ⟨w0, M, (1000, go0, .cells #[.int .i64 o0] 3 (0, 0)) :: H, (1000, ⟨.slice Ap0_0 l75.length cp0_0, 63, 3, l75.length, l75.flatMap Gnet_conn.enc⟩) :: R, φ⟩ (fun _ h => h) <| c_seq <| c_seq <| c_region <| g_v rfl r_move <| g_v rfl r_move <| g_v rfl (r_lenL Try.underlying59 rfl) <| g_v rfl (r_lss rfl rfl) <| g_nil <| d_then ?_
   refine c_cond rfl (fun h100 => ?_) (fun h100 => ?_)
   ·
    replace hm := ite_t hm (of_decide_eq_true h100)
    refine c_skip <| d_then <| c_seq <| c_block <| c_seq <| c_region <| g_v rfl r_move <| g_v rfl r_move ?_
    replace hm := bnd hm
    obtain ⟨x101, hx101, hm⟩ := hm
    refine g_know _ (fun W hS => cl_at (p := (Sta.ok ⟨w0, M, (1000, go0, .cells #[.int .i64 o0] 3 (0, 0)) :: H, (1000, ⟨.slice Ap0_0 l75.length cp0_0, 63, 3, l75.length, l75.flatMap Gnet_conn.enc⟩) :: R, φ⟩)) (sz := 3) (fun _ => rfl) (by decide) hS (fun W hS => rowCl (S := ⟨w0, M, (1000, go0, .cells #[.int .i64 o0] 3 (0, 0)) :: H, (1000, ⟨.slice Ap0_0 l75.length cp0_0, 63, 3, l75.length, l75.flatMap Gnet_conn.enc⟩) :: R, φ⟩) (tag := 1000) rfl W hS) hx101) ?_
    rintro ⟨ad102, hA104, f103⟩
    refine g_v rfl (r_ix Try.underlying59 Try.sizeOf63 rfl hA104 rfl hx101) <| g_v rfl (r_ldA rfl Try.isAgg63 Try.sizeOf63 (fun W hS => (f103 W hS).take 3) rfl) ?_
    refine g_e rfl (e_alloc 100070 Try.zeroValue63) (fun g105 _ => ?_)
    refine g_storeL (tag := 100070) rfl rfl rfl rfl Try.sizeOf63 rfl rfl <| g_nil <| d_then ?_
    refine c_flat [(0, .slice Ap0_0 l75.length cp0_0), (1, .func (.func 42) #[] #[.pointer (some ⟨go0, 0, none⟩)]), (5, .int .i64 i78), (6, .int .i64 i79), (7, .pointer (some ⟨g105, 0, none⟩))] ⟨rfl, rfl, rfl, rfl, rfl, trivial⟩ (fun u => ?_)
    refine c_sta ⟨w0, M, (100070, g105, .cells #[.int .i64 x101.fnumber, .int .i64 x101.fends.a0, .int .i64 x101.fends.a1] 63 (0, 0)) :: (1000, go0, .cells #[.int .i64 o0] 3 (0, 0)) :: H, (1000, ⟨.slice Ap0_0 l75.length cp0_0, 63, 3, l75.length, l75.flatMap Gnet_conn.enc⟩) :: R, φ⟩ (fun _ h => h) <| c_seq <| c_region <| g_v rfl r_move <| g_v rfl (r_loadA (tag := 100070) rfl rfl Try.isAgg63 Try.sizeOf63 rfl rfl) ?_
    replace hm := bnd hm
    obtain ⟨x106, hx107, hm⟩ := hm
    refine g_cnv ⟨w0, M, (1000, go0, .cells #[.int .i64 o0] 3 (0, 0)) :: (100070, g105, .cells #[.int .i64 x101.fnumber, .int .i64 x101.fends.a0, .int .i64 x101.fends.a1] 63 (0, 0)) :: H, (1000, ⟨.slice Ap0_0 l75.length cp0_0, 63, 3, l75.length, l75.flatMap Gnet_conn.enc⟩) :: R, φ⟩ (fun W h => (ok_front (t := 1000) (t' := 1000) h rfl)) Try.call42 rfl rfl rfl (c_net_Net_Lose_c2 x101 go0 o0 _ hx107) (fun _ _ => ?_)
    refine g_sta _ (fun W h => (ok_front (t := 1000) (t' := 1000) h rfl)) <| g_v rfl (r_not rfl) <| g_nil <| d_then ?_
    refine c_cond rfl (fun h108 => ?_) (fun h108 => ?_)
    ·
     have h108' : x106 = false := by revert h108; cases x106 <;> simp
     replace hm := ite_f hm (bool_nt h108')
     refine c_seq <| c_region <| g_v rfl r_move <| g_v rfl r_move <| g_v rfl (r_loadA (tag := 100070) rfl rfl Try.isAgg63 Try.sizeOf63 rfl rfl) ?_
     replace hm := bnd hm
     obtain ⟨x109, hx109, hm⟩ := hm
     refine g_know _ (fun W hS => cl_at (p := (Sta.ok ⟨w0, M, (1000, go0, .cells #[.int .i64 o0] 3 (0, 0)) :: (100070, g105, .cells #[.int .i64 x101.fnumber, .int .i64 x101.fends.a0, .int .i64 x101.fends.a1] 63 (0, 0)) :: H, (1000, ⟨.slice Ap0_0 l75.length cp0_0, 63, 3, l75.length, l75.flatMap Gnet_conn.enc⟩) :: R, φ⟩)) (sz := 3) (fun _ => rfl) (by decide) hS (fun W hS => rowCl (S := ⟨w0, M, (1000, go0, .cells #[.int .i64 o0] 3 (0, 0)) :: (100070, g105, .cells #[.int .i64 x101.fnumber, .int .i64 x101.fends.a0, .int .i64 x101.fends.a1] 63 (0, 0)) :: H, (1000, ⟨.slice Ap0_0 l75.length cp0_0, 63, 3, l75.length, l75.flatMap Gnet_conn.enc⟩) :: R, φ⟩) (tag := 1000) rfl W hS) hx109) ?_
     rintro ⟨ad110, hA112, f111⟩
     refine g_v rfl (r_ix Try.underlying59 Try.sizeOf63 rfl hA112 rfl hx109) ?_
     replace hm := bnd hm
     obtain ⟨l113, hl113, hm⟩ := hm
     refine g_stR (tag := 1000) (enc := Gnet_conn.enc) (l := l75) (off := 0) (vs := [.int .i64 x101.fnumber, .int .i64 x101.fends.a0, .int .i64 x101.fends.a1]) (add0 rfl) hA112 rfl rfl hx109 hl113 rfl (Nat.le_of_ble_eq_true rfl) (fun _ => rfl) rfl rfl Try.sizeOf63 ?_
     rw [show l75.length = l113.length from (setAt_lenE hl113).symm]
     refine g_nil <| d_then ?_
     refine c_flat [(0, .slice Ap0_0 l113.length cp0_0), (1, .func (.func 42) #[] #[.pointer (some ⟨go0, 0, none⟩)]), (5, .int .i64 i78), (6, .int .i64 i79)] ⟨rfl, rfl, rfl, rfl, trivial⟩ (fun u => ?_)
     refine c_sta ⟨w0, M, (1000, go0, .cells #[.int .i64 o0] 3 (0, 0)) :: (100070, g105, .cells #[.int .i64 x101.fnumber, .int .i64 x101.fends.a0, .int .i64 x101.fends.a1] 63 (0, 0)) :: H, (1000, ⟨.slice Ap0_0 l113.length cp0_0, 63, 3, l113.length, l113.flatMap Gnet_conn.enc⟩) :: R, φ⟩ (fun _ h => h) <| c_region <| g_v rfl r_move <| g_v rfl (r_add rfl rfl rfl) <| g_v rfl r_assign <| g_nil <| d_normal_block <| d_then <| c_region <| g_v rfl r_move ?_
     refine g_v rfl (r_add rfl rfl rfl) <| g_v rfl r_assign <| g_nil ?_
     obtain ⟨n114, hn114, hlp⟩ := nx_inl hm hnx2
     exact d_round (n114, l113, w64 (i78 + 1), w64 (i79 + 1)) ⟨hlp, ⟨(setAt_len hl75.1 hl113), ((setAt_lenE hl113).trans hl75.2)⟩⟩ hn114 ⟨rfl, rfl, rfl, rfl, trivial⟩ (fun W h => (h.dropH (t := 100070) rfl).phi (fun W hφ => hφ))
    ·
     have h108' : x106 = true := by revert h108; cases x106 <;> simp
     replace hm := ite_t hm h108'
     refine c_skip <| d_normal_block <| d_then <| c_region <| g_v rfl r_move <| g_v rfl (r_add rfl rfl rfl) <| g_v rfl r_assign <| g_nil ?_
     obtain ⟨n115, hn115, hlp⟩ := nx_inl hm hnx2
     exact d_round (n115, l75, i78, w64 (i79 + 1)) ⟨hlp, ⟨hl75.1, hl75.2⟩⟩ hn115 ⟨rfl, rfl, rfl, rfl, trivial⟩ (fun W h => (h.dropH (t := 100070) rfl).phi (fun W hφ => hφ))
   ·
    replace hm := ite_f hm (of_decide_eq_false h100)
    refine c_exit <| d_exit_then <| d_exit_then <| d_exit_block ?_
    replace hm := nx_out (C := (fun e => m_slices_DeleteFunc_41_j1 e.1 e.2 = some r)) hm hnx2 hr2
    exact d_round (l75, i78) ⟨hm, ⟨hl75.1, hl75.2⟩⟩ Nat.zero_lt_one ⟨rfl, rfl, trivial⟩ (fun W h => h.phi (fun W hφ => hφ))
  ·
   unfold m_slices_DeleteFunc_41_j1 at hm
   refine d_flat [(0, .slice Ap0_0 l49.length cp0_0), (5, .int .i64 i52)] ⟨rfl, rfl, trivial⟩ (fun u => ?_)
   refine d_sta ⟨w0, M, (1000, go0, .cells #[.int .i64 o0] 3 (0, 0)) :: H, (1000, ⟨.slice Ap0_0 l49.length cp0_0, 63, 3, l49.length, l49.flatMap Gnet_conn.enc⟩) :: R, φ⟩ (fun _ h => h) <| d_then <| c_seq <| c_region <| g_v rfl r_move <| g_v rfl r_move ?_
   replace hm := bnd hm
   obtain ⟨l53, hl53, hm⟩ := hm
   refine g_v rfl (r_lcutLo Try.underlying59 Try.sizeOf63 rfl hl49.1 rfl hl53) ?_
   replace hm := bnd hm
   obtain ⟨l54, hl54, hm⟩ := hm
   refine g_sta _ (fun W h => row_cut (tag := 1000) (enc := Gnet_conn.enc) (fun _ => rfl) rfl hl54 h) <| g_e0 (e_clearLo (tag := 1000) (enc := Gnet_conn.enc) Try.underlying59 Try.zeroValue63 rfl rfl hl54 hl53 rfl hl49.1 rfl) <| g_nil <| d_then <| c_seq <| c_region <| g_v rfl r_move <| g_v rfl r_move <| g_v rfl (r_lcutHi Try.underlying59 Try.sizeOf63 rfl hl49.1 rfl hl54) <| g_v rfl r_assign ?_
   refine g_nil <| d_then <| c_ret ?_
   replace hm := Option.some.inj hm
   subst hm
   refine d_sta _ (fun W h => ok_frontR (t := 1000) (t' := 2000) h rfl) ?_
   refine d_retC (Ap0_0, cp0_0) Try.results41 ?_ (cutHi_len hl49.1 hl54) (fun W h => h.phi (fun W hφ => hφ)) (.inr rfl)
   refine res_tmp <| res_nil ?_
   exact rfl
noncomputable def m_net_Net_Lose_j1 (o0 : Gnet_Net) (p1 : Int) (l87 : List GItem) (i90 : Int) (i91 : Int) : Option (Int × Gnet_Net) :=
  (m_slices_DeleteFunc_41 o0.fconns p1).bind fun x92 =>
  some (i90, (⟨l87, x92, i91, o0.fopens⟩ : Gnet_Net))
noncomputable def m_net_Net_Lose_s2 (o0 : Gnet_Net) (p1 : Int) (l134 : List GItem) (i137 : Int) (i138 : Int) (i139 : Int) : Option (((List GItem) × Int × Int × Int) ⊕ ((List GItem) × Int × Int)) :=
  if i138 < (o0.fconns.length : Int) then
    (at_ o0.fconns i138).bind fun x178 =>
    (m_net_conn_has x178 p1).bind fun x183 =>
    if x183 = true then
      (m_net_conn_other x178 p1).bind fun x200 =>
      (m_net_Net_closed x178 x200 (⟨l134, o0.fconns, i139, o0.fopens⟩ : Gnet_Net)).bind fun x202 =>
      some (.inl (x202.fitems, i137, w64 (i138 + 1), x202.flast))
    else
      some (.inl (l134, i137, w64 (i138 + 1), i139))
  else
    some (.inr (l134, i137, i139))
noncomputable def m_net_Net_Lose (p1 : Int) (o0 : Gnet_Net) : Option (Int × Gnet_Net) :=
  (m_slices_DeleteFunc_31_2 o0.fitems p1).bind fun x2 =>
  (loop (fun s => m_net_Net_Lose_s2 o0 p1 s.1 s.2.1 s.2.2.1 s.2.2.2) (x2, w64 ((o0.fitems.length : Int) - (x2.length : Int)), 0, o0.flast)).bind fun e => m_net_Net_Lose_j1 o0 p1 e.1 e.2.1 e.2.2
theorem c_net_Net_Lose {w0 : World} {M : Nat → Prop} {H : List (Nat × Nat × Obj)} {R : List (Nat × Row)} {φ : World → Prop} (p1 : Int) (go0 : Nat) (o0 : Gnet_Net) (Ao0_0 : Option Addr) (co0_0 : Nat) (hco0_0 : o0.fitems.length ≤ co0_0) (Ao0_1 : Option Addr) (co0_1 : Nat) (hco0_1 : o0.fconns.length ≤ co0_1) (r : Int × Gnet_Net) (hm : m_net_Net_Lose p1 o0 = some r) :
    Cn Try.prog 19 #[.pointer (some ⟨go0, 0, none⟩), .int .i64 p1] ⟨w0, M, (1000, go0, .cells #[.slice Ao0_0 o0.fitems.length co0_0, .slice Ao0_1 o0.fconns.length co0_1, .int .i64 o0.flast, .int .i64 o0.fopens] 61 (0, 0)) :: H, (1000, ⟨.slice Ao0_0 o0.fitems.length co0_0, 40, 6, o0.fitems.length, o0.fitems.flatMap GItem.enc⟩) :: (1001, ⟨.slice Ao0_1 o0.fconns.length co0_1, 63, 3, o0.fconns.length, o0.fconns.flatMap Gnet_conn.enc⟩) :: R, φ⟩ (fun x : Option Addr × Nat × Option Addr × Nat => .int .i64 r.1) (fun x => r.2.fitems.length ≤ x.2.1 ∧ r.2.fconns.length ≤ x.2.2.2) (fun x => ⟨w0, M, (1000, go0, .cells #[.slice x.1 r.2.fitems.length x.2.1, .slice x.2.2.1 r.2.fconns.length x.2.2.2, .int .i64 r.2.flast, .int .i64 o0.fopens] 61 (0, 0)) :: H, (2000, ⟨.slice x.1 r.2.fitems.length x.2.1, 40, 6, r.2.fitems.length, r.2.fitems.flatMap GItem.enc⟩) :: (2001, ⟨.slice x.2.2.1 r.2.fconns.length x.2.2.2, 63, 3, r.2.fconns.length, r.2.fconns.flatMap Gnet_conn.enc⟩) :: R, φ⟩) := by
 unfold m_net_Net_Lose at hm
 refine cn_intro (fn := Try.f19) (N := 61) Try.func19 rfl Try.ntmps19 rfl <| c_seq <| c_region ?_
 refine g_e rfl (e_box 100030 rfl) (fun g1 _ => ?_)
 refine g_v rfl r_assign <| g_nil <| d_then <| c_seq <| c_seq <| c_region <| g_v rfl r_move <| g_v rfl (r_eqlP1 Try.underlying24 rfl rfl) <| g_nil <| d_then ?_
 refine c_cond0 rfl rfl <| c_skip <| d_then <| c_seq <| c_region <| g_v rfl r_move <| g_v rfl (r_nilck rfl) <| g_v rfl (r_field (n := 0) Try.underlying61 rfl Try.sizeOf52 rfl rfl) <| g_v rfl (r_load (tag := 1000) rfl rfl rfl Try.isAgg52) <| g_v rfl (r_lenL Try.underlying52 rfl) ?_
 refine g_v rfl r_assign <| g_nil <| d_then ?_
 refine c_flat [(0, .pointer (some ⟨go0, 0, none⟩)), (3, .pointer (some ⟨g1, 0, none⟩)), (5, .int .i64 (o0.fitems.length : Int))] ⟨rfl, rfl, rfl, trivial⟩ (fun u => ?_)
 refine c_sta ⟨w0, M, (100030, g1, .cells #[.int .i64 p1] 3 (0, 0)) :: (1000, go0, .cells #[.slice Ao0_0 o0.fitems.length co0_0, .slice Ao0_1 o0.fconns.length co0_1, .int .i64 o0.flast, .int .i64 o0.fopens] 61 (0, 0)) :: H, (1000, ⟨.slice Ao0_0 o0.fitems.length co0_0, 40, 6, o0.fitems.length, o0.fitems.flatMap GItem.enc⟩) :: (1001, ⟨.slice Ao0_1 o0.fconns.length co0_1, 63, 3, o0.fconns.length, o0.fconns.flatMap Gnet_conn.enc⟩) :: R, φ⟩ (fun _ h => h) <| c_seq <| c_region <| g_v rfl r_move <| g_v rfl r_move <| g_v rfl (r_nilck rfl) <| g_v rfl (r_field (n := 0) Try.underlying61 rfl Try.sizeOf52 rfl rfl) <| g_v rfl (r_load (tag := 1000) rfl rfl rfl Try.isAgg52) <| g_v rfl (r_mkf rfl) ?_
 replace hm := bnd hm
 obtain ⟨x2, hx3, hm⟩ := hm
 refine g_cn ⟨w0, M, (1000, g1, .cells #[.int .i64 p1] 3 (0, 0)) :: (1000, go0, .cells #[.slice Ao0_0 o0.fitems.length co0_0, .slice Ao0_1 o0.fconns.length co0_1, .int .i64 o0.flast, .int .i64 o0.fopens] 61 (0, 0)) :: H, (1000, ⟨.slice Ao0_0 o0.fitems.length co0_0, 40, 6, o0.fitems.length, o0.fitems.flatMap GItem.enc⟩) :: (1001, ⟨.slice Ao0_1 o0.fconns.length co0_1, 63, 3, o0.fconns.length, o0.fconns.flatMap Gnet_conn.enc⟩) :: R, φ⟩ (fun W h => (ok_front (t := 100030) (t' := 1000) (ok_frontR (t := 1000) (t' := 1000) h rfl) rfl)) Try.call31 rfl rfl (c_slices_DeleteFunc_31_2 o0.fitems Ao0_0 co0_0 hco0_0 g1 p1 _ hx3) (fun ⟨A4, c5⟩ hc5 => ?_)
 refine g_sta _ (fun W h => (ok_frontR (t := 2000) (t' := 1000) (ok_front (t := 1000) (t' := 100030) h rfl) rfl)) <| g_v rfl (r_nilck rfl) <| g_v rfl (r_field (n := 0) Try.underlying61 rfl Try.sizeOf52 rfl rfl) <| g_storeL (tag := 1000) rfl rfl rfl rfl Try.sizeOf52 rfl rfl <| g_nil <| d_then ?_
 refine c_flat [(0, .pointer (some ⟨go0, 0, none⟩)), (3, .pointer (some ⟨g1, 0, none⟩)), (5, .int .i64 (o0.fitems.length : Int))] ⟨rfl, rfl, rfl, trivial⟩ (fun u => ?_)
 refine c_sta ⟨w0, M, (100030, g1, .cells #[.int .i64 p1] 3 (0, 0)) :: (1000, go0, .cells #[.slice A4 x2.length c5, .slice Ao0_1 o0.fconns.length co0_1, .int .i64 o0.flast, .int .i64 o0.fopens] 61 (0, 0)) :: H, (1000, ⟨.slice A4 x2.length c5, 40, 6, x2.length, x2.flatMap GItem.enc⟩) :: (1001, ⟨.slice Ao0_1 o0.fconns.length co0_1, 63, 3, o0.fconns.length, o0.fconns.flatMap Gnet_conn.enc⟩) :: R, φ⟩ (fun _ h => h) <| c_seq <| c_region <| g_v rfl r_move <| g_v rfl r_move <| g_v rfl (r_nilck rfl) <| g_v rfl (r_field (n := 0) Try.underlying61 rfl Try.sizeOf52 rfl rfl) <| g_v rfl (r_load (tag := 1000) rfl rfl rfl Try.isAgg52) <| g_v rfl (r_lenL Try.underlying52 rfl) <| g_v rfl (r_sub rfl rfl rfl) ?_
 refine g_v rfl r_assign <| g_nil <| d_then <| c_seq <| c_seq <| c_region <| g_v rfl r_move <| g_v rfl (r_nilck rfl) <| g_v rfl (r_field (n := 1) Try.underlying61 rfl Try.sizeOf59 rfl rfl) <| g_v rfl (r_load (tag := 1000) rfl rfl rfl Try.isAgg59) ?_
 refine g_v rfl (r_lenL Try.underlying59 rfl) <| g_v rfl r_move <| g_nil <| d_then ?_
 refine c_flat [(0, .pointer (some ⟨go0, 0, none⟩)), (3, .pointer (some ⟨g1, 0, none⟩)), (6, .int .i64 (w64 ((o0.fitems.length : Int) - (x2.length : Int)))), (35, .slice Ao0_1 o0.fconns.length co0_1), (36, .int .i64 (o0.fconns.length : Int)), (37, .int .i64 0)] ⟨rfl, rfl, rfl, rfl, rfl, rfl, trivial⟩ (fun u => ?_)
 refine c_cut (ι := (List GItem) × Int × Int × Option Addr × Nat) [0, 3, 6] (fun ⟨l87, i90, i91, A88, c89⟩ => [(6, .int .i64 i90)]) (fun ⟨l87, i90, i91, A88, c89⟩ => ⟨w0, M, (100030, g1, .cells #[.int .i64 p1] 3 (0, 0)) :: (1000, go0, .cells #[.slice A88 l87.length c89, .slice Ao0_1 o0.fconns.length co0_1, .int .i64 i91, .int .i64 o0.fopens] 61 (0, 0)) :: H, (1000, ⟨.slice A88 l87.length c89, 40, 6, l87.length, l87.flatMap GItem.enc⟩) :: (1001, ⟨.slice Ao0_1 o0.fconns.length co0_1, 63, 3, o0.fconns.length, o0.fconns.flatMap Gnet_conn.enc⟩) :: R, φ⟩) (fun ⟨l87, i90, i91, A88, c89⟩ => m_net_Net_Lose_j1 o0 p1 l87 i90 i91 = some r ∧ l87.length ≤ c89) ?_ (fun ⟨l87, i90, i91, A88, c89⟩ u ⟨hm, hc89⟩ => ?_)
 ·
  refine c_block ?_
  replace hm := bnd hm
  obtain ⟨out2, hl2, hr2⟩ := hm
  obtain ⟨n176', hl2⟩ := loop_lp hl2
  refine c_loopU (ι := Nat × (List GItem) × Int × Int × Int × Option Addr × Nat) [0, 3, 6, 35, 36, 37] (fun ⟨n176, l134, i137, i138, i139, A135, c136⟩ => [(6, .int .i64 i137), (37, .int .i64 i138)]) (fun ⟨n176, l134, i137, i138, i139, A135, c136⟩ => ⟨w0, M, (100030, g1, .cells #[.int .i64 p1] 3 (0, 0)) :: (1000, go0, .cells #[.slice A135 l134.length c136, .slice Ao0_1 o0.fconns.length co0_1, .int .i64 i139, .int .i64 o0.fopens] 61 (0, 0)) :: H, (1000, ⟨.slice A135 l134.length c136, 40, 6, l134.length, l134.flatMap GItem.enc⟩) :: (1001, ⟨.slice Ao0_1 o0.fconns.length co0_1, 63, 3, o0.fconns.length, o0.fconns.flatMap Gnet_conn.enc⟩) :: R, φ⟩) (fun ⟨n176, l134, i137, i138, i139, A135, c136⟩ => Lp (fun s => m_net_Net_Lose_s2 o0 p1 s.1 s.2.1 s.2.2.1 s.2.2.2) n176 (l134, i137, i138, i139) out2 ∧ l134.length ≤ c136) (fun ⟨n176, l134, i137, i138, i139, A135, c136⟩ => n176) (n176', x2, w64 ((o0.fitems.length : Int) - (x2.length : Int)), 0, o0.flast, A4, c5) ⟨hl2, hc5⟩ ⟨rfl, rfl, rfl, rfl, rfl, rfl, trivial⟩ (fun W h => h.phi (fun W hφ => hφ)) (fun ⟨n176, l134, i137, i138, i139, A135, c136⟩ u ⟨hlp, hc136⟩ => ?_)
  obtain ⟨o2, hm, hnx2⟩ := lp_step hlp
  clear hlp
  replace hm : m_net_Net_Lose_s2 o0 p1 l134 i137 i138 i139 = some o2 := hm
  unfold m_net_Net_Lose_s2 at hm
  refine c_flat [(0, .pointer (some ⟨go0, 0, none⟩)), (3, .pointer (some ⟨g1, 0, none⟩)), (6, .int .i64 i137), (35, .slice Ao0_1 o0.fconns.length co0_1), (36, .int .i64 (o0.fconns.length : Int)), (37, .int .i64 i138)] ⟨rfl, rfl, rfl, rfl, rfl, rfl, trivial⟩ (fun u => ?_)
  refine c_sta ⟨w0, M, (100030, g1, .cells #[.int .i64 p1] 3 (0, 0)) :: (1000, go0, .cells #[.slice A135 l134.length c136, .slice Ao0_1 o0.fconns.length co0_1, .int .i64 i139, .int .i64 o0.fopens] 61 (0, 0)) :: H, (1000, ⟨.slice A135 l134.length c136, 40, 6, l134.length, l134.flatMap GItem.enc⟩) :: (1001, ⟨.slice Ao0_1 o0.fconns.length co0_1, 63, 3, o0.fconns.length, o0.fconns.flatMap Gnet_conn.enc⟩) :: R, φ⟩ (fun _ h => h) <| c_seq <| c_region <| g_v rfl (r_lss rfl rfl) <| g_nil <| d_then <| c_seq ?_
  refine c_cond rfl (fun h177 => ?_) (fun h177 => ?_)
  ·
   replace hm := ite_t hm (of_decide_eq_true h177)
   refine c_skip <| d_then <| c_seq <| c_block <| c_seq <| c_region ?_
   replace hm := bnd hm
   obtain ⟨x178, hx178, hm⟩ := hm
   refine g_know _ (fun W hS => cl_at (p := (Sta.ok ⟨w0, M, (100030, g1, .cells #[.int .i64 p1] 3 (0, 0)) :: (1000, go0, .cells #[.slice A135 l134.length c136, .slice Ao0_1 o0.fconns.length co0_1, .int .i64 i139, .int .i64 o0.fopens] 61 (0, 0)) :: H, (1000, ⟨.slice A135 l134.length c136, 40, 6, l134.length, l134.flatMap GItem.enc⟩) :: (1001, ⟨.slice Ao0_1 o0.fconns.length co0_1, 63, 3, o0.fconns.length, o0.fconns.flatMap Gnet_conn.enc⟩) :: R, φ⟩)) (sz := 3) (fun _ => rfl) (by decide) hS (fun W hS => rowCl (S := ⟨w0, M, (100030, g1, .cells #[.int .i64 p1] 3 (0, 0)) :: (1000, go0, .cells #[.slice A135 l134.length c136, .slice Ao0_1 o0.fconns.length co0_1, .int .i64 i139, .int .i64 o0.fopens] 61 (0, 0)) :: H, (1000, ⟨.slice A135 l134.length c136, 40, 6, l134.length, l134.flatMap GItem.enc⟩) :: (1001, ⟨.slice Ao0_1 o0.fconns.length co0_1, 63, 3, o0.fconns.length, o0.fconns.flatMap Gnet_conn.enc⟩) :: R, φ⟩) (tag := 1001) rfl W hS) hx178) ?_
   rintro ⟨ad179, hA181, f180⟩
   refine g_v rfl (r_ix Try.underlying59 Try.sizeOf63 rfl hA181 rfl hx178) <| g_v rfl (r_ldA rfl Try.isAgg63 Try.sizeOf63 (fun W hS => (f180 W hS).take 3) rfl) ?_
   refine g_e rfl (e_alloc 100080 Try.zeroValue63) (fun g182 _ => ?_)
   refine g_storeL (tag := 100080) rfl rfl rfl rfl Try.sizeOf63 rfl rfl <| g_nil <| d_then <| c_seq <| c_region <| g_v rfl (r_loadA (tag := 100080) rfl rfl Try.isAgg63 Try.sizeOf63 rfl rfl) <| g_v rfl (r_load (tag := 100030) rfl rfl rfl Try.isAgg3) ?_
   replace hm := bnd hm
   obtain ⟨x183, hx184, hm⟩ := hm
   refine g_cn ⟨w0, M, _, _, φ⟩ (fun _ h => h) Try.call39 rfl rfl (c_net_conn_has x178 p1 _ hx184) (fun _ _ => ?_)
   refine g_nil <| d_then ?_
   refine c_cond rfl (fun h185 => ?_) (fun h185 => ?_)
   ·
    replace hm := ite_t hm h185
    refine ga_start (n := 6) ⟨w0, M, (100080, g182, .cells #[.int .i64 x178.fnumber, .int .i64 x178.fends.a0, .int .i64 x178.fends.a1] 63 (0, 0)) :: (100030, g1, .cells #[.int .i64 p1] 3 (0, 0)) :: H, R, φ⟩ [] #[false, false, false, false, false, false] (fun W h => (((h.dropR (t := 1000) rfl).dropR (t := 1001) rfl).dropH (t := 1000) rfl).phi (fun W hφ => hφ)) mixed rfl rfl <| ga_v (i := 0) (bz 6 1) rfl (by kernel_rfl) (fun _ _ _ _ h => h) rfl (r_move) <| ga_v (i := 1) (bz 6 3) rfl (by kernel_rfl) (fun _ _ _ _ h => h) rfl (r_loadA (tag := 100080) rfl rfl Try.isAgg63 Try.sizeOf63 rfl rfl) <| ga_v (i := 2) (bz 6 7) rfl (by kernel_rfl) (fun _ _ _ _ h => h) rfl (r_loadA (tag := 100080) rfl rfl Try.isAgg63 Try.sizeOf63 rfl rfl) <| ga_r (i := 3) (bz 6 15) rfl (by kernel_rfl) (by decide) rfl (r_load (tag := 100030) rfl rfl rfl Try.isAgg3) ?_
    replace hm := bnd hm
    obtain ⟨x200, hx201, hm⟩ := hm
    refine ga_cn (first := #[]) (i := 4) (bz 6 31) rfl (by kernel_rfl) (by decide)  ⟨w0, M, _, _, φ⟩ (fun _ h => h) Try.call40 rfl rfl rfl (c_net_conn_other x178 p1 _ hx201) (fun _ W _ h => (((h.dropR (t := 1000) rfl).dropR (t := 1001) rfl).dropH (t := 1000) rfl).phi (fun W hφ => hφ)) (fun _ _ => ?_)
    replace hm := bnd hm
    obtain ⟨x202, hx203, hm⟩ := hm
    refine ga_cn (first := #[]) (i := 5) (bz 6 63) rfl (by kernel_rfl) (by decide)  ⟨w0, M, (1000, go0, .cells #[.slice A135 l134.length c136, .slice Ao0_1 o0.fconns.length co0_1, .int .i64 i139, .int .i64 o0.fopens] 61 (0, 0)) :: (100080, g182, .cells #[.int .i64 x178.fnumber, .int .i64 x178.fends.a0, .int .i64 x178.fends.a1] 63 (0, 0)) :: (100030, g1, .cells #[.int .i64 p1] 3 (0, 0)) :: H, (1000, ⟨.slice A135 l134.length c136, 40, 6, l134.length, l134.flatMap GItem.enc⟩) :: (1001, ⟨.slice Ao0_1 o0.fconns.length co0_1, 63, 3, o0.fconns.length, o0.fconns.flatMap Gnet_conn.enc⟩) :: R, φ⟩ (fun W h => (ok_front (t := 1000) (t' := 1000) (ok_frontR (t := 1000) (t' := 1000) (ok_frontR (t := 1001) (t' := 1001) h rfl) rfl) rfl)) Try.call33 rfl rfl rfl (c_net_Net_closed x178 x200 go0 (⟨l134, o0.fconns, i139, o0.fopens⟩ : Gnet_Net) A135 c136 hc136 Ao0_1 co0_1 hco0_1 _ hx203) (fun ⟨A204, c205⟩ W hc205 h => ((((ok_frontR (t := 2000) (t' := 1000) (ok_frontR (t := 1001) (t' := 1001) (ok_front (t := 1000) (t' := 1000) h rfl) rfl) rfl).dropR (t := 1000) rfl).dropR (t := 1001) rfl).dropH (t := 1000) rfl).phi (fun W hφ => hφ)) (fun ⟨A204, c205⟩ hc205 => ?_)
    refine ga_sta _ (fun W h => (ok_frontR (t := 2000) (t' := 1000) (ok_frontR (t := 1001) (t' := 1001) (ok_front (t := 1000) (t' := 1000) h rfl) rfl) rfl)) <| ga_done (by kernel_rfl) <| d_normal_block <| d_then ?_
    refine c_flat [(0, .pointer (some ⟨go0, 0, none⟩)), (3, .pointer (some ⟨g1, 0, none⟩)), (6, .int .i64 i137), (35, .slice Ao0_1 o0.fconns.length co0_1), (36, .int .i64 (o0.fconns.length : Int)), (37, .int .i64 i138)] ⟨rfl, rfl, rfl, rfl, rfl, rfl, trivial⟩ (fun u => ?_)
    refine c_sta ⟨w0, M, (1000, go0, .cells #[.slice A204 x202.fitems.length c205, .slice Ao0_1 o0.fconns.length co0_1, .int .i64 x202.flast, .int .i64 o0.fopens] 61 (0, 0)) :: (100080, g182, .cells #[.int .i64 x178.fnumber, .int .i64 x178.fends.a0, .int .i64 x178.fends.a1] 63 (0, 0)) :: (100030, g1, .cells #[.int .i64 p1] 3 (0, 0)) :: H, (1000, ⟨.slice A204 x202.fitems.length c205, 40, 6, x202.fitems.length, x202.fitems.flatMap GItem.enc⟩) :: (1001, ⟨.slice Ao0_1 o0.fconns.length co0_1, 63, 3, o0.fconns.length, o0.fconns.flatMap Gnet_conn.enc⟩) :: R, φ⟩ (fun _ h => h) <| c_region <| g_v rfl (r_add rfl rfl rfl) <| g_v rfl r_move <| g_nil ?_
    obtain ⟨n207, hn207, hlp⟩ := nx_inl hm hnx2
    exact d_round (n207, x202.fitems, i137, w64 (i138 + 1), x202.flast, A204, c205) ⟨hlp, hc205⟩ hn207 ⟨rfl, rfl, rfl, rfl, rfl, rfl, trivial⟩ (fun W h => (ok_front (t := 100030) (t' := 100030) (ok_front (t := 1000) (t' := 1000) (h.dropH (t := 100080) rfl) rfl) rfl).phi (fun W hφ => hφ))
   ·
    replace hm := ite_f hm (bool_nt h185)
    refine c_skip <| d_normal_block <| d_then <| c_region <| g_v rfl (r_add rfl rfl rfl) <| g_v rfl r_move <| g_nil ?_
    obtain ⟨n208, hn208, hlp⟩ := nx_inl hm hnx2
    exact d_round (n208, l134, i137, w64 (i138 + 1), i139, A135, c136) ⟨hlp, hc136⟩ hn208 ⟨rfl, rfl, rfl, rfl, rfl, rfl, trivial⟩ (fun W h => (h.dropH (t := 100080) rfl).phi (fun W hφ => hφ))
  ·
   replace hm := ite_f hm (of_decide_eq_false h177)
   refine c_exit <| d_exit_then <| d_exit_then <| d_exit_block ?_
   replace hm := nx_out (C := (fun e => m_net_Net_Lose_j1 o0 p1 e.1 e.2.1 e.2.2 = some r)) hm hnx2 hr2
   exact d_round (l134, i137, i139, A135, c136) ⟨hm, hc136⟩ Nat.zero_lt_one ⟨rfl, rfl, rfl, trivial⟩ (fun W h => h.phi (fun W hφ => hφ))
 ·
  unfold m_net_Net_Lose_j1 at hm
  refine d_flat [(0, .pointer (some ⟨go0, 0, none⟩)), (3, .pointer (some ⟨g1, 0, none⟩)), (6, .int .i64 i90)] ⟨rfl, rfl, rfl, trivial⟩ (fun u => ?_)
  refine d_sta ⟨w0, M, (100030, g1, .cells #[.int .i64 p1] 3 (0, 0)) :: (1000, go0, .cells #[.slice A88 l87.length c89, .slice Ao0_1 o0.fconns.length co0_1, .int .i64 i91, .int .i64 o0.fopens] 61 (0, 0)) :: H, (1000, ⟨.slice A88 l87.length c89, 40, 6, l87.length, l87.flatMap GItem.enc⟩) :: (1001, ⟨.slice Ao0_1 o0.fconns.length co0_1, 63, 3, o0.fconns.length, o0.fconns.flatMap Gnet_conn.enc⟩) :: R, φ⟩ (fun _ h => h) <| d_then <| c_seq <| c_region <| g_v rfl r_move <| g_v rfl r_move <| g_v rfl (r_nilck rfl) <| g_v rfl (r_field (n := 1) Try.underlying61 rfl Try.sizeOf59 rfl rfl) <| g_v rfl (r_load (tag := 1000) rfl rfl rfl Try.isAgg59) <| g_v rfl (r_mkf rfl) ?_
  replace hm := bnd hm
  obtain ⟨x92, hx93, hm⟩ := hm
  refine g_cn ⟨w0, M, (1000, g1, .cells #[.int .i64 p1] 3 (0, 0)) :: (1000, go0, .cells #[.slice A88 l87.length c89, .slice Ao0_1 o0.fconns.length co0_1, .int .i64 i91, .int .i64 o0.fopens] 61 (0, 0)) :: H, (1000, ⟨.slice Ao0_1 o0.fconns.length co0_1, 63, 3, o0.fconns.length, o0.fconns.flatMap Gnet_conn.enc⟩) :: (1000, ⟨.slice A88 l87.length c89, 40, 6, l87.length, l87.flatMap GItem.enc⟩) :: R, φ⟩ (fun W h => (ok_front (t := 100030) (t' := 1000) (ok_frontR (t := 1001) (t' := 1000) h rfl) rfl)) Try.call41 rfl rfl (c_slices_DeleteFunc_41 o0.fconns Ao0_1 co0_1 hco0_1 g1 p1 _ hx93) (fun ⟨A94, c95⟩ hc95 => ?_)
  refine g_sta _ (fun W h => (ok_frontR (t := 2000) (t' := 1001) (ok_front (t := 1000) (t' := 100030) h rfl) rfl)) <| g_v rfl (r_nilck rfl) <| g_v rfl (r_field (n := 1) Try.underlying61 rfl Try.sizeOf59 rfl rfl) <| g_storeL (tag := 1000) rfl rfl rfl rfl Try.sizeOf59 rfl rfl <| g_nil <| d_then ?_
  refine c_flat [(6, .int .i64 i90)] ⟨rfl, trivial⟩ (fun u => ?_)
  refine c_sta ⟨w0, M, (100030, g1, .cells #[.int .i64 p1] 3 (0, 0)) :: (1000, go0, .cells #[.slice A88 l87.length c89, .slice A94 x92.length c95, .int .i64 i91, .int .i64 o0.fopens] 61 (0, 0)) :: H, (1001, ⟨.slice A94 x92.length c95, 63, 3, x92.length, x92.flatMap Gnet_conn.enc⟩) :: (1000, ⟨.slice A88 l87.length c89, 40, 6, l87.length, l87.flatMap GItem.enc⟩) :: R, φ⟩ (fun _ h => h) <| c_seq <| c_region <| g_v rfl r_move <| g_v rfl r_assign <| g_nil <| d_then <| c_ret ?_
  replace hm := Option.some.inj hm
  subst hm
  refine d_sta _ (fun W h => ok_frontR (t := 1001) (t' := 2001) h rfl) <| d_sta _ (fun W h => ok_frontR (t := 1000) (t' := 2000) h rfl) ?_
  refine d_retC (A88, c89, A94, c95) Try.results19 ?_ ⟨hc89, hc95⟩ (fun W h => (h.dropH (t := 100030) rfl).phi (fun W hφ => hφ)) (.inr rfl)
  refine res_tmp <| res_nil ?_
  exact rfl
noncomputable def m_law08_NetFull_j2 (l84 : List Gnet_conn) (i89 : Int) (i87 : Int) (x1 : Bool) (l131 : List GItem) (i134 : Int) (i135 : Int) : Option Bool :=
  (m_net_Net_Waits (⟨l131, l84, i135, i89⟩ : Gnet_Net)).bind fun x136 =>
  if 1024 < x136 then
    some false
  else
    (m_net_Net_Waits (⟨l131, l84, i135, i89⟩ : Gnet_Net)).bind fun x139 =>
    if x139 ≠ w64 (i87 + i134) then
      some false
    else
      (m_net_Net_Lose 1 (⟨l131, l84, i135, i89⟩ : Gnet_Net)).bind fun (z151 : Int × Gnet_Net) =>
      if x1 = true then
        if z151.1 = w64 (i87 + i134) then
          (m_net_Net_Waits (⟨z151.2.fitems, z151.2.fconns, z151.2.flast, i89⟩ : Gnet_Net)).bind fun x154 =>
          some (decide (x154 = i87))
        else
          some false
      else
        some false
noncomputable def m_law08_NetFull_s3 (p0 : Int) (l84 : List Gnet_conn) (i89 : Int) (l173 : List GItem) (i176 : Int) (i177 : Int) (i178 : Int) : Option (((List GItem) × Int × Int × Int) ⊕ ((List GItem) × Int × Int)) :=
  (m_ref08_Pick p0 1101).bind fun x197 =>
  if i177 < x197 then
    (m_net_Net_Send 1 2 (⟨#[]⟩ : ByteArray) (⟨l173, l84, i178, i89⟩ : Gnet_Net)).bind fun (z206 : Bool × Gnet_Net) =>
    if z206.1 = true then
      some (.inl (z206.2.fitems, w64 (i176 + 1), w64 (i177 + 1), z206.2.flast))
    else
      some (.inl (z206.2.fitems, i176, w64 (i177 + 1), z206.2.flast))
  else
    some (.inr (l173, i176, i178))
noncomputable def m_law08_NetFull_j1 (p0 : Int) (x1 : Bool) (l81 : List GItem) (l84 : List Gnet_conn) (i87 : Int) (i88 : Int) (i89 : Int) : Option Bool :=
  (loop (fun s => m_law08_NetFull_s3 p0 l84 i89 s.1 s.2.1 s.2.2.1 s.2.2.2) (l81, 0, 0, i88)).bind fun e => m_law08_NetFull_j2 l84 i89 i87 x1 e.1 e.2.1 e.2.2
noncomputable def m_law08_NetFull_j5 (x283 : Bool) (i246 : Int) (x282 : Int) (x284 : Gnet_Net) (i294 : Int) : Option (((List GItem) × (List Gnet_conn) × Int × Int × Int × Int) ⊕ (((List GItem) × (List Gnet_conn) × Int × Int × Int) ⊕ Bool)) :=
  if (!(x283 == (decide (i246 < 256)))) = true then
    some (.inr (.inr false))
  else
    if x283 = true then
      if x282 ≠ w64 (i246 + 1) then
        some (.inr (.inr false))
      else
        some (.inl (x284.fitems, x284.fconns, i294, w64 (i246 + 1), x284.flast, x284.fopens))
    else
      some (.inl (x284.fitems, x284.fconns, i294, w64 (i246 + 1), x284.flast, x284.fopens))
noncomputable def m_law08_NetFull_s4 (p1 : Int) (l239 : List GItem) (l242 : List Gnet_conn) (i245 : Int) (i246 : Int) (i247 : Int) (i248 : Int) : Option (((List GItem) × (List Gnet_conn) × Int × Int × Int × Int) ⊕ (((List GItem) × (List Gnet_conn) × Int × Int × Int) ⊕ Bool)) :=
  (m_ref08_Pick p1 301).bind fun x279 =>
  if i246 < x279 then
    (m_net_Net_Open 1 2 (⟨l239, l242, i247, i248⟩ : Gnet_Net)).bind fun (z292 : Int × Bool × Gnet_Net) =>
    if z292.2.1 = true then
      m_law08_NetFull_j5 z292.2.1 i246 z292.1 z292.2.2 (w64 (i245 + 1))
    else
      m_law08_NetFull_j5 z292.2.1 i246 z292.1 z292.2.2 i245
  else
    some (.inr (.inl (l239, l242, i245, i247, i248)))
noncomputable def m_law08_NetFull (p0 : Int) (p1 : Int) : Option Bool :=
  (m_law08_awake).bind fun x1 =>
  (m_net_New).bind fun x3 =>
  (loop (fun s => m_law08_NetFull_s4 p1 s.1 s.2.1 s.2.2.1 s.2.2.2.1 s.2.2.2.2.1 s.2.2.2.2.2) (x3.fitems, x3.fconns, 0, 0, x3.flast, x3.fopens)).bind fun e => Sum.elim (fun e => m_law08_NetFull_j1 p0 x1 e.1 e.2.1 e.2.2.1 e.2.2.2.1 e.2.2.2.2) (fun x => some x) e
theorem c_law08_NetFull {w0 : World} {M : Nat → Prop} {H : List (Nat × Nat × Obj)} {R : List (Nat × Row)} {φ : World → Prop} (p0 : Int) (p1 : Int) (r : Bool) (hm : m_law08_NetFull p0 p1 = some r) :
    Cn Try.prog 4 #[.int .i64 p0, .int .i64 p1] ⟨w0, M, H, R, φ⟩ (fun x : Unit => .bool r) (fun x => True) (fun x => ⟨w0, M, H, R, φ⟩) := by
 unfold m_law08_NetFull at hm
 refine cn_intro (fn := Try.f4) (N := 82) Try.func4 rfl Try.ntmps4 rfl <| c_seq <| c_region <| g_v rfl r_assign <| g_nil <| d_then <| c_seq <| c_region ?_
 replace hm := bnd hm
 obtain ⟨x1, hx2, hm⟩ := hm
 refine g_cn ⟨w0, M, _, _, φ⟩ (fun _ h => h) Try.call9 rfl rfl (c_law08_awake  _ hx2) (fun _ _ => ?_)
 refine g_v rfl r_assign <| g_nil <| d_then <| c_seq <| c_region ?_
 replace hm := bnd hm
 obtain ⟨x3, hx4, hm⟩ := hm
 refine g_cn ⟨w0, M, _, _, φ⟩ (fun _ h => h) Try.call10 rfl rfl (c_net_New  _ hx4) (fun ⟨A5, c6, A8, c9, g11⟩ ⟨hc6, hc9⟩ => ?_)
 refine g_sta _ (fun W h => (ok_frontR (t := 2000) (t' := 100150) (ok_frontR (t := 2001) (t' := 100151) (ok_front (t := 3000) (t' := 100155) h rfl) rfl) rfl)) <| g_v rfl r_assign <| g_nil <| d_then <| c_seq <| c_seq <| c_region <| g_v rfl r_move <| g_v rfl (r_eqlP1 Try.underlying24 rfl rfl) <| g_nil ?_
 refine d_then <| c_cond0 rfl rfl <| c_skip <| d_then <| c_seq <| c_region <| g_v rfl r_assign <| g_nil <| d_then <| c_seq ?_
 refine c_seq <| c_region <| g_v rfl r_assign <| g_nil <| d_then ?_
 refine c_flat [(0, .int .i64 p0), (1, .int .i64 p1), (5, .bool x1), (6, .pointer (some ⟨g11, 0, none⟩)), (7, .int .i64 0), (8, .int .i64 0)] ⟨rfl, rfl, rfl, rfl, rfl, rfl, trivial⟩ (fun u => ?_)
 refine c_sta ⟨w0, M, (100155, g11, .cells #[.slice A5 x3.fitems.length c6, .slice A8 x3.fconns.length c9, .int .i64 x3.flast, .int .i64 x3.fopens] 61 (0, 0)) :: H, (100150, ⟨.slice A5 x3.fitems.length c6, 40, 6, x3.fitems.length, x3.fitems.flatMap GItem.enc⟩) :: (100151, ⟨.slice A8 x3.fconns.length c9, 63, 3, x3.fconns.length, x3.fconns.flatMap Gnet_conn.enc⟩) :: R, φ⟩ (fun _ h => h) ?_
 refine c_cut (ι := (List GItem) × (List Gnet_conn) × Int × Int × Int × Option Addr × Nat × Option Addr × Nat) [0, 5, 6, 7] (fun ⟨l81, l84, i87, i88, i89, A82, c83, A85, c86⟩ => [(7, .int .i64 i87)]) (fun ⟨l81, l84, i87, i88, i89, A82, c83, A85, c86⟩ => ⟨w0, M, (100155, g11, .cells #[.slice A82 l81.length c83, .slice A85 l84.length c86, .int .i64 i88, .int .i64 i89] 61 (0, 0)) :: H, (100150, ⟨.slice A82 l81.length c83, 40, 6, l81.length, l81.flatMap GItem.enc⟩) :: (100151, ⟨.slice A85 l84.length c86, 63, 3, l84.length, l84.flatMap Gnet_conn.enc⟩) :: R, φ⟩) (fun ⟨l81, l84, i87, i88, i89, A82, c83, A85, c86⟩ => m_law08_NetFull_j1 p0 x1 l81 l84 i87 i88 i89 = some r ∧ l81.length ≤ c83 ∧ l84.length ≤ c86) ?_ (fun ⟨l81, l84, i87, i88, i89, A82, c83, A85, c86⟩ u ⟨hm, hc83, hc86⟩ => ?_)
 ·
  refine c_block ?_
  replace hm := bnd hm
  obtain ⟨out4, hl4, hr4⟩ := hm
  obtain ⟨n278', hl4⟩ := loop_lp hl4
  refine c_loopU (ι := Nat × (List GItem) × (List Gnet_conn) × Int × Int × Int × Int × Option Addr × Nat × Option Addr × Nat) [0, 1, 5, 6, 7, 8] (fun ⟨n278, l239, l242, i245, i246, i247, i248, A240, c241, A243, c244⟩ => [(7, .int .i64 i245), (8, .int .i64 i246)]) (fun ⟨n278, l239, l242, i245, i246, i247, i248, A240, c241, A243, c244⟩ => ⟨w0, M, (100155, g11, .cells #[.slice A240 l239.length c241, .slice A243 l242.length c244, .int .i64 i247, .int .i64 i248] 61 (0, 0)) :: H, (100150, ⟨.slice A240 l239.length c241, 40, 6, l239.length, l239.flatMap GItem.enc⟩) :: (100151, ⟨.slice A243 l242.length c244, 63, 3, l242.length, l242.flatMap Gnet_conn.enc⟩) :: R, φ⟩) (fun ⟨n278, l239, l242, i245, i246, i247, i248, A240, c241, A243, c244⟩ => Lp (fun s => m_law08_NetFull_s4 p1 s.1 s.2.1 s.2.2.1 s.2.2.2.1 s.2.2.2.2.1 s.2.2.2.2.2) n278 (l239, l242, i245, i246, i247, i248) out4 ∧ l239.length ≤ c241 ∧ l242.length ≤ c244) (fun ⟨n278, l239, l242, i245, i246, i247, i248, A240, c241, A243, c244⟩ => n278) (n278', x3.fitems, x3.fconns, 0, 0, x3.flast, x3.fopens, A5, c6, A8, c9) ⟨hl4, hc6, hc9⟩ ⟨rfl, rfl, rfl, rfl, rfl, rfl, trivial⟩ (fun W h => h.phi (fun W hφ => hφ)) (fun ⟨n278, l239, l242, i245, i246, i247, i248, A240, c241, A243, c244⟩ u ⟨hlp, hc241, hc244⟩ => ?_)
  obtain ⟨o4, hm, hnx4⟩ := lp_step hlp
  clear hlp
  replace hm : m_law08_NetFull_s4 p1 l239 l242 i245 i246 i247 i248 = some o4 := hm
  unfold m_law08_NetFull_s4 at hm
  refine c_flat [(0, .int .i64 p0), (1, .int .i64 p1), (5, .bool x1), (6, .pointer (some ⟨g11, 0, none⟩)), (7, .int .i64 i245), (8, .int .i64 i246)] ⟨rfl, rfl, rfl, rfl, rfl, rfl, trivial⟩ (fun u => ?_)
  refine c_sta ⟨w0, M, (100155, g11, .cells #[.slice A240 l239.length c241, .slice A243 l242.length c244, .int .i64 i247, .int .i64 i248] 61 (0, 0)) :: H, (100150, ⟨.slice A240 l239.length c241, 40, 6, l239.length, l239.flatMap GItem.enc⟩) :: (100151, ⟨.slice A243 l242.length c244, 63, 3, l242.length, l242.flatMap Gnet_conn.enc⟩) :: R, φ⟩ (fun _ h => h) <| c_seq <| c_seq <| c_region <| g_v rfl r_move <| g_v rfl r_move ?_
  replace hm := bnd hm
  obtain ⟨x279, hx280, hm⟩ := hm
  refine g_cn ⟨w0, M, _, _, φ⟩ (fun _ h => h) Try.call11 rfl rfl (c_ref08_Pick p1 301 _ hx280) (fun _ _ => ?_)
  refine g_v rfl (r_lss rfl rfl) <| g_nil <| d_then ?_
  refine c_cond rfl (fun h281 => ?_) (fun h281 => ?_)
  ·
   replace hm := ite_t hm (of_decide_eq_true h281)
   refine c_skip <| d_then <| c_seq <| c_block <| c_seq <| c_region <| g_v rfl r_move ?_
   replace hm := bnd hm
   obtain ⟨⟨x282, x283, x284⟩, hx285, hm⟩ := hm
   refine g_cn ⟨w0, M, (1000, g11, .cells #[.slice A240 l239.length c241, .slice A243 l242.length c244, .int .i64 i247, .int .i64 i248] 61 (0, 0)) :: H, (1000, ⟨.slice A240 l239.length c241, 40, 6, l239.length, l239.flatMap GItem.enc⟩) :: (1001, ⟨.slice A243 l242.length c244, 63, 3, l242.length, l242.flatMap Gnet_conn.enc⟩) :: R, φ⟩ (fun W h => (ok_front (t := 100155) (t' := 1000) (ok_frontR (t := 100150) (t' := 1000) (ok_frontR (t := 100151) (t' := 1001) h rfl) rfl) rfl)) Try.call12 rfl rfl (c_net_Net_Open 1 2 g11 (⟨l239, l242, i247, i248⟩ : Gnet_Net) A240 c241 hc241 A243 c244 hc244 _ hx285) (fun ⟨A286, c287, A289, c290⟩ ⟨hc287, hc290⟩ => ?_)
   refine g_sta _ (fun W h => (ok_frontR (t := 2000) (t' := 100150) (ok_frontR (t := 2001) (t' := 100151) (ok_front (t := 1000) (t' := 100155) h rfl) rfl) rfl)) <| g_v rfl r_move <| g_v rfl (r_extract rfl rfl) <| g_v rfl (r_extract rfl rfl) <| g_v rfl r_assign <| g_v rfl r_assign <| g_nil <| d_then ?_
   refine c_flat [(0, .int .i64 p0), (1, .int .i64 p1), (5, .bool x1), (6, .pointer (some ⟨g11, 0, none⟩)), (7, .int .i64 i245), (8, .int .i64 i246), (9, .int .i64 x282), (10, .bool x283)] ⟨rfl, rfl, rfl, rfl, rfl, rfl, rfl, rfl, trivial⟩ (fun u => ?_)
   refine c_sta ⟨w0, M, (100155, g11, .cells #[.slice A286 x284.fitems.length c287, .slice A289 x284.fconns.length c290, .int .i64 x284.flast, .int .i64 x284.fopens] 61 (0, 0)) :: H, (100150, ⟨.slice A286 x284.fitems.length c287, 40, 6, x284.fitems.length, x284.fitems.flatMap GItem.enc⟩) :: (100151, ⟨.slice A289 x284.fconns.length c290, 63, 3, x284.fconns.length, x284.fconns.flatMap Gnet_conn.enc⟩) :: R, φ⟩ (fun _ h => h) <| c_seq ?_
   refine c_cut (ι := Int) [0, 1, 5, 6, 7, 8, 9, 10] (fun i294 => [(7, .int .i64 i294)]) (fun i294 => ⟨w0, M, (100155, g11, .cells #[.slice A286 x284.fitems.length c287, .slice A289 x284.fconns.length c290, .int .i64 x284.flast, .int .i64 x284.fopens] 61 (0, 0)) :: H, (100150, ⟨.slice A286 x284.fitems.length c287, 40, 6, x284.fitems.length, x284.fitems.flatMap GItem.enc⟩) :: (100151, ⟨.slice A289 x284.fconns.length c290, 63, 3, x284.fconns.length, x284.fconns.flatMap Gnet_conn.enc⟩) :: R, φ⟩) (fun i294 => m_law08_NetFull_j5 x283 i246 x282 x284 i294 = some o4) ?_ (fun i294 u hm => ?_)
   ·
    refine c_seq <| c_region <| g_v rfl r_move <| g_nil <| d_then ?_
    refine c_cond rfl (fun h300 => ?_) (fun h300 => ?_)
    ·
     replace hm := ite_t hm h300
     refine c_region <| g_v rfl r_move <| g_v rfl (r_add rfl rfl rfl) <| g_v rfl r_assign <| g_nil ?_
     exact d_round (w64 (i245 + 1)) hm Nat.zero_lt_one ⟨rfl, rfl, rfl, rfl, rfl, rfl, rfl, rfl, trivial⟩ (fun W h => h.phi (fun W hφ => hφ))
    ·
     replace hm := ite_f hm (bool_nt h300)
     refine c_skip ?_
     exact d_round i245 hm Nat.zero_lt_one ⟨rfl, rfl, rfl, rfl, rfl, rfl, rfl, rfl, trivial⟩ (fun W h => h.phi (fun W hφ => hφ))
   ·
    unfold m_law08_NetFull_j5 at hm
    refine d_flat [(0, .int .i64 p0), (1, .int .i64 p1), (5, .bool x1), (6, .pointer (some ⟨g11, 0, none⟩)), (7, .int .i64 i294), (8, .int .i64 i246), (9, .int .i64 x282), (10, .bool x283)] ⟨rfl, rfl, rfl, rfl, rfl, rfl, rfl, rfl, trivial⟩ (fun u => ?_)
    refine d_then <| c_seq <| c_region <| g_v rfl r_move <| g_v rfl r_move <| g_v rfl (r_lss rfl rfl) <| g_v rfl (r_neqBo Try.underlying4 rfl rfl) <| g_v rfl r_move ?_
    refine g_if rfl rfl rfl rfl rfl (fun h295 => ?_) (fun h295 => ?_)
    ·
     replace hm := ite_f hm (bool_nt h295)
     refine g_v rfl r_move <| g_do rfl rfl rfl rfl rfl h295 <| g_v rfl r_move ?_
     refine g_if rfl rfl rfl rfl rfl (fun h296 => ?_) (fun h296 => ?_)
     ·
      replace hm := ite_t hm h296
      refine g_v rfl r_move <| g_do rfl rfl rfl rfl rfl h296 <| g_v rfl r_move <| g_do rfl rfl rfl rfl rfl h296 <| g_v rfl (r_add rfl rfl rfl) <| g_do rfl rfl rfl rfl rfl h296 <| g_v rfl (r_neq rfl rfl) <| g_do rfl rfl rfl rfl rfl h295 <| g_v rfl (r_pick1 rfl h296) <| g_v rfl (r_pick0 rfl h295) ?_
      refine g_nil <| d_then ?_
      refine c_flat [(0, .int .i64 p0), (1, .int .i64 p1), (5, .bool x1), (6, .pointer (some ⟨g11, 0, none⟩)), (7, .int .i64 i294), (8, .int .i64 i246), (44, .bool (decide (x282 ≠ w64 (i246 + 1))))] ⟨rfl, rfl, rfl, rfl, rfl, rfl, rfl, trivial⟩ (fun u => ?_)
      refine c_cond rfl (fun h297 => ?_) (fun h297 => ?_)
      ·
       replace hm := ite_t hm (of_decide_eq_true h297)
       refine c_seq <| c_region <| g_v rfl r_assign <| g_nil <| d_then <| c_ret <| d_ret_block <| d_ret_then <| d_ret_then <| d_ret_block ?_
       refine d_ret_then <| d_ret_then ?_
       replace hm := nx_out (C := (fun e => Sum.elim (fun e => m_law08_NetFull_j1 p0 x1 e.1 e.2.1 e.2.2.1 e.2.2.2.1 e.2.2.2.2) (fun x => some x) e = some r)) hm hnx4 hr4
       replace hm : some false = some r := hm
       replace hm := Option.some.inj hm
       subst hm
       refine d_retC () Try.results4 ?_ trivial (fun W h => ok_pre (H1 := [_]) (R1 := [_, _]) h (fun W hφ => hφ)) (.inr rfl)
       refine res_tmp <| res_nil ?_
       exact rfl
      ·
       replace hm := ite_f hm (of_decide_eq_false h297)
       refine c_skip <| d_normal_block <| d_then <| c_region <| g_v rfl r_move <| g_v rfl (r_add rfl rfl rfl) <| g_v rfl r_assign <| g_nil ?_
       obtain ⟨n298, hn298, hlp⟩ := nx_inl hm hnx4
       exact d_round (n298, x284.fitems, x284.fconns, i294, w64 (i246 + 1), x284.flast, x284.fopens, A286, c287, A289, c290) ⟨hlp, hc287, hc290⟩ hn298 ⟨rfl, rfl, rfl, rfl, rfl, rfl, trivial⟩ (fun W h => h.phi (fun W hφ => hφ))
     ·
      replace hm := ite_f hm (bool_nt h296)
      refine g_no rfl rfl rfl rfl rfl h296 <| g_no rfl rfl rfl rfl rfl h296 <| g_no rfl rfl rfl rfl rfl h296 <| g_do rfl rfl rfl rfl rfl h295 <| g_v rfl (r_pick0 rfl h296) <| g_v rfl (r_pick0 rfl h295) <| g_nil <| d_then ?_
      refine c_flat [(0, .int .i64 p0), (1, .int .i64 p1), (5, .bool x1), (6, .pointer (some ⟨g11, 0, none⟩)), (7, .int .i64 i294), (8, .int .i64 i246), (44, .bool false)] ⟨rfl, rfl, rfl, rfl, rfl, rfl, rfl, trivial⟩ (fun u => ?_)
      refine c_cond0 rfl rfl <| c_skip <| d_normal_block <| d_then <| c_region <| g_v rfl r_move <| g_v rfl (r_add rfl rfl rfl) <| g_v rfl r_assign <| g_nil ?_
      obtain ⟨n299, hn299, hlp⟩ := nx_inl hm hnx4
      exact d_round (n299, x284.fitems, x284.fconns, i294, w64 (i246 + 1), x284.flast, x284.fopens, A286, c287, A289, c290) ⟨hlp, hc287, hc290⟩ hn299 ⟨rfl, rfl, rfl, rfl, rfl, rfl, trivial⟩ (fun W h => h.phi (fun W hφ => hφ))
    ·
     replace hm := ite_t hm h295
     refine g_no rfl rfl rfl rfl rfl h295 <| g_nu rfl rfl rfl rfl rfl <| g_nu rfl rfl rfl rfl rfl <| g_nu rfl rfl rfl rfl rfl <| g_nu rfl rfl rfl rfl rfl <| g_no rfl rfl rfl rfl rfl h295 <| g_v rfl (r_pick1 rfl h295) <| g_nil <| d_then <| c_cond1 rfl rfl ?_
     refine c_seq <| c_region <| g_v rfl r_assign <| g_nil <| d_then <| c_ret <| d_ret_block <| d_ret_then <| d_ret_then <| d_ret_block ?_
     refine d_ret_then <| d_ret_then ?_
     replace hm := nx_out (C := (fun e => Sum.elim (fun e => m_law08_NetFull_j1 p0 x1 e.1 e.2.1 e.2.2.1 e.2.2.2.1 e.2.2.2.2) (fun x => some x) e = some r)) hm hnx4 hr4
     replace hm : some false = some r := hm
     replace hm := Option.some.inj hm
     subst hm
     refine d_retC () Try.results4 ?_ trivial (fun W h => ok_pre (H1 := [_]) (R1 := [_, _]) h (fun W hφ => hφ)) (.inr rfl)
     refine res_tmp <| res_nil ?_
     exact rfl
  ·
   replace hm := ite_f hm (of_decide_eq_false h281)
   refine c_exit <| d_exit_then <| d_exit_then <| d_exit_block ?_
   replace hm := nx_out (C := (fun e => Sum.elim (fun e => m_law08_NetFull_j1 p0 x1 e.1 e.2.1 e.2.2.1 e.2.2.2.1 e.2.2.2.2) (fun x => some x) e = some r)) hm hnx4 hr4
   exact d_round (l239, l242, i245, i247, i248, A240, c241, A243, c244) ⟨hm, hc241, hc244⟩ Nat.zero_lt_one ⟨rfl, rfl, rfl, rfl, trivial⟩ (fun W h => h.phi (fun W hφ => hφ))
 ·
  unfold m_law08_NetFull_j1 at hm
  refine d_flat [(0, .int .i64 p0), (5, .bool x1), (6, .pointer (some ⟨g11, 0, none⟩)), (7, .int .i64 i87)] ⟨rfl, rfl, rfl, rfl, trivial⟩ (fun u => ?_)
  refine d_sta ⟨w0, M, (100155, g11, .cells #[.slice A82 l81.length c83, .slice A85 l84.length c86, .int .i64 i88, .int .i64 i89] 61 (0, 0)) :: H, (100150, ⟨.slice A82 l81.length c83, 40, 6, l81.length, l81.flatMap GItem.enc⟩) :: (100151, ⟨.slice A85 l84.length c86, 63, 3, l84.length, l84.flatMap Gnet_conn.enc⟩) :: R, φ⟩ (fun _ h => h) <| d_then <| c_seq <| c_region <| g_v rfl r_assign <| g_nil <| d_then <| c_seq <| c_seq <| c_region ?_
  refine g_v rfl r_assign <| g_nil <| d_then ?_
  refine c_cut (ι := (List GItem) × Int × Int × Option Addr × Nat) [5, 6, 7, 11] (fun ⟨l131, i134, i135, A132, c133⟩ => [(11, .int .i64 i134)]) (fun ⟨l131, i134, i135, A132, c133⟩ => ⟨w0, M, (100155, g11, .cells #[.slice A132 l131.length c133, .slice A85 l84.length c86, .int .i64 i135, .int .i64 i89] 61 (0, 0)) :: H, (100150, ⟨.slice A132 l131.length c133, 40, 6, l131.length, l131.flatMap GItem.enc⟩) :: (100151, ⟨.slice A85 l84.length c86, 63, 3, l84.length, l84.flatMap Gnet_conn.enc⟩) :: R, φ⟩) (fun ⟨l131, i134, i135, A132, c133⟩ => m_law08_NetFull_j2 l84 i89 i87 x1 l131 i134 i135 = some r ∧ l131.length ≤ c133) ?_ (fun ⟨l131, i134, i135, A132, c133⟩ u ⟨hm, hc133⟩ => ?_)
  ·
   refine c_block ?_
   replace hm := bnd hm
   obtain ⟨out3, hl3, hr3⟩ := hm
   obtain ⟨n196', hl3⟩ := loop_lp hl3
   refine c_loopU (ι := Nat × (List GItem) × Int × Int × Int × Option Addr × Nat) [0, 5, 6, 7, 11, 12] (fun ⟨n196, l173, i176, i177, i178, A174, c175⟩ => [(11, .int .i64 i176), (12, .int .i64 i177)]) (fun ⟨n196, l173, i176, i177, i178, A174, c175⟩ => ⟨w0, M, (100155, g11, .cells #[.slice A174 l173.length c175, .slice A85 l84.length c86, .int .i64 i178, .int .i64 i89] 61 (0, 0)) :: H, (100150, ⟨.slice A174 l173.length c175, 40, 6, l173.length, l173.flatMap GItem.enc⟩) :: (100151, ⟨.slice A85 l84.length c86, 63, 3, l84.length, l84.flatMap Gnet_conn.enc⟩) :: R, φ⟩) (fun ⟨n196, l173, i176, i177, i178, A174, c175⟩ => Lp (fun s => m_law08_NetFull_s3 p0 l84 i89 s.1 s.2.1 s.2.2.1 s.2.2.2) n196 (l173, i176, i177, i178) out3 ∧ l173.length ≤ c175) (fun ⟨n196, l173, i176, i177, i178, A174, c175⟩ => n196) (n196', l81, 0, 0, i88, A82, c83) ⟨hl3, hc83⟩ ⟨rfl, rfl, rfl, rfl, rfl, rfl, trivial⟩ (fun W h => h.phi (fun W hφ => hφ)) (fun ⟨n196, l173, i176, i177, i178, A174, c175⟩ u ⟨hlp, hc175⟩ => ?_)
   obtain ⟨o3, hm, hnx3⟩ := lp_step hlp
   clear hlp
   replace hm : m_law08_NetFull_s3 p0 l84 i89 l173 i176 i177 i178 = some o3 := hm
   unfold m_law08_NetFull_s3 at hm
   refine c_flat [(0, .int .i64 p0), (5, .bool x1), (6, .pointer (some ⟨g11, 0, none⟩)), (7, .int .i64 i87), (11, .int .i64 i176), (12, .int .i64 i177)] ⟨rfl, rfl, rfl, rfl, rfl, rfl, trivial⟩ (fun u => ?_)
   refine c_sta ⟨w0, M, (100155, g11, .cells #[.slice A174 l173.length c175, .slice A85 l84.length c86, .int .i64 i178, .int .i64 i89] 61 (0, 0)) :: H, (100150, ⟨.slice A174 l173.length c175, 40, 6, l173.length, l173.flatMap GItem.enc⟩) :: (100151, ⟨.slice A85 l84.length c86, 63, 3, l84.length, l84.flatMap Gnet_conn.enc⟩) :: R, φ⟩ (fun _ h => h) <| c_seq <| c_seq <| c_region <| g_v rfl r_move <| g_v rfl r_move ?_
   replace hm := bnd hm
   obtain ⟨x197, hx198, hm⟩ := hm
   refine g_cn ⟨w0, M, _, _, φ⟩ (fun _ h => h) Try.call11 rfl rfl (c_ref08_Pick p0 1101 _ hx198) (fun _ _ => ?_)
   refine g_v rfl (r_lss rfl rfl) <| g_nil <| d_then ?_
   refine c_cond rfl (fun h199 => ?_) (fun h199 => ?_)
   ·
    replace hm := ite_t hm (of_decide_eq_true h199)
    refine c_skip <| d_then <| c_seq <| c_block <| c_seq <| c_region <| g_v rfl r_move ?_
    replace hm := bnd hm
    obtain ⟨⟨x200, x201⟩, hx202, hm⟩ := hm
    refine g_cn ⟨w0, M, (1000, g11, .cells #[.slice A174 l173.length c175, .slice A85 l84.length c86, .int .i64 i178, .int .i64 i89] 61 (0, 0)) :: H, (1000, ⟨.slice A174 l173.length c175, 40, 6, l173.length, l173.flatMap GItem.enc⟩) :: (1001, ⟨.slice A85 l84.length c86, 63, 3, l84.length, l84.flatMap Gnet_conn.enc⟩) :: R, φ⟩ (fun W h => (ok_front (t := 100155) (t' := 1000) (ok_frontR (t := 100150) (t' := 1000) (ok_frontR (t := 100151) (t' := 1001) h rfl) rfl) rfl)) Try.call15 rfl rfl (c_net_Net_Send 1 2 (⟨#[]⟩ : ByteArray) g11 (⟨l173, l84, i178, i89⟩ : Gnet_Net) A174 c175 hc175 A85 c86 hc86 _ hx202) (fun ⟨A203, c204⟩ hc204 => ?_)
    refine g_sta _ (fun W h => (ok_frontR (t := 2000) (t' := 100150) (ok_frontR (t := 1001) (t' := 100151) (ok_front (t := 1000) (t' := 100155) h rfl) rfl) rfl)) <| g_nil <| d_then ?_
    refine c_cond rfl (fun h207 => ?_) (fun h207 => ?_)
    ·
     replace hm := ite_t hm h207
     refine c_region <| g_v rfl r_move <| g_v rfl (r_add rfl rfl rfl) <| g_v rfl r_assign <| g_nil <| d_normal_block <| d_then ?_
     refine c_flat [(0, .int .i64 p0), (5, .bool x1), (6, .pointer (some ⟨g11, 0, none⟩)), (7, .int .i64 i87), (11, .int .i64 (w64 (i176 + 1))), (12, .int .i64 i177)] ⟨rfl, rfl, rfl, rfl, rfl, rfl, trivial⟩ (fun u => ?_)
     refine c_sta ⟨w0, M, (100155, g11, .cells #[.slice A203 x201.fitems.length c204, .slice A85 l84.length c86, .int .i64 x201.flast, .int .i64 i89] 61 (0, 0)) :: H, (100150, ⟨.slice A203 x201.fitems.length c204, 40, 6, x201.fitems.length, x201.fitems.flatMap GItem.enc⟩) :: (100151, ⟨.slice A85 l84.length c86, 63, 3, l84.length, l84.flatMap Gnet_conn.enc⟩) :: R, φ⟩ (fun _ h => h) <| c_region <| g_v rfl r_move <| g_v rfl (r_add rfl rfl rfl) <| g_v rfl r_assign <| g_nil ?_
     obtain ⟨n208, hn208, hlp⟩ := nx_inl hm hnx3
     exact d_round (n208, x201.fitems, w64 (i176 + 1), w64 (i177 + 1), x201.flast, A203, c204) ⟨hlp, hc204⟩ hn208 ⟨rfl, rfl, rfl, rfl, rfl, rfl, trivial⟩ (fun W h => h.phi (fun W hφ => hφ))
    ·
     replace hm := ite_f hm (bool_nt h207)
     refine c_skip <| d_normal_block <| d_then <| c_region <| g_v rfl r_move <| g_v rfl (r_add rfl rfl rfl) <| g_v rfl r_assign <| g_nil ?_
     obtain ⟨n209, hn209, hlp⟩ := nx_inl hm hnx3
     exact d_round (n209, x201.fitems, i176, w64 (i177 + 1), x201.flast, A203, c204) ⟨hlp, hc204⟩ hn209 ⟨rfl, rfl, rfl, rfl, rfl, rfl, trivial⟩ (fun W h => h.phi (fun W hφ => hφ))
   ·
    replace hm := ite_f hm (of_decide_eq_false h199)
    refine c_exit <| d_exit_then <| d_exit_then <| d_exit_block ?_
    replace hm := nx_out (C := (fun e => m_law08_NetFull_j2 l84 i89 i87 x1 e.1 e.2.1 e.2.2 = some r)) hm hnx3 hr3
    exact d_round (l173, i176, i178, A174, c175) ⟨hm, hc175⟩ Nat.zero_lt_one ⟨rfl, rfl, rfl, rfl, trivial⟩ (fun W h => h.phi (fun W hφ => hφ))
  ·
   unfold m_law08_NetFull_j2 at hm
   refine d_flat [(5, .bool x1), (6, .pointer (some ⟨g11, 0, none⟩)), (7, .int .i64 i87), (11, .int .i64 i134)] ⟨rfl, rfl, rfl, rfl, trivial⟩ (fun u => ?_)
   refine d_sta ⟨w0, M, (100155, g11, .cells #[.slice A132 l131.length c133, .slice A85 l84.length c86, .int .i64 i135, .int .i64 i89] 61 (0, 0)) :: H, (100150, ⟨.slice A132 l131.length c133, 40, 6, l131.length, l131.flatMap GItem.enc⟩) :: (100151, ⟨.slice A85 l84.length c86, 63, 3, l84.length, l84.flatMap Gnet_conn.enc⟩) :: R, φ⟩ (fun _ h => h) <| d_then <| c_seq <| c_seq <| c_region <| g_v rfl r_move ?_
   replace hm := bnd hm
   obtain ⟨x136, hx137, hm⟩ := hm
   refine g_cn ⟨w0, M, (1000, g11, .cells #[.slice A132 l131.length c133, .slice A85 l84.length c86, .int .i64 i135, .int .i64 i89] 61 (0, 0)) :: H, (1000, ⟨.slice A132 l131.length c133, 40, 6, l131.length, l131.flatMap GItem.enc⟩) :: (1001, ⟨.slice A85 l84.length c86, 63, 3, l84.length, l84.flatMap Gnet_conn.enc⟩) :: R, φ⟩ (fun W h => (ok_front (t := 100155) (t' := 1000) (ok_frontR (t := 100150) (t' := 1000) (ok_frontR (t := 100151) (t' := 1001) h rfl) rfl) rfl)) Try.call18 rfl rfl (c_net_Net_Waits g11 (⟨l131, l84, i135, i89⟩ : Gnet_Net) A132 c133 hc133 A85 c86 hc86 _ hx137) (fun _ _ => ?_)
   refine g_sta _ (fun W h => (ok_frontR (t := 1000) (t' := 100150) (ok_frontR (t := 1001) (t' := 100151) (ok_front (t := 1000) (t' := 100155) h rfl) rfl) rfl)) <| g_v rfl (r_gtr rfl rfl) <| g_v rfl r_move ?_
   refine g_if rfl rfl rfl rfl rfl (fun h138 => ?_) (fun h138 => ?_)
   ·
    replace hm := ite_f hm (of_decide_eq_false h138)
    refine g_v rfl r_move <| g_do rfl rfl rfl rfl rfl h138 ?_
    replace hm := bnd hm
    obtain ⟨x139, hx140, hm⟩ := hm
    refine g_cn ⟨w0, M, (1000, g11, .cells #[.slice A132 l131.length c133, .slice A85 l84.length c86, .int .i64 i135, .int .i64 i89] 61 (0, 0)) :: H, (1000, ⟨.slice A132 l131.length c133, 40, 6, l131.length, l131.flatMap GItem.enc⟩) :: (1001, ⟨.slice A85 l84.length c86, 63, 3, l84.length, l84.flatMap Gnet_conn.enc⟩) :: R, φ⟩ (fun W h => (ok_front (t := 100155) (t' := 1000) (ok_frontR (t := 100150) (t' := 1000) (ok_frontR (t := 100151) (t' := 1001) h rfl) rfl) rfl)) Try.call18 rfl rfl (c_net_Net_Waits g11 (⟨l131, l84, i135, i89⟩ : Gnet_Net) A132 c133 hc133 A85 c86 hc86 _ hx140) (fun _ _ => ?_)
    refine g_sta _ (fun W h => (ok_frontR (t := 1000) (t' := 100150) (ok_frontR (t := 1001) (t' := 100151) (ok_front (t := 1000) (t' := 100155) h rfl) rfl) rfl)) <| g_do rfl rfl rfl rfl rfl h138 <| g_v rfl r_move <| g_do rfl rfl rfl rfl rfl h138 <| g_v rfl r_move <| g_do rfl rfl rfl rfl rfl h138 <| g_v rfl (r_add rfl rfl rfl) <| g_do rfl rfl rfl rfl rfl h138 <| g_v rfl (r_neq rfl rfl) <| g_v rfl (r_pick0 rfl h138) ?_
    refine g_nil <| d_then ?_
    refine c_flat [(5, .bool x1), (6, .pointer (some ⟨g11, 0, none⟩)), (7, .int .i64 i87), (11, .int .i64 i134), (65, .bool (decide (x139 ≠ w64 (i87 + i134))))] ⟨rfl, rfl, rfl, rfl, rfl, trivial⟩ (fun u => ?_)
    refine c_cond rfl (fun h141 => ?_) (fun h141 => ?_)
    ·
     replace hm := ite_t hm (of_decide_eq_true h141)
     refine c_seq <| c_region <| g_v rfl r_assign <| g_nil <| d_then <| c_ret <| d_ret_then ?_
     replace hm := Option.some.inj hm
     subst hm
     refine d_retC () Try.results4 ?_ trivial (fun W h => ok_pre (H1 := [_]) (R1 := [_, _]) h (fun W hφ => hφ)) (.inr rfl)
     refine res_tmp <| res_nil ?_
     exact rfl
    ·
     replace hm := ite_f hm (of_decide_eq_false h141)
     refine c_skip <| d_then <| c_seq <| c_region <| g_v rfl r_move ?_
     replace hm := bnd hm
     obtain ⟨⟨x142, x143⟩, hx144, hm⟩ := hm
     refine g_cn ⟨w0, M, (1000, g11, .cells #[.slice A132 l131.length c133, .slice A85 l84.length c86, .int .i64 i135, .int .i64 i89] 61 (0, 0)) :: H, (1000, ⟨.slice A132 l131.length c133, 40, 6, l131.length, l131.flatMap GItem.enc⟩) :: (1001, ⟨.slice A85 l84.length c86, 63, 3, l84.length, l84.flatMap Gnet_conn.enc⟩) :: R, φ⟩ (fun W h => (ok_front (t := 100155) (t' := 1000) (ok_frontR (t := 100150) (t' := 1000) (ok_frontR (t := 100151) (t' := 1001) h rfl) rfl) rfl)) Try.call19 rfl rfl (c_net_Net_Lose 1 g11 (⟨l131, l84, i135, i89⟩ : Gnet_Net) A132 c133 hc133 A85 c86 hc86 _ hx144) (fun ⟨A145, c146, A148, c149⟩ ⟨hc146, hc149⟩ => ?_)
     refine g_sta _ (fun W h => (ok_frontR (t := 2000) (t' := 100150) (ok_frontR (t := 2001) (t' := 100151) (ok_front (t := 1000) (t' := 100155) h rfl) rfl) rfl)) <| g_v rfl r_assign <| g_nil <| d_then <| c_seq <| c_region <| g_v rfl r_move <| g_v rfl r_move ?_
     refine g_if rfl rfl rfl rfl rfl (fun h152 => ?_) (fun h152 => ?_)
     ·
      replace hm := ite_t hm h152
      refine g_v rfl r_move <| g_do rfl rfl rfl rfl rfl h152 <| g_v rfl r_move <| g_do rfl rfl rfl rfl rfl h152 <| g_v rfl r_move <| g_do rfl rfl rfl rfl rfl h152 <| g_v rfl (r_add rfl rfl rfl) <| g_do rfl rfl rfl rfl rfl h152 <| g_v rfl (r_eql rfl rfl) <| g_v rfl (r_pick1 rfl h152) ?_
      refine g_v rfl r_move ?_
      refine g_if rfl rfl rfl rfl rfl (fun h153 => ?_) (fun h153 => ?_)
      ·
       replace hm := ite_t hm (of_decide_eq_true h153)
       refine g_v rfl r_move <| g_do rfl rfl rfl rfl rfl h153 ?_
       replace hm := bnd hm
       obtain ⟨x154, hx155, hm⟩ := hm
       refine g_cn ⟨w0, M, (1000, g11, .cells #[.slice A145 x143.fitems.length c146, .slice A148 x143.fconns.length c149, .int .i64 x143.flast, .int .i64 i89] 61 (0, 0)) :: H, (1000, ⟨.slice A145 x143.fitems.length c146, 40, 6, x143.fitems.length, x143.fitems.flatMap GItem.enc⟩) :: (1001, ⟨.slice A148 x143.fconns.length c149, 63, 3, x143.fconns.length, x143.fconns.flatMap Gnet_conn.enc⟩) :: R, φ⟩ (fun W h => (ok_front (t := 100155) (t' := 1000) (ok_frontR (t := 100150) (t' := 1000) (ok_frontR (t := 100151) (t' := 1001) h rfl) rfl) rfl)) Try.call18 rfl rfl (c_net_Net_Waits g11 (⟨x143.fitems, x143.fconns, x143.flast, i89⟩ : Gnet_Net) A145 c146 hc146 A148 c149 hc149 _ hx155) (fun _ _ => ?_)
       refine g_sta _ (fun W h => (ok_frontR (t := 1000) (t' := 100150) (ok_frontR (t := 1001) (t' := 100151) (ok_front (t := 1000) (t' := 100155) h rfl) rfl) rfl)) <| g_do rfl rfl rfl rfl rfl h153 <| g_v rfl r_move <| g_do rfl rfl rfl rfl rfl h153 <| g_v rfl (r_eql rfl rfl) <| g_v rfl (r_pick1 rfl h153) <| g_v rfl r_assign <| g_nil <| d_then ?_
       refine c_flat [(4, .bool (decide (x154 = i87)))] ⟨rfl, trivial⟩ (fun u => ?_)
       refine c_sta ⟨w0, M, (100155, g11, .cells #[.slice A145 x143.fitems.length c146, .slice A148 x143.fconns.length c149, .int .i64 x143.flast, .int .i64 i89] 61 (0, 0)) :: H, (100150, ⟨.slice A145 x143.fitems.length c146, 40, 6, x143.fitems.length, x143.fitems.flatMap GItem.enc⟩) :: (100151, ⟨.slice A148 x143.fconns.length c149, 63, 3, x143.fconns.length, x143.fconns.flatMap Gnet_conn.enc⟩) :: R, φ⟩ (fun _ h => h) <| c_ret ?_
       replace hm := Option.some.inj hm
       subst hm
       refine d_retC () Try.results4 ?_ trivial (fun W h => ok_pre (H1 := [_]) (R1 := [_, _]) h (fun W hφ => hφ)) (.inr rfl)
       refine res_tmp <| res_nil ?_
       exact rfl
      ·
       replace hm := ite_f hm (of_decide_eq_false h153)
       refine g_no rfl rfl rfl rfl rfl h153 <| g_no rfl rfl rfl rfl rfl h153 <| g_no rfl rfl rfl rfl rfl h153 <| g_v rfl (r_pick0 rfl h153) <| g_v rfl r_assign <| g_nil <| d_then ?_
       refine c_flat [(4, .bool false)] ⟨rfl, trivial⟩ (fun u => ?_)
       refine c_sta ⟨w0, M, (100155, g11, .cells #[.slice A145 x143.fitems.length c146, .slice A148 x143.fconns.length c149, .int .i64 x143.flast, .int .i64 i89] 61 (0, 0)) :: H, (100150, ⟨.slice A145 x143.fitems.length c146, 40, 6, x143.fitems.length, x143.fitems.flatMap GItem.enc⟩) :: (100151, ⟨.slice A148 x143.fconns.length c149, 63, 3, x143.fconns.length, x143.fconns.flatMap Gnet_conn.enc⟩) :: R, φ⟩ (fun _ h => h) <| c_ret ?_
       replace hm := Option.some.inj hm
       subst hm
       refine d_retC () Try.results4 ?_ trivial (fun W h => ok_pre (H1 := [_]) (R1 := [_, _]) h (fun W hφ => hφ)) (.inr rfl)
       refine res_tmp <| res_nil ?_
       exact rfl
     ·
      replace hm := ite_f hm (bool_nt h152)
      refine g_no rfl rfl rfl rfl rfl h152 <| g_no rfl rfl rfl rfl rfl h152 <| g_no rfl rfl rfl rfl rfl h152 <| g_no rfl rfl rfl rfl rfl h152 <| g_v rfl (r_pick0 rfl h152) <| g_v rfl r_move <| g_no rfl rfl rfl rfl rfl rfl <| g_no rfl rfl rfl rfl rfl rfl <| g_no rfl rfl rfl rfl rfl rfl <| g_no rfl rfl rfl rfl rfl rfl ?_
      refine g_v rfl (r_pick0 rfl rfl) <| g_v rfl r_assign <| g_nil <| d_then ?_
      refine c_flat [(4, .bool false)] ⟨rfl, trivial⟩ (fun u => ?_)
      refine c_sta ⟨w0, M, (100155, g11, .cells #[.slice A145 x143.fitems.length c146, .slice A148 x143.fconns.length c149, .int .i64 x143.flast, .int .i64 i89] 61 (0, 0)) :: H, (100150, ⟨.slice A145 x143.fitems.length c146, 40, 6, x143.fitems.length, x143.fitems.flatMap GItem.enc⟩) :: (100151, ⟨.slice A148 x143.fconns.length c149, 63, 3, x143.fconns.length, x143.fconns.flatMap Gnet_conn.enc⟩) :: R, φ⟩ (fun _ h => h) <| c_ret ?_
      replace hm := Option.some.inj hm
      subst hm
      refine d_retC () Try.results4 ?_ trivial (fun W h => ok_pre (H1 := [_]) (R1 := [_, _]) h (fun W hφ => hφ)) (.inr rfl)
      refine res_tmp <| res_nil ?_
      exact rfl
   ·
    replace hm := ite_t hm (of_decide_eq_true h138)
    refine g_no rfl rfl rfl rfl rfl h138 <| g_no rfl rfl rfl rfl rfl h138 <| g_no rfl rfl rfl rfl rfl h138 <| g_no rfl rfl rfl rfl rfl h138 <| g_no rfl rfl rfl rfl rfl h138 <| g_v rfl (r_pick1 rfl h138) <| g_nil <| d_then <| c_cond1 rfl rfl <| c_seq ?_
    refine c_region <| g_v rfl r_assign <| g_nil <| d_then <| c_ret <| d_ret_then ?_
    replace hm := Option.some.inj hm
    subst hm
    refine d_retC () Try.results4 ?_ trivial (fun W h => ok_pre (H1 := [_]) (R1 := [_, _]) h (fun W hφ => hφ)) (.inr rfl)
    refine res_tmp <| res_nil ?_
    exact rfl
end Go.Proofs.Ythajfodilodhaaa
