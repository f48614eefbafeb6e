import Derived.Test.YthpjodfjdnnckaaWCOA
set_option maxRecDepth 100000
set_option maxHeartbeats 4000000
set_option linter.unusedVariables false
set_option linter.unusedSimpArgs false
namespace Go.Proofs.Ythpjodfjdnnckaa
open Go.RowKit Go.Proofs.YthpjodfjdnnckaaW.PrintLast
noncomputable def m_conf_Apply_k5_j2 (l348 : List Int) (l351 : List ByteArray) (l354 : List GAnchor) (l383 : List GFlush) (i386 : Int) : Option (GConf × Int) :=
  some ((⟨l348, l351, l354, i386, l383⟩ : GConf), 0)
noncomputable def m_conf_Apply_k5_j3 (l348 : List Int) (l351 : List ByteArray) (l354 : List GAnchor) (l405 : List GFlush) (s408 : ByteArray) (i409 : Int) : Option (GConf × Int) :=
  (app 24 l405 [(⟨i409, s408⟩ : GFlush)]).bind fun l411 =>
  m_conf_Apply_k5_j2 l348 l351 l354 l411 i409
noncomputable def m_conf_Apply_k5_j1 (p1_fNode : Int) (p0 : GConf) (p1_fZone : ByteArray) (l348 : List Int) (l351 : List ByteArray) (l354 : List GAnchor) (l357 : List GFlush) : Option (GConf × Int) :=
  (m_slices_BinarySearch_27 l348 p1_fNode).bind fun (z363 : Int × Bool) =>
  if 1099511627776 ≤ p0.fEpoch then
    some (p0, 15)
  else
    (m_name_Lower p1_fZone).bind fun x396 =>
    (m_slices_DeleteFunc_37 l357 x396).bind fun x399 =>
    if 32 ≤ (x399.length : Int) then
      m_conf_Apply_k5_j3 l348 l351 l354 ([] : List GFlush) (⟨#[0]⟩ : ByteArray) (w64 (p0.fEpoch + 1))
    else
      m_conf_Apply_k5_j3 l348 l351 l354 x399 x396 (w64 (p0.fEpoch + 1))
noncomputable def m_conf_Apply_k5 (p0 : GConf) (p1_fNode : Int) (p1_fName : ByteArray) (p1_fText : ByteArray) (p1_fZone : ByteArray) (p1_fHints : List ByteArray) : Option (GConf × Int) :=
  (m_conf_Check_k5 p1_fNode p1_fName p1_fText p1_fZone p1_fHints).bind fun x4 =>
  if x4 ≠ 0 then
    some (p0, x4)
  else
    (m_slices_Clone_23 p0.fRing).bind fun x551 =>
    (m_slices_Clone_24 p0.fHints).bind fun x557 =>
    (m_slices_Clone_25 p0.fAnchors).bind fun x562 =>
    (m_slices_Clone_26 p0.fFlushes).bind fun x567 =>
    m_conf_Apply_k5_j1 p1_fNode p0 p1_fZone x551 x557 x562 x567
theorem c_conf_Apply_k5 {w0 : World} {M : Nat → Prop} {H : List (Nat × Nat × Obj)} {R : List (Nat × Row)} {φ : World → Prop} (p0 : GConf) (Ap0_0 : Option Addr) (cp0_0 : Nat) (hcp0_0 : p0.fRing.length ≤ cp0_0) (fp0_0 : ∀ W, φ W → Cl W Ap0_0 (p0.fRing.flatMap (fun x : Int => [Value.int .i64 x]))) (Ap0_1 : Option Addr) (cp0_1 : Nat) (hcp0_1 : p0.fHints.length ≤ cp0_1) (fp0_1 : ∀ W, φ W → Cl W Ap0_1 (p0.fHints.flatMap (fun x : ByteArray => [Value.string x]))) (Ap0_2 : Option Addr) (cp0_2 : Nat) (hcp0_2 : p0.fAnchors.length ≤ cp0_2) (fp0_2 : ∀ W, φ W → Cl W Ap0_2 (p0.fAnchors.flatMap GAnchor.enc)) (Ap0_3 : Option Addr) (cp0_3 : Nat) (hcp0_3 : p0.fFlushes.length ≤ cp0_3) (fp0_3 : ∀ W, φ W → Cl W Ap0_3 (p0.fFlushes.flatMap GFlush.enc)) (p1_fNode : Int) (p1_fName : ByteArray) (p1_fText : ByteArray) (p1_fZone : ByteArray) (p1_fHints : List ByteArray) (Ap1_fHints_0 : Option Addr) (cp1_fHints_0 : Nat) (hcp1_fHints_0 : p1_fHints.length ≤ cp1_fHints_0) (fp1_fHints_0 : ∀ W, (Sta.mk w0 M H R φ).ok W → Cl W Ap1_fHints_0 (p1_fHints.flatMap (fun x : ByteArray => [Value.string x]))) (r : GConf × Int) (hm : m_conf_Apply_k5 p0 p1_fNode p1_fName p1_fText p1_fZone p1_fHints = some r) :
    Cn Try.prog 10 #[.agg #[.slice Ap0_0 p0.fRing.length cp0_0, .slice Ap0_1 p0.fHints.length cp0_1, .slice Ap0_2 p0.fAnchors.length cp0_2, .int .i64 p0.fEpoch, .slice Ap0_3 p0.fFlushes.length cp0_3], .agg #[.int .i64 5, .int .i64 p1_fNode, .string p1_fName, .string p1_fText, .string p1_fZone, .slice Ap1_fHints_0 p1_fHints.length cp1_fHints_0]] ⟨w0, M, H, R, φ⟩ (fun x : Option Addr × Nat × Option Addr × Nat × Option Addr × Nat × Option Addr × Nat => .tuple #[.agg #[.slice x.1 r.1.fRing.length x.2.1, .slice x.2.2.1 r.1.fHints.length x.2.2.2.1, .slice x.2.2.2.2.1 r.1.fAnchors.length x.2.2.2.2.2.1, .int .i64 r.1.fEpoch, .slice x.2.2.2.2.2.2.1 r.1.fFlushes.length x.2.2.2.2.2.2.2], .int .i64 r.2]) (fun x => r.1.fRing.length ≤ x.2.1 ∧ r.1.fHints.length ≤ x.2.2.2.1 ∧ r.1.fAnchors.length ≤ x.2.2.2.2.2.1 ∧ r.1.fFlushes.length ≤ x.2.2.2.2.2.2.2) (fun x => ⟨w0, M, H, R, fun W => φ W ∧ Cl W x.1 (r.1.fRing.flatMap (fun x : Int => [Value.int .i64 x])) ∧ Cl W x.2.2.1 (r.1.fHints.flatMap (fun x : ByteArray => [Value.string x])) ∧ Cl W x.2.2.2.2.1 (r.1.fAnchors.flatMap GAnchor.enc) ∧ Cl W x.2.2.2.2.2.2.1 (r.1.fFlushes.flatMap GFlush.enc)⟩) := by
 unfold m_conf_Apply_k5 at hm
 refine cn_intro (fn := Try.f10) (N := 133) Try.func10 rfl Try.ntmps10 rfl <| c_seq <| c_region ?_
 refine g_e rfl (e_box 100020 rfl) (fun g1 _ => ?_)
 refine g_e rfl (e_box 100030 rfl) (fun g2 _ => ?_)
 refine g_e rfl (e_alloc 100040 Try.zeroValue29) (fun g3 _ => ?_)
 refine g_v rfl r_assign <| g_nil <| d_then <| c_seq <| c_region <| g_v rfl (r_loadA (tag := 100030) rfl rfl Try.isAgg35 Try.sizeOf35 rfl rfl) ?_
 replace hm := bnd hm
 obtain ⟨x4, hx5, hm⟩ := hm
 refine g_cn ⟨w0, M, _, _, φ⟩ (fun _ h => h) Try.call20 rfl rfl (c_conf_Check_k5 p1_fNode p1_fName p1_fText p1_fZone p1_fHints Ap1_fHints_0 cp1_fHints_0 hcp1_fHints_0 (fun W hS => fp1_fHints_0 W (ok_pre (H1 := [_, _, _]) (R1 := []) hS (fun W h => h))) _ hx5) (fun _ _ => ?_)
 refine g_v rfl r_assign <| g_nil <| d_then <| c_seq <| c_seq <| c_region <| g_v rfl r_move <| g_v rfl (r_neq rfl rfl) <| g_nil <| d_then ?_
 refine c_flat [(2, .pointer (some ⟨g1, 0, none⟩)), (3, .pointer (some ⟨g2, 0, none⟩)), (4, .pointer (some ⟨g3, 0, none⟩)), (6, .int .i64 x4), (14, .bool (decide (x4 ≠ 0)))] ⟨rfl, rfl, rfl, rfl, rfl, trivial⟩ (fun u => ?_)
 refine c_sta ⟨w0, M, (100040, g3, .cells #[.slice none 0 0, .slice none 0 0, .slice none 0 0, .int .i64 0, .slice none 0 0] 29 (0, 0)) :: (100030, g2, .cells #[.int .i64 5, .int .i64 p1_fNode, .string p1_fName, .string p1_fText, .string p1_fZone, .slice Ap1_fHints_0 p1_fHints.length cp1_fHints_0] 35 (0, 0)) :: (100020, g1, .cells #[.slice Ap0_0 p0.fRing.length cp0_0, .slice Ap0_1 p0.fHints.length cp0_1, .slice Ap0_2 p0.fAnchors.length cp0_2, .int .i64 p0.fEpoch, .slice Ap0_3 p0.fFlushes.length cp0_3] 29 (0, 0)) :: H, R, φ⟩ (fun _ h => h) ?_
 refine c_cond rfl (fun h6 => ?_) (fun h6 => ?_)
 ·
  replace hm := ite_t hm (of_decide_eq_true h6)
  refine c_seq <| c_region <| g_v rfl (r_loadA (tag := 100020) rfl rfl Try.isAgg29 Try.sizeOf29 rfl rfl) <| g_v rfl r_move <| g_storeL (tag := 100040) rfl rfl rfl rfl Try.sizeOf29 rfl rfl <| g_v rfl r_assign <| g_nil <| d_then <| c_ret <| d_ret_then ?_
  replace hm := Option.some.inj hm
  subst hm
  refine d_retC (Ap0_0, cp0_0, Ap0_1, cp0_1, Ap0_2, cp0_2, Ap0_3, cp0_3) Try.results10 ?_ ⟨hcp0_0, hcp0_1, hcp0_2, hcp0_3⟩ (fun W h => ok_pre (H1 := [_, _, _]) (R1 := []) h (fun W hφ => ⟨hφ, (fun W h => fp0_0 W h) W hφ, (fun W h => fp0_1 W h) W hφ, (fun W h => fp0_2 W h) W hφ, (fun W h => fp0_3 W h) W hφ⟩)) (.inr rfl)
  refine res_agg (tag := 100040) rfl rfl Try.isAgg29 Try.sizeOf29 <| res_tmp <| res_nil ?_
  exact rfl
 ·
  replace hm := ite_f hm (of_decide_eq_false h6)
  refine c_skip <| d_then <| c_seq ?_
  refine c_cut (ι := (List Int) × (List ByteArray) × (List GAnchor) × (List GFlush) × Nat × Option Addr × Nat × Option Addr × Nat × Option Addr × Nat × Option Addr × Nat) [2, 3, 4, 7] (fun ⟨l348, l351, l354, l357, g347, A349, c350, A352, c353, A355, c356, A358, c359⟩ => [(7, .pointer (some ⟨g347, 0, none⟩))]) (fun ⟨l348, l351, l354, l357, g347, A349, c350, A352, c353, A355, c356, A358, c359⟩ => ⟨w0, M, (100070, g347, .cells #[.slice A349 l348.length c350, .slice A352 l351.length c353, .slice A355 l354.length c356, .int .i64 p0.fEpoch, .slice A358 l357.length c359] 29 (0, 0)) :: (100040, g3, .cells #[.slice none 0 0, .slice none 0 0, .slice none 0 0, .int .i64 0, .slice none 0 0] 29 (0, 0)) :: (100030, g2, .cells #[.int .i64 5, .int .i64 p1_fNode, .string p1_fName, .string p1_fText, .string p1_fZone, .slice Ap1_fHints_0 p1_fHints.length cp1_fHints_0] 35 (0, 0)) :: (100020, g1, .cells #[.slice Ap0_0 p0.fRing.length cp0_0, .slice Ap0_1 p0.fHints.length cp0_1, .slice Ap0_2 p0.fAnchors.length cp0_2, .int .i64 p0.fEpoch, .slice Ap0_3 p0.fFlushes.length cp0_3] 29 (0, 0)) :: H, (100190, ⟨.slice A349 l348.length c350, 3, 1, l348.length, l348.flatMap (fun x : Int => [Value.int .i64 x])⟩) :: (100220, ⟨.slice A352 l351.length c353, 9, 1, l351.length, l351.flatMap (fun x : ByteArray => [Value.string x])⟩) :: (100250, ⟨.slice A355 l354.length c356, 43, 2, l354.length, l354.flatMap GAnchor.enc⟩) :: (100300, ⟨.slice A358 l357.length c359, 54, 2, l357.length, l357.flatMap GFlush.enc⟩) :: R, φ⟩) (fun ⟨l348, l351, l354, l357, g347, A349, c350, A352, c353, A355, c356, A358, c359⟩ => m_conf_Apply_k5_j1 p1_fNode p0 p1_fZone l348 l351 l354 l357 = some r ∧ l348.length ≤ c350 ∧ l351.length ≤ c353 ∧ l354.length ≤ c356 ∧ l357.length ≤ c359) ?_ (fun ⟨l348, l351, l354, l357, g347, A349, c350, A352, c353, A355, c356, A358, c359⟩ u ⟨hm, hc350, hc353, hc356, hc359⟩ => ?_)
  ·
   refine ga_start (n := 17) ⟨w0, M, (100040, g3, .cells #[.slice none 0 0, .slice none 0 0, .slice none 0 0, .int .i64 0, .slice none 0 0] 29 (0, 0)) :: (100030, g2, .cells #[.int .i64 5, .int .i64 p1_fNode, .string p1_fName, .string p1_fText, .string p1_fZone, .slice Ap1_fHints_0 p1_fHints.length cp1_fHints_0] 35 (0, 0)) :: (100020, g1, .cells #[.slice Ap0_0 p0.fRing.length cp0_0, .slice Ap0_1 p0.fHints.length cp0_1, .slice Ap0_2 p0.fAnchors.length cp0_2, .int .i64 p0.fEpoch, .slice Ap0_3 p0.fFlushes.length cp0_3] 29 (0, 0)) :: H, R, φ⟩ [16] #[false, false, false, false, false, false, false, false, false, false, false, false, false, false, false, false, false] (fun W h => h.phi (fun W hφ => hφ)) mixed rfl rfl <| ga_v (i := 0) (bz 17 1) rfl (by kernel_rfl) (fun _ _ _ _ h => h) rfl (r_field (n := 0) Try.underlying29 rfl Try.sizeOf25 rfl rfl) <| ga_v (i := 1) (bz 17 3) rfl (by kernel_rfl) (fun _ _ _ _ h => h) rfl (r_load (tag := 100020) rfl rfl rfl Try.isAgg25) <| ga_v (i := 3) (bz 17 11) rfl (by kernel_rfl) (fun _ _ _ _ h => h) rfl (r_field (n := 1) Try.underlying29 rfl Try.sizeOf22 rfl rfl) <| ga_v (i := 4) (bz 17 27) rfl (by kernel_rfl) (fun _ _ _ _ h => h) rfl (r_load (tag := 100020) rfl rfl rfl Try.isAgg22) <| ga_v (i := 6) (bz 17 91) rfl (by kernel_rfl) (fun _ _ _ _ h => h) rfl (r_field (n := 2) Try.underlying29 rfl Try.sizeOf26 rfl rfl) <| ga_v (i := 7) (bz 17 219) rfl (by kernel_rfl) (fun _ _ _ _ h => h) rfl (r_load (tag := 100020) rfl rfl rfl Try.isAgg26) <| ga_v (i := 9) (bz 17 731) rfl (by kernel_rfl) (fun _ _ _ _ h => h) rfl (r_field (n := 3) Try.underlying29 rfl Try.sizeOf3 rfl rfl) <| ga_v (i := 10) (bz 17 1755) rfl (by kernel_rfl) (fun _ _ _ _ h => h) rfl (r_load (tag := 100020) rfl rfl rfl Try.isAgg3) <| ga_v (i := 11) (bz 17 3803) rfl (by kernel_rfl) (fun _ _ _ _ h => h) rfl (r_field (n := 4) Try.underlying29 rfl Try.sizeOf27 rfl rfl) ?_
   refine ga_v (i := 12) (bz 17 7899) rfl (by kernel_rfl) (fun _ _ _ _ h => h) rfl (r_load (tag := 100020) rfl rfl rfl Try.isAgg27) ?_
   replace hm := bnd hm
   obtain ⟨x551, hx552, hm⟩ := hm
   refine ga_two (i := 2) (j := 15) (bz 17 7903) (bz 17 40667) rfl rfl (by kernel_rfl) (by decide) (by decide) ?_ ?_
   ·
    refine ex_cn (first := #[]) ⟨w0, M, _, _, φ⟩ (fun _ h => h) Try.call23 rfl rfl rfl (c_slices_Clone_23 p0.fRing Ap0_0 cp0_0 hcp0_0 (fun W hS => fp0_0 W hS.now) _ hx552) (fun ⟨A554, c555⟩ W hc555 h => ((ok_frontR (t := 2000) (t' := 100190) h rfl).dropR (t := 100190) rfl).phi (fun W hφ => hφ)) (fun ⟨A554, c555⟩ hc555 => ?_)
    refine ga_sta _ (fun W h => (ok_frontR (t := 2000) (t' := 100190) h rfl)) ?_
    replace hm := bnd hm
    obtain ⟨x557, hx558, hm⟩ := hm
    refine ga_two (i := 5) (j := 15) (bz 17 7935) (bz 17 40671) rfl rfl (by kernel_rfl) (by decide) (by decide) ?_ ?_
    ·
     refine ex_cn (first := #[]) ⟨w0, M, _, _, φ⟩ (fun _ h => h) Try.call24 rfl rfl rfl (c_slices_Clone_24 p0.fHints Ap0_1 cp0_1 hcp0_1 (fun W hS => fp0_1 W hS.now) _ hx558) (fun ⟨A559, c560⟩ W hc560 h => (((ok_frontR (t := 2000) (t' := 100220) h rfl).dropR (t := 100220) rfl).dropR (t := 100190) rfl).phi (fun W hφ => hφ)) (fun ⟨A559, c560⟩ hc560 => ?_)
     refine ga_sta _ (fun W h => (ok_frontR (t := 2000) (t' := 100220) h rfl)) ?_
     replace hm := bnd hm
     obtain ⟨x562, hx563, hm⟩ := hm
     refine ga_two (i := 8) (j := 15) (bz 17 8191) (bz 17 40703) rfl rfl (by kernel_rfl) (by decide) (by decide) ?_ ?_
     ·
      refine ex_cn (first := #[]) ⟨w0, M, _, _, φ⟩ (fun _ h => h) Try.call25 rfl rfl rfl (c_slices_Clone_25 p0.fAnchors Ap0_2 cp0_2 hcp0_2 (fun W hS => fp0_2 W hS.now) _ hx563) (fun ⟨A564, c565⟩ W hc565 h => ((((ok_frontR (t := 2000) (t' := 100250) h rfl).dropR (t := 100250) rfl).dropR (t := 100220) rfl).dropR (t := 100190) rfl).phi (fun W hφ => hφ)) (fun ⟨A564, c565⟩ hc565 => ?_)
      refine ga_sta _ (fun W h => (ok_frontR (t := 2000) (t' := 100250) h rfl)) ?_
      replace hm := bnd hm
      obtain ⟨x567, hx568, hm⟩ := hm
      refine ga_two (i := 13) (j := 15) (bz 17 16383) (bz 17 40959) rfl rfl (by kernel_rfl) (by decide) (by decide) ?_ ?_
      ·
       refine ex_cn (first := #[]) ⟨w0, M, _, _, φ⟩ (fun _ h => h) Try.call26 rfl rfl rfl (c_slices_Clone_26 p0.fFlushes Ap0_3 cp0_3 hcp0_3 (fun W hS => fp0_3 W hS.now) _ hx568) (fun ⟨A569, c570⟩ W hc570 h => (((((ok_frontR (t := 2000) (t' := 100300) h rfl).dropR (t := 100300) rfl).dropR (t := 100250) rfl).dropR (t := 100220) rfl).dropR (t := 100190) rfl).phi (fun W hφ => hφ)) (fun ⟨A569, c570⟩ hc570 => ?_)
       refine ga_sta _ (fun W h => (ok_frontR (t := 2000) (t' := 100300) h rfl)) <| ga_v (i := 14) (bz 17 32767) rfl (by kernel_rfl) (fun _ _ _ _ h => h) rfl (r_build _ rfl (bld29_17 _ _ _ _ _ _ _ _ _ _ _ _ _)) ?_
       refine ga_e (i := 15) (bz 17 65535) rfl (by kernel_rfl) (by decide) rfl  (e_alloc 100070 Try.zeroValue29) (fun g572 W _ h => (((((h.dropR (t := 100300) rfl).dropR (t := 100250) rfl).dropR (t := 100220) rfl).dropR (t := 100190) rfl).dropH (t := 100070) rfl).phi (fun W hφ => hφ)) (fun g572 _ => ?_)
       refine ga_lastL (i := 16) (tag := 100070) (bz 17 131071) rfl (by kernel_rfl) (by decide) rfl rfl rfl rfl Try.sizeOf29 rfl rfl <| gz_done (by kernel_rfl) ?_
       exact d_round (x551, x557, x562, x567, g572, A554, c555, A559, c560, A564, c565, A569, c570) ⟨hm, hc555, hc560, hc565, hc570⟩ Nat.zero_lt_one ⟨rfl, rfl, rfl, rfl, trivial⟩ (fun W h => (ok_frontR (t := 100190) (t' := 100190) (ok_frontR (t := 100220) (t' := 100220) (ok_frontR (t := 100250) (t' := 100250) (ok_frontR (t := 100300) (t' := 100300) h rfl) rfl) rfl) rfl).phi (fun W hφ => hφ))
      ·
       refine ex_e rfl (e_alloc 100070 Try.zeroValue29) (fun g573 W _ h => ((((h.dropR (t := 100250) rfl).dropR (t := 100220) rfl).dropR (t := 100190) rfl).dropH (t := 100070) rfl).phi (fun W hφ => hφ)) (fun g573 _ => ?_)
       refine ga_cn (first := #[]) (i := 13) (bz 17 49151) rfl (by kernel_rfl) (by decide)  ⟨w0, M, _, _, φ⟩ (fun _ h => h) Try.call26 rfl rfl rfl (c_slices_Clone_26 p0.fFlushes Ap0_3 cp0_3 hcp0_3 (fun W hS => fp0_3 W hS.now) _ hx568) (fun ⟨A574, c575⟩ W hc575 h => ((((((ok_frontR (t := 2000) (t' := 100300) h rfl).dropR (t := 100300) rfl).dropR (t := 100250) rfl).dropR (t := 100220) rfl).dropR (t := 100190) rfl).dropH (t := 100070) rfl).phi (fun W hφ => hφ)) (fun ⟨A574, c575⟩ hc575 => ?_)
       refine ga_sta _ (fun W h => (ok_frontR (t := 2000) (t' := 100300) h rfl)) <| ga_r (i := 14) (bz 17 65535) rfl (by kernel_rfl) (by decide) rfl (r_build _ rfl (bld29_17 _ _ _ _ _ _ _ _ _ _ _ _ _)) <| ga_lastL (i := 16) (tag := 100070) (bz 17 131071) rfl (by kernel_rfl) (by decide) rfl rfl rfl rfl Try.sizeOf29 rfl rfl <| gz_done (by kernel_rfl) ?_
       exact d_round (x551, x557, x562, x567, g573, A554, c555, A559, c560, A564, c565, A574, c575) ⟨hm, hc555, hc560, hc565, hc575⟩ Nat.zero_lt_one ⟨rfl, rfl, rfl, rfl, trivial⟩ (fun W h => (ok_frontR (t := 100190) (t' := 100190) (ok_frontR (t := 100220) (t' := 100220) (ok_frontR (t := 100250) (t' := 100250) (ok_frontR (t := 100300) (t' := 100300) h rfl) rfl) rfl) rfl).phi (fun W hφ => hφ))
     ·
      refine ex_e rfl (e_alloc 100070 Try.zeroValue29) (fun g577 W _ h => (((h.dropR (t := 100220) rfl).dropR (t := 100190) rfl).dropH (t := 100070) rfl).phi (fun W hφ => hφ)) (fun g577 _ => ?_)
      refine ga_cn (first := #[]) (i := 8) (bz 17 40959) rfl (by kernel_rfl) (by decide)  ⟨w0, M, _, _, φ⟩ (fun _ h => h) Try.call25 rfl rfl rfl (c_slices_Clone_25 p0.fAnchors Ap0_2 cp0_2 hcp0_2 (fun W hS => fp0_2 W hS.now) _ hx563) (fun ⟨A578, c579⟩ W hc579 h => (((((ok_frontR (t := 2000) (t' := 100250) h rfl).dropR (t := 100250) rfl).dropR (t := 100220) rfl).dropR (t := 100190) rfl).dropH (t := 100070) rfl).phi (fun W hφ => hφ)) (fun ⟨A578, c579⟩ hc579 => ?_)
      refine ga_sta _ (fun W h => (ok_frontR (t := 2000) (t' := 100250) h rfl)) ?_
      replace hm := bnd hm
      obtain ⟨x581, hx582, hm⟩ := hm
      refine ga_cn (first := #[]) (i := 13) (bz 17 49151) rfl (by kernel_rfl) (by decide)  ⟨w0, M, _, _, φ⟩ (fun _ h => h) Try.call26 rfl rfl rfl (c_slices_Clone_26 p0.fFlushes Ap0_3 cp0_3 hcp0_3 (fun W hS => fp0_3 W hS.now) _ hx582) (fun ⟨A583, c584⟩ W hc584 h => ((((((ok_frontR (t := 2000) (t' := 100300) h rfl).dropR (t := 100300) rfl).dropR (t := 100250) rfl).dropR (t := 100220) rfl).dropR (t := 100190) rfl).dropH (t := 100070) rfl).phi (fun W hφ => hφ)) (fun ⟨A583, c584⟩ hc584 => ?_)
      refine ga_sta _ (fun W h => (ok_frontR (t := 2000) (t' := 100300) h rfl)) <| ga_r (i := 14) (bz 17 65535) rfl (by kernel_rfl) (by decide) rfl (r_build _ rfl (bld29_17 _ _ _ _ _ _ _ _ _ _ _ _ _)) <| ga_lastL (i := 16) (tag := 100070) (bz 17 131071) rfl (by kernel_rfl) (by decide) rfl rfl rfl rfl Try.sizeOf29 rfl rfl <| gz_done (by kernel_rfl) ?_
      exact d_round (x551, x557, x562, x581, g577, A554, c555, A559, c560, A578, c579, A583, c584) ⟨hm, hc555, hc560, hc579, hc584⟩ Nat.zero_lt_one ⟨rfl, rfl, rfl, rfl, trivial⟩ (fun W h => (ok_frontR (t := 100190) (t' := 100190) (ok_frontR (t := 100220) (t' := 100220) (ok_frontR (t := 100250) (t' := 100250) (ok_frontR (t := 100300) (t' := 100300) h rfl) rfl) rfl) rfl).phi (fun W hφ => hφ))
    ·
     refine ex_e rfl (e_alloc 100070 Try.zeroValue29) (fun g586 W _ h => ((h.dropR (t := 100190) rfl).dropH (t := 100070) rfl).phi (fun W hφ => hφ)) (fun g586 _ => ?_)
     refine ga_cn (first := #[]) (i := 5) (bz 17 40703) rfl (by kernel_rfl) (by decide)  ⟨w0, M, _, _, φ⟩ (fun _ h => h) Try.call24 rfl rfl rfl (c_slices_Clone_24 p0.fHints Ap0_1 cp0_1 hcp0_1 (fun W hS => fp0_1 W hS.now) _ hx558) (fun ⟨A587, c588⟩ W hc588 h => ((((ok_frontR (t := 2000) (t' := 100220) h rfl).dropR (t := 100220) rfl).dropR (t := 100190) rfl).dropH (t := 100070) rfl).phi (fun W hφ => hφ)) (fun ⟨A587, c588⟩ hc588 => ?_)
     refine ga_sta _ (fun W h => (ok_frontR (t := 2000) (t' := 100220) h rfl)) ?_
     replace hm := bnd hm
     obtain ⟨x590, hx591, hm⟩ := hm
     refine ga_cn (first := #[]) (i := 8) (bz 17 40959) rfl (by kernel_rfl) (by decide)  ⟨w0, M, _, _, φ⟩ (fun _ h => h) Try.call25 rfl rfl rfl (c_slices_Clone_25 p0.fAnchors Ap0_2 cp0_2 hcp0_2 (fun W hS => fp0_2 W hS.now) _ hx591) (fun ⟨A592, c593⟩ W hc593 h => (((((ok_frontR (t := 2000) (t' := 100250) h rfl).dropR (t := 100250) rfl).dropR (t := 100220) rfl).dropR (t := 100190) rfl).dropH (t := 100070) rfl).phi (fun W hφ => hφ)) (fun ⟨A592, c593⟩ hc593 => ?_)
     refine ga_sta _ (fun W h => (ok_frontR (t := 2000) (t' := 100250) h rfl)) ?_
     replace hm := bnd hm
     obtain ⟨x595, hx596, hm⟩ := hm
     refine ga_cn (first := #[]) (i := 13) (bz 17 49151) rfl (by kernel_rfl) (by decide)  ⟨w0, M, _, _, φ⟩ (fun _ h => h) Try.call26 rfl rfl rfl (c_slices_Clone_26 p0.fFlushes Ap0_3 cp0_3 hcp0_3 (fun W hS => fp0_3 W hS.now) _ hx596) (fun ⟨A597, c598⟩ W hc598 h => ((((((ok_frontR (t := 2000) (t' := 100300) h rfl).dropR (t := 100300) rfl).dropR (t := 100250) rfl).dropR (t := 100220) rfl).dropR (t := 100190) rfl).dropH (t := 100070) rfl).phi (fun W hφ => hφ)) (fun ⟨A597, c598⟩ hc598 => ?_)
     refine ga_sta _ (fun W h => (ok_frontR (t := 2000) (t' := 100300) h rfl)) <| ga_r (i := 14) (bz 17 65535) rfl (by kernel_rfl) (by decide) rfl (r_build _ rfl (bld29_17 _ _ _ _ _ _ _ _ _ _ _ _ _)) <| ga_lastL (i := 16) (tag := 100070) (bz 17 131071) rfl (by kernel_rfl) (by decide) rfl rfl rfl rfl Try.sizeOf29 rfl rfl <| gz_done (by kernel_rfl) ?_
     exact d_round (x551, x557, x590, x595, g586, A554, c555, A587, c588, A592, c593, A597, c598) ⟨hm, hc555, hc588, hc593, hc598⟩ Nat.zero_lt_one ⟨rfl, rfl, rfl, rfl, trivial⟩ (fun W h => (ok_frontR (t := 100190) (t' := 100190) (ok_frontR (t := 100220) (t' := 100220) (ok_frontR (t := 100250) (t' := 100250) (ok_frontR (t := 100300) (t' := 100300) h rfl) rfl) rfl) rfl).phi (fun W hφ => hφ))
   ·
    refine ex_e rfl (e_alloc 100070 Try.zeroValue29) (fun g600 W _ h => (h.dropH (t := 100070) rfl).phi (fun W hφ => hφ)) (fun g600 _ => ?_)
    refine ga_cn (first := #[]) (i := 2) (bz 17 40671) rfl (by kernel_rfl) (by decide)  ⟨w0, M, _, _, φ⟩ (fun _ h => h) Try.call23 rfl rfl rfl (c_slices_Clone_23 p0.fRing Ap0_0 cp0_0 hcp0_0 (fun W hS => fp0_0 W hS.now) _ hx552) (fun ⟨A601, c602⟩ W hc602 h => (((ok_frontR (t := 2000) (t' := 100190) h rfl).dropR (t := 100190) rfl).dropH (t := 100070) rfl).phi (fun W hφ => hφ)) (fun ⟨A601, c602⟩ hc602 => ?_)
    refine ga_sta _ (fun W h => (ok_frontR (t := 2000) (t' := 100190) h rfl)) ?_
    replace hm := bnd hm
    obtain ⟨x604, hx605, hm⟩ := hm
    refine ga_cn (first := #[]) (i := 5) (bz 17 40703) rfl (by kernel_rfl) (by decide)  ⟨w0, M, _, _, φ⟩ (fun _ h => h) Try.call24 rfl rfl rfl (c_slices_Clone_24 p0.fHints Ap0_1 cp0_1 hcp0_1 (fun W hS => fp0_1 W hS.now) _ hx605) (fun ⟨A606, c607⟩ W hc607 h => ((((ok_frontR (t := 2000) (t' := 100220) h rfl).dropR (t := 100220) rfl).dropR (t := 100190) rfl).dropH (t := 100070) rfl).phi (fun W hφ => hφ)) (fun ⟨A606, c607⟩ hc607 => ?_)
    refine ga_sta _ (fun W h => (ok_frontR (t := 2000) (t' := 100220) h rfl)) ?_
    replace hm := bnd hm
    obtain ⟨x609, hx610, hm⟩ := hm
    refine ga_cn (first := #[]) (i := 8) (bz 17 40959) rfl (by kernel_rfl) (by decide)  ⟨w0, M, _, _, φ⟩ (fun _ h => h) Try.call25 rfl rfl rfl (c_slices_Clone_25 p0.fAnchors Ap0_2 cp0_2 hcp0_2 (fun W hS => fp0_2 W hS.now) _ hx610) (fun ⟨A611, c612⟩ W hc612 h => (((((ok_frontR (t := 2000) (t' := 100250) h rfl).dropR (t := 100250) rfl).dropR (t := 100220) rfl).dropR (t := 100190) rfl).dropH (t := 100070) rfl).phi (fun W hφ => hφ)) (fun ⟨A611, c612⟩ hc612 => ?_)
    refine ga_sta _ (fun W h => (ok_frontR (t := 2000) (t' := 100250) h rfl)) ?_
    replace hm := bnd hm
    obtain ⟨x614, hx615, hm⟩ := hm
    refine ga_cn (first := #[]) (i := 13) (bz 17 49151) rfl (by kernel_rfl) (by decide)  ⟨w0, M, _, _, φ⟩ (fun _ h => h) Try.call26 rfl rfl rfl (c_slices_Clone_26 p0.fFlushes Ap0_3 cp0_3 hcp0_3 (fun W hS => fp0_3 W hS.now) _ hx615) (fun ⟨A616, c617⟩ W hc617 h => ((((((ok_frontR (t := 2000) (t' := 100300) h rfl).dropR (t := 100300) rfl).dropR (t := 100250) rfl).dropR (t := 100220) rfl).dropR (t := 100190) rfl).dropH (t := 100070) rfl).phi (fun W hφ => hφ)) (fun ⟨A616, c617⟩ hc617 => ?_)
    refine ga_sta _ (fun W h => (ok_frontR (t := 2000) (t' := 100300) h rfl)) <| ga_r (i := 14) (bz 17 65535) rfl (by kernel_rfl) (by decide) rfl (r_build _ rfl (bld29_17 _ _ _ _ _ _ _ _ _ _ _ _ _)) <| ga_lastL (i := 16) (tag := 100070) (bz 17 131071) rfl (by kernel_rfl) (by decide) rfl rfl rfl rfl Try.sizeOf29 rfl rfl <| gz_done (by kernel_rfl) ?_
    exact d_round (x551, x604, x609, x614, g600, A601, c602, A606, c607, A611, c612, A616, c617) ⟨hm, hc602, hc607, hc612, hc617⟩ Nat.zero_lt_one ⟨rfl, rfl, rfl, rfl, trivial⟩ (fun W h => (ok_frontR (t := 100190) (t' := 100190) (ok_frontR (t := 100220) (t' := 100220) (ok_frontR (t := 100250) (t' := 100250) (ok_frontR (t := 100300) (t' := 100300) h rfl) rfl) rfl) rfl).phi (fun W hφ => hφ))
  ·
   unfold m_conf_Apply_k5_j1 at hm
   refine d_flat [(2, .pointer (some ⟨g1, 0, none⟩)), (3, .pointer (some ⟨g2, 0, none⟩)), (4, .pointer (some ⟨g3, 0, none⟩)), (7, .pointer (some ⟨g347, 0, none⟩))] ⟨rfl, rfl, rfl, rfl, trivial⟩ (fun u => ?_)
   refine d_sta ⟨w0, M, (100070, g347, .cells #[.slice A349 l348.length c350, .slice A352 l351.length c353, .slice A355 l354.length c356, .int .i64 p0.fEpoch, .slice A358 l357.length c359] 29 (0, 0)) :: (100040, g3, .cells #[.slice none 0 0, .slice none 0 0, .slice none 0 0, .int .i64 0, .slice none 0 0] 29 (0, 0)) :: (100030, g2, .cells #[.int .i64 5, .int .i64 p1_fNode, .string p1_fName, .string p1_fText, .string p1_fZone, .slice Ap1_fHints_0 p1_fHints.length cp1_fHints_0] 35 (0, 0)) :: (100020, g1, .cells #[.slice Ap0_0 p0.fRing.length cp0_0, .slice Ap0_1 p0.fHints.length cp0_1, .slice Ap0_2 p0.fAnchors.length cp0_2, .int .i64 p0.fEpoch, .slice Ap0_3 p0.fFlushes.length cp0_3] 29 (0, 0)) :: H, (100190, ⟨.slice A349 l348.length c350, 3, 1, l348.length, l348.flatMap (fun x : Int => [Value.int .i64 x])⟩) :: (100220, ⟨.slice A352 l351.length c353, 9, 1, l351.length, l351.flatMap (fun x : ByteArray => [Value.string x])⟩) :: (100250, ⟨.slice A355 l354.length c356, 43, 2, l354.length, l354.flatMap GAnchor.enc⟩) :: (100300, ⟨.slice A358 l357.length c359, 54, 2, l357.length, l357.flatMap GFlush.enc⟩) :: R, φ⟩ (fun _ h => h) <| d_then <| c_seq <| c_region <| g_v rfl (r_field (n := 0) Try.underlying29 rfl Try.sizeOf25 rfl rfl) <| g_v rfl (r_load (tag := 100070) rfl rfl rfl Try.isAgg25) <| g_v rfl (r_field (n := 1) Try.underlying35 rfl Try.sizeOf3 rfl rfl) <| g_v rfl (r_load (tag := 100030) rfl rfl rfl Try.isAgg3) ?_
   replace hm := bnd hm
   obtain ⟨⟨x360, x361⟩, hx362, hm⟩ := hm
   refine g_cn ⟨w0, M, _, _, φ⟩ (fun _ h => h) Try.call27 rfl rfl (c_slices_BinarySearch_27 l348 A349 c350 hc350 (fun W hS => rowCl (tag := 100190) rfl W hS) p1_fNode _ hx362) (fun _ _ => ?_)
   refine g_v rfl r_move <| g_v rfl (r_extract rfl rfl) <| g_v rfl (r_extract rfl rfl) <| g_v rfl r_assign <| g_v rfl r_assign <| g_nil <| d_then ?_
   refine c_flat [(2, .pointer (some ⟨g1, 0, none⟩)), (3, .pointer (some ⟨g2, 0, none⟩)), (4, .pointer (some ⟨g3, 0, none⟩)), (7, .pointer (some ⟨g347, 0, none⟩)), (8, .int .i64 x360), (9, .bool x361)] ⟨rfl, rfl, rfl, rfl, rfl, rfl, trivial⟩ (fun u => ?_)
   refine c_seq ?_
   refine c_cut (ι := (List GFlush) × Int × Option Addr × Nat) [4, 7] (fun ⟨l383, i386, A384, c385⟩ => []) (fun ⟨l383, i386, A384, c385⟩ => ⟨w0, M, (100070, g347, .cells #[.slice A349 l348.length c350, .slice A352 l351.length c353, .slice A355 l354.length c356, .int .i64 i386, .slice A384 l383.length c385] 29 (0, 0)) :: (100040, g3, .cells #[.slice none 0 0, .slice none 0 0, .slice none 0 0, .int .i64 0, .slice none 0 0] 29 (0, 0)) :: H, (100190, ⟨.slice A349 l348.length c350, 3, 1, l348.length, l348.flatMap (fun x : Int => [Value.int .i64 x])⟩) :: (100220, ⟨.slice A352 l351.length c353, 9, 1, l351.length, l351.flatMap (fun x : ByteArray => [Value.string x])⟩) :: (100250, ⟨.slice A355 l354.length c356, 43, 2, l354.length, l354.flatMap GAnchor.enc⟩) :: (100300, ⟨.slice A384 l383.length c385, 54, 2, l383.length, l383.flatMap GFlush.enc⟩) :: R, φ⟩) (fun ⟨l383, i386, A384, c385⟩ => m_conf_Apply_k5_j2 l348 l351 l354 l383 i386 = some r ∧ l383.length ≤ c385) ?_ (fun ⟨l383, i386, A384, c385⟩ u ⟨hm, hc385⟩ => ?_)
   ·
    refine c_seq <| c_region <| g_v rfl (r_field (n := 0) Try.underlying35 rfl Try.sizeOf3 rfl rfl) <| g_v rfl (r_load (tag := 100030) rfl rfl rfl Try.isAgg3) <| g_nil <| d_then <| c_block <| c_seq <| c_region <| g_v rfl (r_eql rfl rfl) ?_
    refine g_v rfl r_assign <| g_nil <| d_then <| c_cond0 rfl (by decide) <| c_seq <| c_region <| g_v rfl (r_eql rfl rfl) <| g_v rfl r_assign <| g_nil <| d_then ?_
    refine c_cond0 rfl (by decide) <| c_seq <| c_region <| g_v rfl (r_eql rfl rfl) <| g_v rfl r_assign <| g_nil <| d_then <| c_cond0 rfl (by decide) <| c_seq <| c_region ?_
    refine g_v rfl (r_eql rfl rfl) <| g_v rfl r_assign <| g_nil <| d_then ?_
    refine c_flat [(2, .pointer (some ⟨g1, 0, none⟩)), (3, .pointer (some ⟨g2, 0, none⟩)), (4, .pointer (some ⟨g3, 0, none⟩)), (7, .pointer (some ⟨g347, 0, none⟩)), (41, .int .i64 5), (72, .bool (decide (5 = 4)))] ⟨rfl, rfl, rfl, rfl, rfl, rfl, trivial⟩ (fun u => ?_)
    refine c_cond0 rfl (by decide) <| c_seq <| c_region <| g_v rfl (r_eql rfl rfl) <| g_v rfl r_assign <| g_nil <| d_then <| c_cond1 rfl (by decide) <| c_seq <| c_seq ?_
    refine c_region <| g_v rfl (r_field (n := 3) Try.underlying29 rfl Try.sizeOf3 rfl rfl) <| g_v rfl (r_load (tag := 100070) rfl rfl rfl Try.isAgg3) <| g_v rfl (r_geq rfl rfl) <| g_nil <| d_then ?_
    refine c_cond rfl (fun h395 => ?_) (fun h395 => ?_)
    ·
     replace hm := ite_t hm (of_decide_eq_true h395)
     refine c_seq <| c_region <| g_v rfl (r_loadA (tag := 100020) rfl rfl Try.isAgg29 Try.sizeOf29 rfl rfl) <| g_storeL (tag := 100040) rfl rfl rfl rfl Try.sizeOf29 rfl rfl <| g_v rfl r_assign <| g_nil <| d_then <| c_ret <| d_ret_then <| d_ret_block ?_
     refine d_ret_then <| d_ret_then ?_
     replace hm := Option.some.inj hm
     subst hm
     refine d_retC (Ap0_0, cp0_0, Ap0_1, cp0_1, Ap0_2, cp0_2, Ap0_3, cp0_3) Try.results10 ?_ ⟨hcp0_0, hcp0_1, hcp0_2, hcp0_3⟩ (fun W h => ok_pre (H1 := [_, _, _, _]) (R1 := [_, _, _, _]) h (fun W hφ => ⟨hφ, (fun W h => fp0_0 W h) W hφ, (fun W h => fp0_1 W h) W hφ, (fun W h => fp0_2 W h) W hφ, (fun W h => fp0_3 W h) W hφ⟩)) (.inr rfl)
     refine res_agg (tag := 100040) rfl rfl Try.isAgg29 Try.sizeOf29 <| res_tmp <| res_nil ?_
     exact rfl
    ·
     replace hm := ite_f hm (of_decide_eq_false h395)
     refine c_skip <| d_then <| c_seq <| c_region <| g_v rfl (r_field (n := 3) Try.underlying29 rfl Try.sizeOf3 rfl rfl) <| g_v rfl (r_load (tag := 100070) rfl rfl rfl Try.isAgg3) <| g_v rfl (r_add rfl rfl rfl) <| g_v rfl (r_field (n := 3) Try.underlying29 rfl Try.sizeOf3 rfl rfl) <| g_storeL (tag := 100070) rfl rfl rfl rfl Try.sizeOf3 rfl rfl <| g_nil ?_
     refine d_then ?_
     refine c_flat [(3, .pointer (some ⟨g2, 0, none⟩)), (4, .pointer (some ⟨g3, 0, none⟩)), (7, .pointer (some ⟨g347, 0, none⟩))] ⟨rfl, rfl, rfl, trivial⟩ (fun u => ?_)
     refine c_sta ⟨w0, M, (100070, g347, .cells #[.slice A349 l348.length c350, .slice A352 l351.length c353, .slice A355 l354.length c356, .int .i64 (w64 (p0.fEpoch + 1)), .slice A358 l357.length c359] 29 (0, 0)) :: (100040, g3, .cells #[.slice none 0 0, .slice none 0 0, .slice none 0 0, .int .i64 0, .slice none 0 0] 29 (0, 0)) :: (100030, g2, .cells #[.int .i64 5, .int .i64 p1_fNode, .string p1_fName, .string p1_fText, .string p1_fZone, .slice Ap1_fHints_0 p1_fHints.length cp1_fHints_0] 35 (0, 0)) :: (100020, g1, .cells #[.slice Ap0_0 p0.fRing.length cp0_0, .slice Ap0_1 p0.fHints.length cp0_1, .slice Ap0_2 p0.fAnchors.length cp0_2, .int .i64 p0.fEpoch, .slice Ap0_3 p0.fFlushes.length cp0_3] 29 (0, 0)) :: H, (100190, ⟨.slice A349 l348.length c350, 3, 1, l348.length, l348.flatMap (fun x : Int => [Value.int .i64 x])⟩) :: (100220, ⟨.slice A352 l351.length c353, 9, 1, l351.length, l351.flatMap (fun x : ByteArray => [Value.string x])⟩) :: (100250, ⟨.slice A355 l354.length c356, 43, 2, l354.length, l354.flatMap GAnchor.enc⟩) :: (100300, ⟨.slice A358 l357.length c359, 54, 2, l357.length, l357.flatMap GFlush.enc⟩) :: R, φ⟩ (fun _ h => h) <| c_seq <| c_region <| g_v rfl (r_field (n := 4) Try.underlying35 rfl Try.sizeOf9 rfl rfl) <| g_v rfl (r_load (tag := 100030) rfl rfl rfl Try.isAgg9) ?_
     replace hm := bnd hm
     obtain ⟨x396, hx397, hm⟩ := hm
     refine g_cn ⟨w0, M, _, _, φ⟩ (fun _ h => h) Try.call36 rfl rfl (c_name_Lower p1_fZone _ hx397) (fun _ _ => ?_)
     refine g_e rfl (e_alloc 100100 Try.zeroValue9) (fun g398 _ => ?_)
     refine g_storeL (tag := 100100) rfl rfl rfl rfl Try.sizeOf9 rfl rfl <| g_nil <| d_then <| c_seq <| c_region <| g_v rfl (r_field (n := 4) Try.underlying29 rfl Try.sizeOf27 rfl rfl) <| g_v rfl (r_load (tag := 100070) rfl rfl rfl Try.isAgg27) <| g_v rfl (r_mkf rfl) ?_
     replace hm := bnd hm
     obtain ⟨x399, hx400, hm⟩ := hm
     refine g_cn ⟨w0, M, (1000, g398, .cells #[.string x396] 9 (0, 0)) :: (100070, g347, .cells #[.slice A349 l348.length c350, .slice A352 l351.length c353, .slice A355 l354.length c356, .int .i64 (w64 (p0.fEpoch + 1)), .slice A358 l357.length c359] 29 (0, 0)) :: (100040, g3, .cells #[.slice none 0 0, .slice none 0 0, .slice none 0 0, .int .i64 0, .slice none 0 0] 29 (0, 0)) :: (100030, g2, .cells #[.int .i64 5, .int .i64 p1_fNode, .string p1_fName, .string p1_fText, .string p1_fZone, .slice Ap1_fHints_0 p1_fHints.length cp1_fHints_0] 35 (0, 0)) :: (100020, g1, .cells #[.slice Ap0_0 p0.fRing.length cp0_0, .slice Ap0_1 p0.fHints.length cp0_1, .slice Ap0_2 p0.fAnchors.length cp0_2, .int .i64 p0.fEpoch, .slice Ap0_3 p0.fFlushes.length cp0_3] 29 (0, 0)) :: H, (1000, ⟨.slice A358 l357.length c359, 54, 2, l357.length, l357.flatMap GFlush.enc⟩) :: (100190, ⟨.slice A349 l348.length c350, 3, 1, l348.length, l348.flatMap (fun x : Int => [Value.int .i64 x])⟩) :: (100220, ⟨.slice A352 l351.length c353, 9, 1, l351.length, l351.flatMap (fun x : ByteArray => [Value.string x])⟩) :: (100250, ⟨.slice A355 l354.length c356, 43, 2, l354.length, l354.flatMap GAnchor.enc⟩) :: R, φ⟩ (fun W h => (ok_front (t := 100100) (t' := 1000) (ok_frontR (t := 100300) (t' := 1000) h rfl) rfl)) Try.call37 rfl rfl (c_slices_DeleteFunc_37 l357 A358 c359 hc359 g398 x396 _ hx400) (fun ⟨A401, c402⟩ hc402 => ?_)
     refine g_sta _ (fun W h => (ok_frontR (t := 2000) (t' := 100300) (ok_front (t := 1000) (t' := 100100) h rfl) rfl)) <| g_v rfl (r_field (n := 4) Try.underlying29 rfl Try.sizeOf27 rfl rfl) <| g_storeL (tag := 100070) rfl rfl rfl rfl Try.sizeOf27 rfl rfl <| g_nil <| d_then ?_
     refine c_flat [(4, .pointer (some ⟨g3, 0, none⟩)), (7, .pointer (some ⟨g347, 0, none⟩)), (10, .pointer (some ⟨g398, 0, none⟩))] ⟨rfl, rfl, rfl, trivial⟩ (fun u => ?_)
     refine c_sta ⟨w0, M, (100100, g398, .cells #[.string x396] 9 (0, 0)) :: (100070, g347, .cells #[.slice A349 l348.length c350, .slice A352 l351.length c353, .slice A355 l354.length c356, .int .i64 (w64 (p0.fEpoch + 1)), .slice A401 x399.length c402] 29 (0, 0)) :: (100040, g3, .cells #[.slice none 0 0, .slice none 0 0, .slice none 0 0, .int .i64 0, .slice none 0 0] 29 (0, 0)) :: (100030, g2, .cells #[.int .i64 5, .int .i64 p1_fNode, .string p1_fName, .string p1_fText, .string p1_fZone, .slice Ap1_fHints_0 p1_fHints.length cp1_fHints_0] 35 (0, 0)) :: (100020, g1, .cells #[.slice Ap0_0 p0.fRing.length cp0_0, .slice Ap0_1 p0.fHints.length cp0_1, .slice Ap0_2 p0.fAnchors.length cp0_2, .int .i64 p0.fEpoch, .slice Ap0_3 p0.fFlushes.length cp0_3] 29 (0, 0)) :: H, (100300, ⟨.slice A401 x399.length c402, 54, 2, x399.length, x399.flatMap GFlush.enc⟩) :: (100190, ⟨.slice A349 l348.length c350, 3, 1, l348.length, l348.flatMap (fun x : Int => [Value.int .i64 x])⟩) :: (100220, ⟨.slice A352 l351.length c353, 9, 1, l351.length, l351.flatMap (fun x : ByteArray => [Value.string x])⟩) :: (100250, ⟨.slice A355 l354.length c356, 43, 2, l354.length, l354.flatMap GAnchor.enc⟩) :: R, φ⟩ (fun _ h => h) <| c_seq ?_
     refine c_cut (ι := (List GFlush) × ByteArray × Int × Option Addr × Nat) [4, 7, 10] (fun ⟨l405, s408, i409, A406, c407⟩ => []) (fun ⟨l405, s408, i409, A406, c407⟩ => ⟨w0, M, (100100, g398, .cells #[.string s408] 9 (0, 0)) :: (100070, g347, .cells #[.slice A349 l348.length c350, .slice A352 l351.length c353, .slice A355 l354.length c356, .int .i64 i409, .slice A406 l405.length c407] 29 (0, 0)) :: (100040, g3, .cells #[.slice none 0 0, .slice none 0 0, .slice none 0 0, .int .i64 0, .slice none 0 0] 29 (0, 0)) :: H, (100300, ⟨.slice A406 l405.length c407, 54, 2, l405.length, l405.flatMap GFlush.enc⟩) :: (100190, ⟨.slice A349 l348.length c350, 3, 1, l348.length, l348.flatMap (fun x : Int => [Value.int .i64 x])⟩) :: (100220, ⟨.slice A352 l351.length c353, 9, 1, l351.length, l351.flatMap (fun x : ByteArray => [Value.string x])⟩) :: (100250, ⟨.slice A355 l354.length c356, 43, 2, l354.length, l354.flatMap GAnchor.enc⟩) :: R, φ⟩) (fun ⟨l405, s408, i409, A406, c407⟩ => m_conf_Apply_k5_j3 l348 l351 l354 l405 s408 i409 = some r ∧ l405.length ≤ c407) ?_ (fun ⟨l405, s408, i409, A406, c407⟩ u ⟨hm, hc407⟩ => ?_)
     ·
      refine c_seq <| c_region <| g_v rfl (r_field (n := 4) Try.underlying29 rfl Try.sizeOf27 rfl rfl) <| g_v rfl (r_load (tag := 100070) rfl rfl rfl Try.isAgg27) <| g_v rfl (r_lenL Try.underlying27 rfl) <| g_v rfl (r_geq rfl rfl) <| g_nil <| d_then ?_
      refine c_cond rfl (fun h414 => ?_) (fun h414 => ?_)
      ·
       replace hm := ite_t hm (of_decide_eq_true h414)
       refine c_region <| g_v rfl (r_field (n := 4) Try.underlying29 rfl Try.sizeOf27 rfl rfl) <| g_storeL (tag := 100070) rfl rfl rfl rfl Try.sizeOf27 rfl rfl <| g_storeL (tag := 100100) rfl rfl rfl rfl Try.sizeOf9 rfl rfl <| g_nil <| d_sta _ (fun W h => nilR (Sta.ok.dropR (t := 100300) h rfl) 100300 54 2) ?_
       exact d_round (([] : List GFlush), (⟨#[0]⟩ : ByteArray), w64 (p0.fEpoch + 1), none, 0) ⟨hm, (Nat.le_refl 0)⟩ Nat.zero_lt_one ⟨rfl, rfl, rfl, trivial⟩ (fun W h => ((h.dropH (t := 100030) rfl).dropH (t := 100020) rfl).phi (fun W hφ => hφ))
      ·
       replace hm := ite_f hm (of_decide_eq_false h414)
       refine c_skip ?_
       exact d_round (x399, x396, w64 (p0.fEpoch + 1), A401, c402) ⟨hm, hc402⟩ Nat.zero_lt_one ⟨rfl, rfl, rfl, trivial⟩ (fun W h => ((h.dropH (t := 100030) rfl).dropH (t := 100020) rfl).phi (fun W hφ => hφ))
     ·
      unfold m_conf_Apply_k5_j3 at hm
      refine d_flat [(4, .pointer (some ⟨g3, 0, none⟩)), (7, .pointer (some ⟨g347, 0, none⟩)), (10, .pointer (some ⟨g398, 0, none⟩))] ⟨rfl, rfl, rfl, trivial⟩ (fun u => ?_)
      refine d_sta ⟨w0, M, (100100, g398, .cells #[.string s408] 9 (0, 0)) :: (100070, g347, .cells #[.slice A349 l348.length c350, .slice A352 l351.length c353, .slice A355 l354.length c356, .int .i64 i409, .slice A406 l405.length c407] 29 (0, 0)) :: (100040, g3, .cells #[.slice none 0 0, .slice none 0 0, .slice none 0 0, .int .i64 0, .slice none 0 0] 29 (0, 0)) :: H, (100300, ⟨.slice A406 l405.length c407, 54, 2, l405.length, l405.flatMap GFlush.enc⟩) :: (100190, ⟨.slice A349 l348.length c350, 3, 1, l348.length, l348.flatMap (fun x : Int => [Value.int .i64 x])⟩) :: (100220, ⟨.slice A352 l351.length c353, 9, 1, l351.length, l351.flatMap (fun x : ByteArray => [Value.string x])⟩) :: (100250, ⟨.slice A355 l354.length c356, 43, 2, l354.length, l354.flatMap GAnchor.enc⟩) :: R, φ⟩ (fun _ h => h) <| d_then <| c_region <| g_v rfl (r_field (n := 4) Try.underlying29 rfl Try.sizeOf27 rfl rfl) <| g_v rfl (r_load (tag := 100070) rfl rfl rfl Try.isAgg27) <| g_v rfl (r_field (n := 3) Try.underlying29 rfl Try.sizeOf3 rfl rfl) <| g_v rfl (r_load (tag := 100070) rfl rfl rfl Try.isAgg3) <| g_v rfl (r_load (tag := 100100) rfl rfl rfl Try.isAgg9) <| g_v rfl (r_build _ rfl (bld54_18 _ _)) ?_
      refine g_e rfl (e_lit (tag := 101290) (l := [(⟨i409, s408⟩ : GFlush)]) (enc := GFlush.enc) (sz := 2) rfl Try.underlying27 (lit54_19 _ _) rfl rfl (fun _ => rfl)) (fun g410 _ => ?_)
      replace hm := bnd hm
      obtain ⟨l411, hl411, hm⟩ := hm
      refine g_e rfl (e_appR (enc := GFlush.enc) (l := l405) (l1 := [(⟨i409, s408⟩ : GFlush)]) (l2 := l411) (tag := 100300) Try.underlying27 inf54_16 rfl (by decide) (by decide) (fun _ => rfl) (fun _ => rfl) rfl hc407 rfl rfl (fun W hS => rowCl (tag := 101290) rfl W hS) hl411) (fun ⟨A412, c413⟩ hc413 => ?_)
      refine g_v rfl (r_field (n := 4) Try.underlying29 rfl Try.sizeOf27 rfl rfl) <| g_storeL (tag := 100070) rfl rfl rfl rfl Try.sizeOf27 rfl rfl <| g_nil <| d_normal_block ?_
      exact d_round (l411, i409, A412, c413) ⟨hm, hc413⟩ Nat.zero_lt_one ⟨rfl, rfl, trivial⟩ (fun W h => (ok_frontR (t := 100190) (t' := 100190) (ok_frontR (t := 100220) (t' := 100220) (ok_frontR (t := 100250) (t' := 100250) (ok_frontR (t := 100300) (t' := 100300) ((h.dropR (t := 101290) rfl).dropH (t := 100100) rfl) rfl) rfl) rfl) rfl).phi (fun W hφ => hφ))
   ·
    unfold m_conf_Apply_k5_j2 at hm
    refine d_flat [(4, .pointer (some ⟨g3, 0, none⟩)), (7, .pointer (some ⟨g347, 0, none⟩))] ⟨rfl, rfl, trivial⟩ (fun u => ?_)
    refine d_sta ⟨w0, M, (100070, g347, .cells #[.slice A349 l348.length c350, .slice A352 l351.length c353, .slice A355 l354.length c356, .int .i64 i386, .slice A384 l383.length c385] 29 (0, 0)) :: (100040, g3, .cells #[.slice none 0 0, .slice none 0 0, .slice none 0 0, .int .i64 0, .slice none 0 0] 29 (0, 0)) :: H, (100190, ⟨.slice A349 l348.length c350, 3, 1, l348.length, l348.flatMap (fun x : Int => [Value.int .i64 x])⟩) :: (100220, ⟨.slice A352 l351.length c353, 9, 1, l351.length, l351.flatMap (fun x : ByteArray => [Value.string x])⟩) :: (100250, ⟨.slice A355 l354.length c356, 43, 2, l354.length, l354.flatMap GAnchor.enc⟩) :: (100300, ⟨.slice A384 l383.length c385, 54, 2, l383.length, l383.flatMap GFlush.enc⟩) :: R, φ⟩ (fun _ h => h) <| d_then <| c_seq <| c_region <| g_v rfl (r_loadA (tag := 100070) rfl rfl Try.isAgg29 Try.sizeOf29 rfl rfl) <| g_storeL (tag := 100040) rfl rfl rfl rfl Try.sizeOf29 rfl rfl <| g_v rfl r_assign <| g_nil <| d_then <| c_ret ?_
    replace hm := Option.some.inj hm
    subst hm
    refine d_shut (tag := 100190) rfl (fun φ387 q387' => ?_)
    have q387 : ∀ W, φ387 W → φ W := fun W h => (q387' W h).1
    have f388 := fun (W : World) (h : φ387 W) => (q387' W h).2
    refine d_shut (tag := 100220) rfl (fun φ389 q389' => ?_)
    have q389 : ∀ W, φ389 W → φ387 W := fun W h => (q389' W h).1
    have f390 := fun (W : World) (h : φ389 W) => (q389' W h).2
    refine d_shut (tag := 100250) rfl (fun φ391 q391' => ?_)
    have q391 : ∀ W, φ391 W → φ389 W := fun W h => (q391' W h).1
    have f392 := fun (W : World) (h : φ391 W) => (q391' W h).2
    refine d_shut (tag := 100300) rfl (fun φ393 q393' => ?_)
    have q393 : ∀ W, φ393 W → φ391 W := fun W h => (q393' W h).1
    have f394 := fun (W : World) (h : φ393 W) => (q393' W h).2
    refine d_retC (A349, c350, A352, c353, A355, c356, A384, c385) Try.results10 ?_ ⟨hc350, hc353, hc356, hc385⟩ (fun W h => ok_pre (H1 := [_, _]) (R1 := []) h (fun W hφ => ⟨(q387 _ (q389 _ (q391 _ (q393 _ hφ)))), (fun W h => f388 W (q389 _ (q391 _ (q393 _ h)))) W hφ, (fun W h => f390 W (q391 _ (q393 _ h))) W hφ, (fun W h => f392 W (q393 _ h)) W hφ, (fun W h => f394 W h) W hφ⟩)) (.inr rfl)
    refine res_agg (tag := 100040) rfl rfl Try.isAgg29 Try.sizeOf29 <| res_tmp <| res_nil ?_
    exact rfl
noncomputable def m_conf_Floor_j1  (i27 : Int) : Option Int :=
  some i27
noncomputable def m_conf_Floor_s2 (p0 : GConf) (p1 : ByteArray) (i39 : Int) (i40 : Int) : Option ((Int × Int) ⊕ Int) :=
  if i40 < (p0.fFlushes.length : Int) then
    (at_ p0.fFlushes i40).bind fun x54 =>
    (m_name_Under p1 x54.fZone).bind fun x59 =>
    if x59 = true then
      some (.inl ((max i39 x54.fEpoch), w64 (i40 + 1)))
    else
      some (.inl (i39, w64 (i40 + 1)))
  else
    some (.inr i39)
noncomputable def m_conf_Floor (p0 : GConf) (p1 : ByteArray) : Option Int :=
  (loop (fun s => m_conf_Floor_s2 p0 p1 s.1 s.2) (0, 0)).bind fun e => m_conf_Floor_j1 e
theorem c_conf_Floor {w0 : World} {M : Nat → Prop} {H : List (Nat × Nat × Obj)} {R : List (Nat × Row)} {φ : World → Prop} (p0 : GConf) (Ap0_0 : Option Addr) (cp0_0 : Nat) (hcp0_0 : p0.fRing.length ≤ cp0_0) (fp0_0 : ∀ W, (Sta.mk w0 M H R φ).ok W → Cl W Ap0_0 (p0.fRing.flatMap (fun x : Int => [Value.int .i64 x]))) (Ap0_1 : Option Addr) (cp0_1 : Nat) (hcp0_1 : p0.fHints.length ≤ cp0_1) (fp0_1 : ∀ W, (Sta.mk w0 M H R φ).ok W → Cl W Ap0_1 (p0.fHints.flatMap (fun x : ByteArray => [Value.string x]))) (Ap0_2 : Option Addr) (cp0_2 : Nat) (hcp0_2 : p0.fAnchors.length ≤ cp0_2) (fp0_2 : ∀ W, (Sta.mk w0 M H R φ).ok W → Cl W Ap0_2 (p0.fAnchors.flatMap GAnchor.enc)) (Ap0_3 : Option Addr) (cp0_3 : Nat) (hcp0_3 : p0.fFlushes.length ≤ cp0_3) (fp0_3 : ∀ W, (Sta.mk w0 M H R φ).ok W → Cl W Ap0_3 (p0.fFlushes.flatMap GFlush.enc)) (p1 : ByteArray) (r : Int) (hm : m_conf_Floor p0 p1 = some r) :
    Cn Try.prog 9 #[.agg #[.slice Ap0_0 p0.fRing.length cp0_0, .slice Ap0_1 p0.fHints.length cp0_1, .slice Ap0_2 p0.fAnchors.length cp0_2, .int .i64 p0.fEpoch, .slice Ap0_3 p0.fFlushes.length cp0_3], .string p1] ⟨w0, M, H, R, φ⟩ (fun x : Unit => .int .i64 r) (fun x => True) (fun x => ⟨w0, M, H, R, φ⟩) := by
 unfold m_conf_Floor at hm
 refine cn_intro (fn := Try.f9) (N := 25) Try.func9 rfl Try.ntmps9 rfl <| c_seq <| c_region ?_
 refine g_e rfl (e_box 100020 rfl) (fun g1 _ => ?_)
 refine g_v rfl r_assign <| g_nil <| d_then <| c_seq <| c_region <| g_v rfl r_assign <| g_nil <| d_then <| c_seq <| c_seq ?_
 refine c_region <| g_v rfl (r_field (n := 4) Try.underlying29 rfl Try.sizeOf27 rfl rfl) <| g_v rfl (r_load (tag := 100020) rfl rfl rfl Try.isAgg27) <| g_v rfl (r_lenL Try.underlying27 rfl) <| g_v rfl r_move <| g_nil <| d_then ?_
 refine c_cut (ι := Int) [5] (fun i27 => [(5, .int .i64 i27)]) (fun i27 => ⟨w0, M, H, R, φ⟩) (fun i27 => m_conf_Floor_j1 i27 = some r) ?_ (fun i27 u hm => ?_)
 ·
  refine c_block ?_
  replace hm := bnd hm
  obtain ⟨out2, hl2, hr2⟩ := hm
  obtain ⟨n52', hl2⟩ := loop_lp hl2
  refine c_loopU (ι := Nat × Int × Int) [1, 5, 9, 10, 11] (fun ⟨n52, i39, i40⟩ => [(5, .int .i64 i39), (11, .int .i64 i40)]) (fun ⟨n52, i39, i40⟩ => ⟨w0, M, H, R, φ⟩) (fun ⟨n52, i39, i40⟩ => Lp (fun s => m_conf_Floor_s2 p0 p1 s.1 s.2) n52 (i39, i40) out2) (fun ⟨n52, i39, i40⟩ => n52) (n52', 0, 0) hl2 ⟨rfl, rfl, rfl, rfl, rfl, trivial⟩ (fun W h => (h.dropH (t := 100020) rfl).phi (fun W hφ => hφ)) (fun ⟨n52, i39, i40⟩ u hlp => ?_)
  obtain ⟨o2, hm, hnx2⟩ := lp_step hlp
  clear hlp
  replace hm : m_conf_Floor_s2 p0 p1 i39 i40 = some o2 := hm
  unfold m_conf_Floor_s2 at hm
  refine c_flat [(1, .string p1), (5, .int .i64 i39), (9, .slice Ap0_3 p0.fFlushes.length cp0_3), (10, .int .i64 (p0.fFlushes.length : Int)), (11, .int .i64 i40)] ⟨rfl, rfl, rfl, rfl, rfl, trivial⟩ (fun u => ?_)
  refine c_sta ⟨w0, M, H, R, φ⟩ (fun _ h => h) <| c_seq <| c_region <| g_v rfl (r_lss rfl rfl) <| g_nil <| d_then <| c_seq ?_
  refine c_cond rfl (fun h53 => ?_) (fun h53 => ?_)
  ·
   replace hm := ite_t hm (of_decide_eq_true h53)
   refine c_skip <| d_then <| c_seq <| c_block <| c_seq <| c_region ?_
   replace hm := bnd hm
   obtain ⟨x54, hx54, hm⟩ := hm
   refine g_know _ (fun W hS => cl_at (p := (Sta.mk w0 M H R φ).ok) (sz := 2) (fun _ => rfl) (by decide) (ok_pre (H1 := []) (R1 := []) hS (fun W h => h)) fp0_3 hx54) ?_
   rintro ⟨ad55, hA57, f56⟩
   refine g_v rfl (r_ix Try.underlying27 Try.sizeOf54 rfl hA57 rfl hx54) <| g_v rfl (r_ldA rfl Try.isAgg54 Try.sizeOf54 (fun W hS => (f56 W (ok_pre (H1 := []) (R1 := []) hS (fun W h => h))).take 2) rfl) ?_
   refine g_e rfl (e_alloc 100070 Try.zeroValue54) (fun g58 _ => ?_)
   refine g_storeL (tag := 100070) rfl rfl rfl rfl Try.sizeOf54 rfl rfl <| g_nil <| d_then <| c_seq <| c_region <| g_v rfl r_move <| g_v rfl (r_field (n := 1) Try.underlying54 rfl Try.sizeOf9 rfl rfl) <| g_v rfl (r_load (tag := 100070) rfl rfl rfl Try.isAgg9) ?_
   replace hm := bnd hm
   obtain ⟨x59, hx60, hm⟩ := hm
   refine g_cn ⟨w0, M, _, _, φ⟩ (fun _ h => h) Try.call22 rfl rfl (c_name_Under p1 x54.fZone _ hx60) (fun _ _ => ?_)
   refine g_nil <| d_then ?_
   refine c_flat [(1, .string p1), (5, .int .i64 i39), (7, .pointer (some ⟨g58, 0, none⟩)), (9, .slice Ap0_3 p0.fFlushes.length cp0_3), (10, .int .i64 (p0.fFlushes.length : Int)), (11, .int .i64 i40), (18, .bool x59)] ⟨rfl, rfl, rfl, rfl, rfl, rfl, rfl, trivial⟩ (fun u => ?_)
   refine c_sta ⟨w0, M, (100070, g58, .cells #[.int .i64 x54.fEpoch, .string x54.fZone] 54 (0, 0)) :: H, R, φ⟩ (fun _ h => h) ?_
   refine c_cond rfl (fun h61 => ?_) (fun h61 => ?_)
   ·
    replace hm := ite_t hm h61
    refine c_region <| g_v rfl r_move <| g_v rfl (r_field (n := 0) Try.underlying54 rfl Try.sizeOf3 rfl rfl) <| g_v rfl (r_load (tag := 100070) rfl rfl rfl Try.isAgg3) <| g_v rfl (r_max rfl rfl) <| g_v rfl r_assign <| g_nil <| d_normal_block <| d_then <| c_region ?_
    refine g_v rfl (r_add rfl rfl rfl) <| g_v rfl r_move <| g_nil ?_
    obtain ⟨n62, hn62, hlp⟩ := nx_inl hm hnx2
    exact d_round (n62, (max i39 x54.fEpoch), w64 (i40 + 1)) hlp hn62 ⟨rfl, rfl, rfl, rfl, rfl, trivial⟩ (fun W h => (h.dropH (t := 100070) rfl).phi (fun W hφ => hφ))
   ·
    replace hm := ite_f hm (bool_nt h61)
    refine c_skip <| d_normal_block <| d_then <| c_region <| g_v rfl (r_add rfl rfl rfl) <| g_v rfl r_move <| g_nil ?_
    obtain ⟨n63, hn63, hlp⟩ := nx_inl hm hnx2
    exact d_round (n63, i39, w64 (i40 + 1)) hlp hn63 ⟨rfl, rfl, rfl, rfl, rfl, trivial⟩ (fun W h => (h.dropH (t := 100070) rfl).phi (fun W hφ => hφ))
  ·
   replace hm := ite_f hm (of_decide_eq_false h53)
   refine c_exit <| d_exit_then <| d_exit_then <| d_exit_block ?_
   replace hm := nx_out (C := (fun e : Int => m_conf_Floor_j1 e = some r)) hm hnx2 hr2
   exact d_round i39 hm Nat.zero_lt_one ⟨rfl, trivial⟩ (fun W h => h.phi (fun W hφ => hφ))
 ·
  unfold m_conf_Floor_j1 at hm
  refine d_flat [(5, .int .i64 i27)] ⟨rfl, trivial⟩ (fun u => ?_)
  refine d_sta ⟨w0, M, H, R, φ⟩ (fun _ h => h) <| d_then <| c_seq <| c_region <| g_v rfl r_move <| g_v rfl r_assign <| g_nil <| d_then <| c_ret ?_
  replace hm := Option.some.inj hm
  subst hm
  refine d_retC () Try.results9 ?_ trivial (fun W h => ok_pre (H1 := []) (R1 := []) h (fun W hφ => hφ)) (.inr rfl)
  refine res_tmp <| res_nil ?_
  exact rfl
noncomputable def m_law13_awake  : Option Bool :=
  (m_conf_Bytes_k1 3 (⟨#[]⟩ : ByteArray) (⟨#[]⟩ : ByteArray) (⟨#[]⟩ : ByteArray) ([] : List ByteArray)).bind fun (z4 : ByteArray × Int) =>
  (m_conf_Bytes_k5 0 (⟨#[]⟩ : ByteArray) (⟨#[]⟩ : ByteArray) (⟨#[1, 97, 0]⟩ : ByteArray) ([] : List ByteArray)).bind fun (z8 : ByteArray × Int) =>
  (m_conf_Apply_k5 (⟨([] : List Int), ([] : List ByteArray), ([] : List GAnchor), 0, ([] : List GFlush)⟩ : GConf) 0 (⟨#[]⟩ : ByteArray) (⟨#[]⟩ : ByteArray) (⟨#[1, 97, 0]⟩ : ByteArray) ([] : List ByteArray)).bind fun (z25 : GConf × Int) =>
  (m_conf_Apply_k5 z25.1 0 (⟨#[]⟩ : ByteArray) (⟨#[]⟩ : ByteArray) (⟨#[0]⟩ : ByteArray) ([] : List ByteArray)).bind fun (z43 : GConf × Int) =>
  if z4.1 = (⟨#[1, 3]⟩ : ByteArray) then
    if z4.2 = 0 then
      if z8.1 = (⟨#[5, 1, 97, 0]⟩ : ByteArray) then
        if z8.2 = 0 then
          if z25.2 = 0 then
            if z43.2 = 0 then
              if z43.1.fEpoch = 2 then
                if (z43.1.fFlushes.length : Int) = 1 then
                  (m_conf_Floor z25.1 (⟨#[1, 120, 1, 97, 0]⟩ : ByteArray)).bind fun x53 =>
                  if x53 = 1 then
                    (m_conf_Floor z25.1 (⟨#[1, 98, 0]⟩ : ByteArray)).bind fun x56 =>
                    some (decide (x56 = 0))
                  else
                    some false
                else
                  some false
              else
                some false
            else
              some false
          else
            some false
        else
          some false
      else
        some false
    else
      some false
  else
    some false
theorem c_law13_awake {w0 : World} {M : Nat → Prop} {H : List (Nat × Nat × Obj)} {R : List (Nat × Row)} {φ : World → Prop}  (r : Bool) (hm : m_law13_awake = some r) :
    Cn Try.prog 7 #[] ⟨w0, M, H, R, φ⟩ (fun x : Unit => .bool r) (fun x => True) (fun x => ⟨w0, M, H, R, φ⟩) := by
 unfold m_law13_awake at hm
 refine cn_intro (fn := Try.f7) (N := 74) Try.func7 rfl Try.ntmps7 rfl <| c_seq <| c_region <| g_v rfl r_assign <| g_nil <| d_then <| c_seq <| c_region <| g_v rfl (r_build _ rfl (bld35_0 _ _)) ?_
 replace hm := bnd hm
 obtain ⟨⟨x1, x2⟩, hx3, hm⟩ := hm
 refine g_cn ⟨w0, M, _, _, φ⟩ (fun _ h => h) Try.call15 rfl rfl (c_conf_Bytes_k1 3 (⟨#[]⟩ : ByteArray) (⟨#[]⟩ : ByteArray) (⟨#[]⟩ : ByteArray) ([] : List ByteArray) none 0 (Nat.le_refl 0) (fun W _ => Cl.nil _ _) _ hx3) (fun _ _ => ?_)
 refine g_v rfl r_move <| g_v rfl (r_extract rfl rfl) <| g_v rfl (r_extract rfl rfl) <| g_v rfl r_assign <| g_v rfl r_assign <| g_nil <| d_then <| c_seq <| c_region <| g_v rfl (r_build _ rfl (bld35_5 _ _)) ?_
 replace hm := bnd hm
 obtain ⟨⟨x5, x6⟩, hx7, hm⟩ := hm
 refine g_cn ⟨w0, M, _, _, φ⟩ (fun _ h => h) Try.call15 rfl rfl (c_conf_Bytes_k5 0 (⟨#[]⟩ : ByteArray) (⟨#[]⟩ : ByteArray) (⟨#[1, 97, 0]⟩ : ByteArray) ([] : List ByteArray) none 0 (Nat.le_refl 0) (fun W _ => Cl.nil _ _) _ hx7) (fun _ _ => ?_)
 refine g_v rfl r_move <| g_v rfl (r_extract rfl rfl) <| g_v rfl (r_extract rfl rfl) <| g_v rfl r_assign <| g_v rfl r_assign <| g_nil <| d_then ?_
 refine c_flat [(1, .string x1), (2, .int .i64 x2), (3, .string x5), (4, .int .i64 x6)] ⟨rfl, rfl, rfl, rfl, trivial⟩ (fun u => ?_)
 refine c_sta ⟨w0, M, H, R, φ⟩ (fun _ h => h) <| c_seq <| c_region <| g_v rfl (r_build _ rfl (bld29_9)) <| g_v rfl (r_build _ rfl (bld35_5 _ _)) ?_
 replace hm := bnd hm
 obtain ⟨⟨x9, x10⟩, hx11, hm⟩ := hm
 refine g_cn ⟨w0, M, _, _, φ⟩ (fun _ h => h) Try.call10 rfl rfl (c_conf_Apply_k5 (⟨([] : List Int), ([] : List ByteArray), ([] : List GAnchor), 0, ([] : List GFlush)⟩ : GConf) none 0 (Nat.le_refl 0) (fun W _ => Cl.nil _ _) none 0 (Nat.le_refl 0) (fun W _ => Cl.nil _ _) none 0 (Nat.le_refl 0) (fun W _ => Cl.nil _ _) none 0 (Nat.le_refl 0) (fun W _ => Cl.nil _ _) 0 (⟨#[]⟩ : ByteArray) (⟨#[]⟩ : ByteArray) (⟨#[1, 97, 0]⟩ : ByteArray) ([] : List ByteArray) none 0 (Nat.le_refl 0) (fun W _ => Cl.nil _ _) _ hx11) (fun ⟨A12, c13, A15, c16, A18, c19, A21, c22⟩ ⟨hc13, hc16, hc19, hc22⟩ => ?_)
 refine g_abs (fun φ24 q24' => ?_)
 have q24 : ∀ W, φ24 W → φ W := fun W h => (q24' W h).1
 have f14 := fun (W : World) (h : φ24 W) => (q24' W h).2.1
 have f17 := fun (W : World) (h : φ24 W) => (q24' W h).2.2.1
 have f20 := fun (W : World) (h : φ24 W) => (q24' W h).2.2.2.1
 have f23 := fun (W : World) (h : φ24 W) => (q24' W h).2.2.2.2
 refine g_v rfl r_move <| g_v rfl (r_extract rfl rfl) <| g_v rfl (r_extract rfl rfl) ?_
 refine g_e rfl (e_alloc 100050 Try.zeroValue29) (fun g26 _ => ?_)
 refine g_storeL (tag := 100050) rfl rfl rfl rfl Try.sizeOf29 rfl rfl <| g_v rfl r_assign <| g_nil <| d_then ?_
 refine c_flat [(1, .string x1), (2, .int .i64 x2), (3, .string x5), (4, .int .i64 x6), (5, .pointer (some ⟨g26, 0, none⟩)), (6, .int .i64 x10)] ⟨rfl, rfl, rfl, rfl, rfl, rfl, trivial⟩ (fun u => ?_)
 refine c_sta ⟨w0, M, (100050, g26, .cells #[.slice A12 x9.fRing.length c13, .slice A15 x9.fHints.length c16, .slice A18 x9.fAnchors.length c19, .int .i64 x9.fEpoch, .slice A21 x9.fFlushes.length c22] 29 (0, 0)) :: H, R, φ24⟩ (fun _ h => h) <| c_seq <| c_region <| g_v rfl (r_loadA (tag := 100050) rfl rfl Try.isAgg29 Try.sizeOf29 rfl rfl) <| g_v rfl (r_build _ rfl (bld35_5 _ _)) ?_
 replace hm := bnd hm
 obtain ⟨⟨x27, x28⟩, hx29, hm⟩ := hm
 refine g_cn ⟨w0, M, _, _, φ24⟩ (fun _ h => h) Try.call10 rfl rfl (c_conf_Apply_k5 x9 A12 c13 hc13 (fun W h => f14 W h) A15 c16 hc16 (fun W h => f17 W h) A18 c19 hc19 (fun W h => f20 W h) A21 c22 hc22 (fun W h => f23 W h) 0 (⟨#[]⟩ : ByteArray) (⟨#[]⟩ : ByteArray) (⟨#[0]⟩ : ByteArray) ([] : List ByteArray) none 0 (Nat.le_refl 0) (fun W _ => Cl.nil _ _) _ hx29) (fun ⟨A30, c31, A33, c34, A36, c37, A39, c40⟩ ⟨hc31, hc34, hc37, hc40⟩ => ?_)
 refine g_abs (fun φ42 q42' => ?_)
 have q42 : ∀ W, φ42 W → φ24 W := fun W h => (q42' W h).1
 have f32 := fun (W : World) (h : φ42 W) => (q42' W h).2.1
 have f35 := fun (W : World) (h : φ42 W) => (q42' W h).2.2.1
 have f38 := fun (W : World) (h : φ42 W) => (q42' W h).2.2.2.1
 have f41 := fun (W : World) (h : φ42 W) => (q42' W h).2.2.2.2
 refine g_v rfl r_move <| g_v rfl (r_extract rfl rfl) <| g_v rfl (r_extract rfl rfl) ?_
 refine g_e rfl (e_alloc 100070 Try.zeroValue29) (fun g44 _ => ?_)
 refine g_storeL (tag := 100070) rfl rfl rfl rfl Try.sizeOf29 rfl rfl <| g_v rfl r_assign <| g_nil <| d_then ?_
 refine c_flat [(1, .string x1), (2, .int .i64 x2), (3, .string x5), (4, .int .i64 x6), (5, .pointer (some ⟨g26, 0, none⟩)), (6, .int .i64 x10), (7, .pointer (some ⟨g44, 0, none⟩)), (8, .int .i64 x28)] ⟨rfl, rfl, rfl, rfl, rfl, rfl, rfl, rfl, trivial⟩ (fun u => ?_)
 refine c_sta ⟨w0, M, (100070, g44, .cells #[.slice A30 x27.fRing.length c31, .slice A33 x27.fHints.length c34, .slice A36 x27.fAnchors.length c37, .int .i64 x27.fEpoch, .slice A39 x27.fFlushes.length c40] 29 (0, 0)) :: (100050, g26, .cells #[.slice A12 x9.fRing.length c13, .slice A15 x9.fHints.length c16, .slice A18 x9.fAnchors.length c19, .int .i64 x9.fEpoch, .slice A21 x9.fFlushes.length c22] 29 (0, 0)) :: H, R, φ42⟩ (fun _ h => h) <| c_seq <| c_region <| g_v rfl r_move <| g_v rfl (r_eqlT rfl rfl) <| g_v rfl r_move ?_
 refine g_if rfl rfl rfl rfl rfl (fun h45 => ?_) (fun h45 => ?_)
 ·
  replace hm := ite_t hm (of_decide_eq_true h45)
  refine g_v rfl r_move <| g_do rfl rfl rfl rfl rfl h45 <| g_v rfl (r_eql rfl rfl) <| g_v rfl (r_pick1 rfl h45) <| g_v rfl r_move ?_
  refine g_if rfl rfl rfl rfl rfl (fun h46 => ?_) (fun h46 => ?_)
  ·
   replace hm := ite_t hm (of_decide_eq_true h46)
   refine g_v rfl r_move <| g_do rfl rfl rfl rfl rfl h46 <| g_v rfl (r_eqlT rfl rfl) <| g_v rfl (r_pick1 rfl h46) <| g_v rfl r_move ?_
   refine g_if rfl rfl rfl rfl rfl (fun h47 => ?_) (fun h47 => ?_)
   ·
    replace hm := ite_t hm (of_decide_eq_true h47)
    refine g_v rfl r_move <| g_do rfl rfl rfl rfl rfl h47 <| g_v rfl (r_eql rfl rfl) <| g_v rfl (r_pick1 rfl h47) <| g_v rfl r_move ?_
    refine g_if rfl rfl rfl rfl rfl (fun h48 => ?_) (fun h48 => ?_)
    ·
     replace hm := ite_t hm (of_decide_eq_true h48)
     refine g_v rfl r_move <| g_do rfl rfl rfl rfl rfl h48 <| g_v rfl (r_eql rfl rfl) <| g_v rfl (r_pick1 rfl h48) <| g_v rfl r_move ?_
     refine g_if rfl rfl rfl rfl rfl (fun h49 => ?_) (fun h49 => ?_)
     ·
      replace hm := ite_t hm (of_decide_eq_true h49)
      refine g_v rfl r_move <| g_do rfl rfl rfl rfl rfl h49 <| g_v rfl (r_eql rfl rfl) <| g_v rfl (r_pick1 rfl h49) <| g_v rfl r_move ?_
      refine g_if rfl rfl rfl rfl rfl (fun h50 => ?_) (fun h50 => ?_)
      ·
       replace hm := ite_t hm (of_decide_eq_true h50)
       refine g_v rfl (r_field (n := 3) Try.underlying29 rfl Try.sizeOf3 rfl rfl) <| g_do rfl rfl rfl rfl rfl h50 <| g_v rfl (r_load (tag := 100070) rfl rfl rfl Try.isAgg3) <| g_do rfl rfl rfl rfl rfl h50 <| g_v rfl (r_eql rfl rfl) <| g_v rfl (r_pick1 rfl h50) <| g_v rfl r_move ?_
       refine g_if rfl rfl rfl rfl rfl (fun h51 => ?_) (fun h51 => ?_)
       ·
        replace hm := ite_t hm (of_decide_eq_true h51)
        refine g_v rfl (r_field (n := 4) Try.underlying29 rfl Try.sizeOf27 rfl rfl) <| g_do rfl rfl rfl rfl rfl h51 <| g_v rfl (r_load (tag := 100070) rfl rfl rfl Try.isAgg27) <| g_do rfl rfl rfl rfl rfl h51 <| g_v rfl (r_lenL Try.underlying27 rfl) <| g_do rfl rfl rfl rfl rfl h51 <| g_v rfl (r_eql rfl rfl) <| g_v rfl (r_pick1 rfl h51) <| g_v rfl r_move ?_
        refine g_if rfl rfl rfl rfl rfl (fun h52 => ?_) (fun h52 => ?_)
        ·
         replace hm := ite_t hm (of_decide_eq_true h52)
         refine g_v rfl (r_loadA (tag := 100050) rfl rfl Try.isAgg29 Try.sizeOf29 rfl rfl) <| g_do rfl rfl rfl rfl rfl h52 ?_
         replace hm := bnd hm
         obtain ⟨x53, hx54, hm⟩ := hm
         refine g_cn ⟨w0, M, _, _, φ42⟩ (fun _ h => h) Try.call9 rfl rfl (c_conf_Floor x9 A12 c13 hc13 (fun W hS => f14 W (q42 _ hS.now)) A15 c16 hc16 (fun W hS => f17 W (q42 _ hS.now)) A18 c19 hc19 (fun W hS => f20 W (q42 _ hS.now)) A21 c22 hc22 (fun W hS => f23 W (q42 _ hS.now)) (⟨#[1, 120, 1, 97, 0]⟩ : ByteArray) _ hx54) (fun _ _ => ?_)
         refine g_do rfl rfl rfl rfl rfl h52 <| g_v rfl (r_eql rfl rfl) <| g_v rfl (r_pick1 rfl h52) <| g_v rfl r_move ?_
         refine g_if rfl rfl rfl rfl rfl (fun h55 => ?_) (fun h55 => ?_)
         ·
          replace hm := ite_t hm (of_decide_eq_true h55)
          refine g_v rfl (r_loadA (tag := 100050) rfl rfl Try.isAgg29 Try.sizeOf29 rfl rfl) <| g_do rfl rfl rfl rfl rfl h55 ?_
          replace hm := bnd hm
          obtain ⟨x56, hx57, hm⟩ := hm
          refine g_cn ⟨w0, M, _, _, φ42⟩ (fun _ h => h) Try.call9 rfl rfl (c_conf_Floor x9 A12 c13 hc13 (fun W hS => f14 W (q42 _ hS.now)) A15 c16 hc16 (fun W hS => f17 W (q42 _ hS.now)) A18 c19 hc19 (fun W hS => f20 W (q42 _ hS.now)) A21 c22 hc22 (fun W hS => f23 W (q42 _ hS.now)) (⟨#[1, 98, 0]⟩ : ByteArray) _ hx57) (fun _ _ => ?_)
          refine g_do rfl rfl rfl rfl rfl h55 <| g_v rfl (r_eql rfl rfl) <| g_v rfl (r_pick1 rfl h55) <| g_v rfl r_assign <| g_nil <| d_then ?_
          refine c_flat [(0, .bool (decide (x56 = 0)))] ⟨rfl, trivial⟩ (fun u => ?_)
          refine c_ret ?_
          replace hm := Option.some.inj hm
          subst hm
          refine d_retC () Try.results7 ?_ trivial (fun W h => ok_pre (H1 := [_, _]) (R1 := []) h (fun W hφ => (q24 _ (q42 _ hφ)))) (.inr rfl)
          refine res_tmp <| res_nil ?_
          exact rfl
         ·
          replace hm := ite_f hm (of_decide_eq_false h55)
          refine g_no rfl rfl rfl rfl rfl h55 <| g_no rfl rfl rfl rfl rfl h55 <| g_v rfl (r_pick0 rfl h55) <| g_v rfl r_assign <| g_nil <| d_then ?_
          refine c_flat [(0, .bool false)] ⟨rfl, trivial⟩ (fun u => ?_)
          refine c_ret ?_
          replace hm := Option.some.inj hm
          subst hm
          refine d_retC () Try.results7 ?_ trivial (fun W h => ok_pre (H1 := [_, _]) (R1 := []) h (fun W hφ => (q24 _ (q42 _ hφ)))) (.inr rfl)
          refine res_tmp <| res_nil ?_
          exact rfl
        ·
         replace hm := ite_f hm (of_decide_eq_false h52)
         refine g_no rfl rfl rfl rfl rfl h52 <| g_no rfl rfl rfl rfl rfl h52 <| g_v rfl (r_pick0 rfl h52) <| g_v rfl r_move <| g_no rfl rfl rfl rfl rfl rfl <| g_no rfl rfl rfl rfl rfl rfl <| g_no rfl rfl rfl rfl rfl rfl <| g_v rfl (r_pick0 rfl rfl) <| g_v rfl r_assign <| g_nil ?_
         refine d_then ?_
         refine c_flat [(0, .bool false)] ⟨rfl, trivial⟩ (fun u => ?_)
         refine c_ret ?_
         replace hm := Option.some.inj hm
         subst hm
         refine d_retC () Try.results7 ?_ trivial (fun W h => ok_pre (H1 := [_, _]) (R1 := []) h (fun W hφ => (q24 _ (q42 _ hφ)))) (.inr rfl)
         refine res_tmp <| res_nil ?_
         exact rfl
       ·
        replace hm := ite_f hm (of_decide_eq_false h51)
        refine g_no rfl rfl rfl rfl rfl h51 <| g_no rfl rfl rfl rfl rfl h51 <| g_no rfl rfl rfl rfl rfl h51 <| g_v rfl (r_pick0 rfl h51) <| g_v rfl r_move <| g_no rfl rfl rfl rfl rfl rfl <| g_no rfl rfl rfl rfl rfl rfl <| g_no rfl rfl rfl rfl rfl rfl <| g_v rfl (r_pick0 rfl rfl) <| g_v rfl r_move ?_
        refine g_no rfl rfl rfl rfl rfl rfl <| g_no rfl rfl rfl rfl rfl rfl <| g_no rfl rfl rfl rfl rfl rfl <| g_v rfl (r_pick0 rfl rfl) <| g_v rfl r_assign <| g_nil <| d_then ?_
        refine c_flat [(0, .bool false)] ⟨rfl, trivial⟩ (fun u => ?_)
        refine c_ret ?_
        replace hm := Option.some.inj hm
        subst hm
        refine d_retC () Try.results7 ?_ trivial (fun W h => ok_pre (H1 := [_, _]) (R1 := []) h (fun W hφ => (q24 _ (q42 _ hφ)))) (.inr rfl)
        refine res_tmp <| res_nil ?_
        exact rfl
      ·
       replace hm := ite_f hm (of_decide_eq_false h50)
       refine g_no rfl rfl rfl rfl rfl h50 <| g_no rfl rfl rfl rfl rfl h50 <| g_v rfl (r_pick0 rfl h50) <| g_v rfl r_move <| g_no rfl rfl rfl rfl rfl rfl <| g_no rfl rfl rfl rfl rfl rfl <| g_no rfl rfl rfl rfl rfl rfl <| g_no rfl rfl rfl rfl rfl rfl <| g_v rfl (r_pick0 rfl rfl) <| g_v rfl r_move ?_
       refine g_no rfl rfl rfl rfl rfl rfl <| g_no rfl rfl rfl rfl rfl rfl <| g_no rfl rfl rfl rfl rfl rfl <| g_v rfl (r_pick0 rfl rfl) <| g_v rfl r_move <| g_no rfl rfl rfl rfl rfl rfl <| g_no rfl rfl rfl rfl rfl rfl <| g_no rfl rfl rfl rfl rfl rfl <| g_v rfl (r_pick0 rfl rfl) <| g_v rfl r_assign ?_
       refine g_nil <| d_then ?_
       refine c_flat [(0, .bool false)] ⟨rfl, trivial⟩ (fun u => ?_)
       refine c_ret ?_
       replace hm := Option.some.inj hm
       subst hm
       refine d_retC () Try.results7 ?_ trivial (fun W h => ok_pre (H1 := [_, _]) (R1 := []) h (fun W hφ => (q24 _ (q42 _ hφ)))) (.inr rfl)
       refine res_tmp <| res_nil ?_
       exact rfl
     ·
      replace hm := ite_f hm (of_decide_eq_false h49)
      refine g_no rfl rfl rfl rfl rfl h49 <| g_v rfl (r_pick0 rfl h49) <| g_v rfl r_move <| g_no rfl rfl rfl rfl rfl rfl <| g_no rfl rfl rfl rfl rfl rfl <| g_no rfl rfl rfl rfl rfl rfl <| g_v rfl (r_pick0 rfl rfl) <| g_v rfl r_move <| g_no rfl rfl rfl rfl rfl rfl <| g_no rfl rfl rfl rfl rfl rfl ?_
      refine g_no rfl rfl rfl rfl rfl rfl <| g_no rfl rfl rfl rfl rfl rfl <| g_v rfl (r_pick0 rfl rfl) <| g_v rfl r_move <| g_no rfl rfl rfl rfl rfl rfl <| g_no rfl rfl rfl rfl rfl rfl <| g_no rfl rfl rfl rfl rfl rfl <| g_v rfl (r_pick0 rfl rfl) <| g_v rfl r_move <| g_no rfl rfl rfl rfl rfl rfl ?_
      refine g_no rfl rfl rfl rfl rfl rfl <| g_no rfl rfl rfl rfl rfl rfl <| g_v rfl (r_pick0 rfl rfl) <| g_v rfl r_assign <| g_nil <| d_then ?_
      refine c_flat [(0, .bool false)] ⟨rfl, trivial⟩ (fun u => ?_)
      refine c_ret ?_
      replace hm := Option.some.inj hm
      subst hm
      refine d_retC () Try.results7 ?_ trivial (fun W h => ok_pre (H1 := [_, _]) (R1 := []) h (fun W hφ => (q24 _ (q42 _ hφ)))) (.inr rfl)
      refine res_tmp <| res_nil ?_
      exact rfl
    ·
     replace hm := ite_f hm (of_decide_eq_false h48)
     refine g_no rfl rfl rfl rfl rfl h48 <| g_v rfl (r_pick0 rfl h48) <| g_v rfl r_move <| g_no rfl rfl rfl rfl rfl rfl <| g_no rfl rfl rfl rfl rfl rfl <| g_v rfl (r_pick0 rfl rfl) <| g_v rfl r_move <| g_no rfl rfl rfl rfl rfl rfl <| g_no rfl rfl rfl rfl rfl rfl <| g_no rfl rfl rfl rfl rfl rfl ?_
     refine g_v rfl (r_pick0 rfl rfl) <| g_v rfl r_move <| g_no rfl rfl rfl rfl rfl rfl <| g_no rfl rfl rfl rfl rfl rfl <| g_no rfl rfl rfl rfl rfl rfl <| g_no rfl rfl rfl rfl rfl rfl <| g_v rfl (r_pick0 rfl rfl) <| g_v rfl r_move <| g_no rfl rfl rfl rfl rfl rfl <| g_no rfl rfl rfl rfl rfl rfl ?_
     refine g_no rfl rfl rfl rfl rfl rfl <| g_v rfl (r_pick0 rfl rfl) <| g_v rfl r_move <| g_no rfl rfl rfl rfl rfl rfl <| g_no rfl rfl rfl rfl rfl rfl <| g_no rfl rfl rfl rfl rfl rfl <| g_v rfl (r_pick0 rfl rfl) <| g_v rfl r_assign <| g_nil <| d_then ?_
     refine c_flat [(0, .bool false)] ⟨rfl, trivial⟩ (fun u => ?_)
     refine c_ret ?_
     replace hm := Option.some.inj hm
     subst hm
     refine d_retC () Try.results7 ?_ trivial (fun W h => ok_pre (H1 := [_, _]) (R1 := []) h (fun W hφ => (q24 _ (q42 _ hφ)))) (.inr rfl)
     refine res_tmp <| res_nil ?_
     exact rfl
   ·
    replace hm := ite_f hm (of_decide_eq_false h47)
    refine g_no rfl rfl rfl rfl rfl h47 <| g_v rfl (r_pick0 rfl h47) <| g_v rfl r_move <| g_no rfl rfl rfl rfl rfl rfl <| g_no rfl rfl rfl rfl rfl rfl <| g_v rfl (r_pick0 rfl rfl) <| g_v rfl r_move <| g_no rfl rfl rfl rfl rfl rfl <| g_no rfl rfl rfl rfl rfl rfl <| g_v rfl (r_pick0 rfl rfl) ?_
    refine g_v rfl r_move <| g_no rfl rfl rfl rfl rfl rfl <| g_no rfl rfl rfl rfl rfl rfl <| g_no rfl rfl rfl rfl rfl rfl <| g_v rfl (r_pick0 rfl rfl) <| g_v rfl r_move <| g_no rfl rfl rfl rfl rfl rfl <| g_no rfl rfl rfl rfl rfl rfl <| g_no rfl rfl rfl rfl rfl rfl <| g_no rfl rfl rfl rfl rfl rfl ?_
    refine g_v rfl (r_pick0 rfl rfl) <| g_v rfl r_move <| g_no rfl rfl rfl rfl rfl rfl <| g_no rfl rfl rfl rfl rfl rfl <| g_no rfl rfl rfl rfl rfl rfl <| g_v rfl (r_pick0 rfl rfl) <| g_v rfl r_move <| g_no rfl rfl rfl rfl rfl rfl <| g_no rfl rfl rfl rfl rfl rfl <| g_no rfl rfl rfl rfl rfl rfl ?_
    refine g_v rfl (r_pick0 rfl rfl) <| g_v rfl r_assign <| g_nil <| d_then ?_
    refine c_flat [(0, .bool false)] ⟨rfl, trivial⟩ (fun u => ?_)
    refine c_ret ?_
    replace hm := Option.some.inj hm
    subst hm
    refine d_retC () Try.results7 ?_ trivial (fun W h => ok_pre (H1 := [_, _]) (R1 := []) h (fun W hφ => (q24 _ (q42 _ hφ)))) (.inr rfl)
    refine res_tmp <| res_nil ?_
    exact rfl
  ·
   replace hm := ite_f hm (of_decide_eq_false h46)
   refine g_no rfl rfl rfl rfl rfl h46 <| g_v rfl (r_pick0 rfl h46) <| g_v rfl r_move <| g_no rfl rfl rfl rfl rfl rfl <| g_no rfl rfl rfl rfl rfl rfl <| g_v rfl (r_pick0 rfl rfl) <| g_v rfl r_move <| g_no rfl rfl rfl rfl rfl rfl <| g_no rfl rfl rfl rfl rfl rfl <| g_v rfl (r_pick0 rfl rfl) ?_
   refine g_v rfl r_move <| g_no rfl rfl rfl rfl rfl rfl <| g_no rfl rfl rfl rfl rfl rfl <| g_v rfl (r_pick0 rfl rfl) <| g_v rfl r_move <| g_no rfl rfl rfl rfl rfl rfl <| g_no rfl rfl rfl rfl rfl rfl <| g_no rfl rfl rfl rfl rfl rfl <| g_v rfl (r_pick0 rfl rfl) <| g_v rfl r_move ?_
   refine g_no rfl rfl rfl rfl rfl rfl <| g_no rfl rfl rfl rfl rfl rfl <| g_no rfl rfl rfl rfl rfl rfl <| g_no rfl rfl rfl rfl rfl rfl <| g_v rfl (r_pick0 rfl rfl) <| g_v rfl r_move <| g_no rfl rfl rfl rfl rfl rfl <| g_no rfl rfl rfl rfl rfl rfl <| g_no rfl rfl rfl rfl rfl rfl <| g_v rfl (r_pick0 rfl rfl) ?_
   refine g_v rfl r_move <| g_no rfl rfl rfl rfl rfl rfl <| g_no rfl rfl rfl rfl rfl rfl <| g_no rfl rfl rfl rfl rfl rfl <| g_v rfl (r_pick0 rfl rfl) <| g_v rfl r_assign <| g_nil <| d_then ?_
   refine c_flat [(0, .bool false)] ⟨rfl, trivial⟩ (fun u => ?_)
   refine c_ret ?_
   replace hm := Option.some.inj hm
   subst hm
   refine d_retC () Try.results7 ?_ trivial (fun W h => ok_pre (H1 := [_, _]) (R1 := []) h (fun W hφ => (q24 _ (q42 _ hφ)))) (.inr rfl)
   refine res_tmp <| res_nil ?_
   exact rfl
 ·
  replace hm := ite_f hm (of_decide_eq_false h45)
  refine g_no rfl rfl rfl rfl rfl h45 <| g_v rfl (r_pick0 rfl h45) <| g_v rfl r_move <| g_no rfl rfl rfl rfl rfl rfl <| g_no rfl rfl rfl rfl rfl rfl <| g_v rfl (r_pick0 rfl rfl) <| g_v rfl r_move <| g_no rfl rfl rfl rfl rfl rfl <| g_no rfl rfl rfl rfl rfl rfl <| g_v rfl (r_pick0 rfl rfl) ?_
  refine g_v rfl r_move <| g_no rfl rfl rfl rfl rfl rfl <| g_no rfl rfl rfl rfl rfl rfl <| g_v rfl (r_pick0 rfl rfl) <| g_v rfl r_move <| g_no rfl rfl rfl rfl rfl rfl <| g_no rfl rfl rfl rfl rfl rfl <| g_v rfl (r_pick0 rfl rfl) <| g_v rfl r_move <| g_no rfl rfl rfl rfl rfl rfl ?_
  refine g_no rfl rfl rfl rfl rfl rfl <| g_no rfl rfl rfl rfl rfl rfl <| g_v rfl (r_pick0 rfl rfl) <| g_v rfl r_move <| g_no rfl rfl rfl rfl rfl rfl <| g_no rfl rfl rfl rfl rfl rfl <| g_no rfl rfl rfl rfl rfl rfl <| g_no rfl rfl rfl rfl rfl rfl <| g_v rfl (r_pick0 rfl rfl) <| g_v rfl r_move ?_
  refine g_no rfl rfl rfl rfl rfl rfl <| g_no rfl rfl rfl rfl rfl rfl <| g_no rfl rfl rfl rfl rfl rfl <| g_v rfl (r_pick0 rfl rfl) <| g_v rfl r_move <| g_no rfl rfl rfl rfl rfl rfl <| g_no rfl rfl rfl rfl rfl rfl <| g_no rfl rfl rfl rfl rfl rfl <| g_v rfl (r_pick0 rfl rfl) <| g_v rfl r_assign ?_
  refine g_nil <| d_then ?_
  refine c_flat [(0, .bool false)] ⟨rfl, trivial⟩ (fun u => ?_)
  refine c_ret ?_
  replace hm := Option.some.inj hm
  subst hm
  refine d_retC () Try.results7 ?_ trivial (fun W h => ok_pre (H1 := [_, _]) (R1 := []) h (fun W hφ => (q24 _ (q42 _ hφ)))) (.inr rfl)
  refine res_tmp <| res_nil ?_
  exact rfl
noncomputable def m_law13_short (p0 : ByteArray) (p1 : Int) : Option ByteArray :=
  if p1 < (p0.size : Int) then
    (scutHi p0 p1).bind fun s2 =>
    some s2
  else
    some p0
theorem c_law13_short {w0 : World} {M : Nat → Prop} {H : List (Nat × Nat × Obj)} {R : List (Nat × Row)} {φ : World → Prop} (p0 : ByteArray) (p1 : Int) (r : ByteArray) (hm : m_law13_short p0 p1 = some r) :
    Cn Try.prog 8 #[.string p0, .int .i64 p1] ⟨w0, M, H, R, φ⟩ (fun x : Unit => .string r) (fun x => True) (fun x => ⟨w0, M, H, R, φ⟩) := by
 unfold m_law13_short at hm
 refine cn_intro (fn := Try.f8) (N := 13) Try.func8 rfl Try.ntmps8 rfl <| c_seq <| c_region <| g_v rfl r_assign <| g_nil <| d_then <| c_seq <| c_seq <| c_region <| g_v rfl r_move ?_
 refine g_v rfl (r_len Try.underlying9 rfl) <| g_v rfl r_move <| g_v rfl (r_gtr rfl rfl) <| g_nil <| d_then ?_
 refine c_cond rfl (fun h1 => ?_) (fun h1 => ?_)
 ·
  replace hm := ite_t hm (of_decide_eq_true h1)
  refine c_seq <| c_region <| g_v rfl r_move <| g_v rfl r_move ?_
  replace hm := bnd hm
  obtain ⟨s2, hs2, hm⟩ := hm
  refine g_v rfl (r_scutHi Try.underlying9 rfl rfl hs2) <| g_v rfl r_assign <| g_nil <| d_then ?_
  refine c_flat [(4, .string s2)] ⟨rfl, trivial⟩ (fun u => ?_)
  refine c_sta ⟨w0, M, H, R, φ⟩ (fun _ h => h) <| c_ret <| d_ret_then ?_
  replace hm := Option.some.inj hm
  subst hm
  refine d_retC () Try.results8 ?_ trivial (fun W h => ok_pre (H1 := []) (R1 := []) h (fun W hφ => hφ)) (.inr rfl)
  refine res_tmp <| res_nil ?_
  exact rfl
 ·
  replace hm := ite_f hm (of_decide_eq_false h1)
  refine c_skip <| d_then <| c_seq <| c_region <| g_v rfl r_move <| g_v rfl r_assign <| g_nil <| d_then <| c_ret ?_
  replace hm := Option.some.inj hm
  subst hm
  refine d_retC () Try.results8 ?_ trivial (fun W h => ok_pre (H1 := []) (R1 := []) h (fun W hφ => hφ)) (.inr rfl)
  refine res_tmp <| res_nil ?_
  exact rfl
noncomputable def m_law13_small_j1 (p0 : GOrder) (x3 : ByteArray) (x5 : ByteArray) (x7 : ByteArray) (l92 : List ByteArray) : Option GOrder :=
  some (⟨p0.fKind, p0.fNode, x3, x5, x7, l92⟩ : GOrder)
noncomputable def m_law13_small_s2 (p0 : GOrder) (l112 : List ByteArray) (i115 : Int) : Option (((List ByteArray) × Int) ⊕ (List ByteArray)) :=
  if i115 < (p0.fHints.length : Int) then
    if i115 < 20 then
      (at_ p0.fHints i115).bind fun x135 =>
      (m_law13_short x135 10).bind fun x139 =>
      (app 16 l112 [x139]).bind fun l142 =>
      some (.inl (l142, w64 (i115 + 1)))
    else
      some (.inr l112)
  else
    some (.inr l112)
noncomputable def m_law13_small (p0 : GOrder) : Option GOrder :=
  (m_law13_short p0.fName 300).bind fun x3 =>
  (m_law13_short p0.fText 300).bind fun x5 =>
  (m_law13_short p0.fZone 300).bind fun x7 =>
  (loop (fun s => m_law13_small_s2 p0 s.1 s.2) (([] : List ByteArray), 0)).bind fun e => m_law13_small_j1 p0 x3 x5 x7 e
theorem c_law13_small {w0 : World} {M : Nat → Prop} {H : List (Nat × Nat × Obj)} {R : List (Nat × Row)} {φ : World → Prop} (p0 : GOrder) (Ap0_0 : Option Addr) (cp0_0 : Nat) (hcp0_0 : p0.fHints.length ≤ cp0_0) (fp0_0 : ∀ W, (Sta.mk w0 M H R φ).ok W → Cl W Ap0_0 (p0.fHints.flatMap (fun x : ByteArray => [Value.string x]))) (r : GOrder) (hm : m_law13_small p0 = some r) :
    Cn Try.prog 14 #[.agg #[.int .i64 p0.fKind, .int .i64 p0.fNode, .string p0.fName, .string p0.fText, .string p0.fZone, .slice Ap0_0 p0.fHints.length cp0_0]] ⟨w0, M, H, R, φ⟩ (fun x : Option Addr × Nat => .agg #[.int .i64 r.fKind, .int .i64 r.fNode, .string r.fName, .string r.fText, .string r.fZone, .slice x.1 r.fHints.length x.2]) (fun x => r.fHints.length ≤ x.2) (fun x => ⟨w0, M, H, R, fun W => φ W ∧ Cl W x.1 (r.fHints.flatMap (fun x : ByteArray => [Value.string x]))⟩) := by
 unfold m_law13_small at hm
 refine cn_intro (fn := Try.f14) (N := 40) Try.func14 rfl Try.ntmps14 rfl <| c_seq <| c_region ?_
 refine g_e rfl (e_box 100010 rfl) (fun g1 _ => ?_)
 refine g_e rfl (e_alloc 100020 Try.zeroValue35) (fun g2 _ => ?_)
 refine g_nil <| d_then <| c_seq <| c_region <| g_v rfl (r_field (n := 2) Try.underlying35 rfl Try.sizeOf9 rfl rfl) <| g_v rfl (r_load (tag := 100010) rfl rfl rfl Try.isAgg9) ?_
 replace hm := bnd hm
 obtain ⟨x3, hx4, hm⟩ := hm
 refine g_cn ⟨w0, M, _, _, φ⟩ (fun _ h => h) Try.call8 rfl rfl (c_law13_short p0.fName 300 _ hx4) (fun _ _ => ?_)
 refine g_v rfl (r_field (n := 2) Try.underlying35 rfl Try.sizeOf9 rfl rfl) <| g_storeL (tag := 100010) rfl rfl rfl rfl Try.sizeOf9 rfl rfl <| g_nil <| d_then <| c_seq <| c_region <| g_v rfl (r_field (n := 3) Try.underlying35 rfl Try.sizeOf9 rfl rfl) <| g_v rfl (r_load (tag := 100010) rfl rfl rfl Try.isAgg9) ?_
 replace hm := bnd hm
 obtain ⟨x5, hx6, hm⟩ := hm
 refine g_cn ⟨w0, M, _, _, φ⟩ (fun _ h => h) Try.call8 rfl rfl (c_law13_short p0.fText 300 _ hx6) (fun _ _ => ?_)
 refine g_v rfl (r_field (n := 3) Try.underlying35 rfl Try.sizeOf9 rfl rfl) <| g_storeL (tag := 100010) rfl rfl rfl rfl Try.sizeOf9 rfl rfl <| g_nil <| d_then ?_
 refine c_flat [(1, .pointer (some ⟨g1, 0, none⟩)), (2, .pointer (some ⟨g2, 0, none⟩))] ⟨rfl, rfl, trivial⟩ (fun u => ?_)
 refine c_sta ⟨w0, M, (100020, g2, .cells #[.int .i64 0, .int .i64 0, .string (⟨#[]⟩ : ByteArray), .string (⟨#[]⟩ : ByteArray), .string (⟨#[]⟩ : ByteArray), .slice none 0 0] 35 (0, 0)) :: (100010, g1, .cells #[.int .i64 p0.fKind, .int .i64 p0.fNode, .string x3, .string x5, .string p0.fZone, .slice Ap0_0 p0.fHints.length cp0_0] 35 (0, 0)) :: H, R, φ⟩ (fun _ h => h) <| c_seq <| c_region <| g_v rfl (r_field (n := 4) Try.underlying35 rfl Try.sizeOf9 rfl rfl) <| g_v rfl (r_load (tag := 100010) rfl rfl rfl Try.isAgg9) ?_
 replace hm := bnd hm
 obtain ⟨x7, hx8, hm⟩ := hm
 refine g_cn ⟨w0, M, _, _, φ⟩ (fun _ h => h) Try.call8 rfl rfl (c_law13_short p0.fZone 300 _ hx8) (fun _ _ => ?_)
 refine g_v rfl (r_field (n := 4) Try.underlying35 rfl Try.sizeOf9 rfl rfl) <| g_storeL (tag := 100010) rfl rfl rfl rfl Try.sizeOf9 rfl rfl <| g_nil <| d_then <| c_seq <| c_region <| g_v rfl r_assign <| g_nil <| d_then <| c_seq ?_
 refine c_sta _ (fun W h => nilR h 13 9 1) ?_
 refine c_cut (ι := (List ByteArray) × Option Addr × Nat) [1, 2, 3] (fun ⟨l92, A93, c94⟩ => [(3, .slice A93 l92.length c94)]) (fun ⟨l92, A93, c94⟩ => ⟨w0, M, (100020, g2, .cells #[.int .i64 0, .int .i64 0, .string (⟨#[]⟩ : ByteArray), .string (⟨#[]⟩ : ByteArray), .string (⟨#[]⟩ : ByteArray), .slice none 0 0] 35 (0, 0)) :: (100010, g1, .cells #[.int .i64 p0.fKind, .int .i64 p0.fNode, .string x3, .string x5, .string x7, .slice Ap0_0 p0.fHints.length cp0_0] 35 (0, 0)) :: H, (13, ⟨.slice A93 l92.length c94, 9, 1, l92.length, l92.flatMap (fun x : ByteArray => [Value.string x])⟩) :: R, φ⟩) (fun ⟨l92, A93, c94⟩ => m_law13_small_j1 p0 x3 x5 x7 l92 = some r ∧ l92.length ≤ c94) ?_ (fun ⟨l92, A93, c94⟩ u ⟨hm, hc94⟩ => ?_)
 ·
  refine c_seq <| c_region <| g_v rfl r_assign <| g_nil <| d_then <| c_block ?_
  replace hm := bnd hm
  obtain ⟨out2, hl2, hr2⟩ := hm
  obtain ⟨n132', hl2⟩ := loop_lp hl2
  refine c_loopU (ι := Nat × (List ByteArray) × Int × Option Addr × Nat) [1, 2, 3, 4] (fun ⟨n132, l112, i115, A113, c114⟩ => [(3, .slice A113 l112.length c114), (4, .int .i64 i115)]) (fun ⟨n132, l112, i115, A113, c114⟩ => ⟨w0, M, (100020, g2, .cells #[.int .i64 0, .int .i64 0, .string (⟨#[]⟩ : ByteArray), .string (⟨#[]⟩ : ByteArray), .string (⟨#[]⟩ : ByteArray), .slice none 0 0] 35 (0, 0)) :: (100010, g1, .cells #[.int .i64 p0.fKind, .int .i64 p0.fNode, .string x3, .string x5, .string x7, .slice Ap0_0 p0.fHints.length cp0_0] 35 (0, 0)) :: H, (13, ⟨.slice A113 l112.length c114, 9, 1, l112.length, l112.flatMap (fun x : ByteArray => [Value.string x])⟩) :: R, φ⟩) (fun ⟨n132, l112, i115, A113, c114⟩ => Lp (fun s => m_law13_small_s2 p0 s.1 s.2) n132 (l112, i115) out2 ∧ l112.length ≤ c114) (fun ⟨n132, l112, i115, A113, c114⟩ => n132) (n132', ([] : List ByteArray), 0, none, 0) ⟨hl2, (Nat.le_refl 0)⟩ ⟨rfl, rfl, rfl, rfl, trivial⟩ (fun W h => h.phi (fun W hφ => hφ)) (fun ⟨n132, l112, i115, A113, c114⟩ u ⟨hlp, hc114⟩ => ?_)
  obtain ⟨o2, hm, hnx2⟩ := lp_step hlp
  clear hlp
  replace hm : m_law13_small_s2 p0 l112 i115 = some o2 := hm
  unfold m_law13_small_s2 at hm
  refine c_flat [(1, .pointer (some ⟨g1, 0, none⟩)), (2, .pointer (some ⟨g2, 0, none⟩)), (3, .slice A113 l112.length c114), (4, .int .i64 i115)] ⟨rfl, rfl, rfl, rfl, trivial⟩ (fun u => ?_)
  refine c_sta ⟨w0, M, (100020, g2, .cells #[.int .i64 0, .int .i64 0, .string (⟨#[]⟩ : ByteArray), .string (⟨#[]⟩ : ByteArray), .string (⟨#[]⟩ : ByteArray), .slice none 0 0] 35 (0, 0)) :: (100010, g1, .cells #[.int .i64 p0.fKind, .int .i64 p0.fNode, .string x3, .string x5, .string x7, .slice Ap0_0 p0.fHints.length cp0_0] 35 (0, 0)) :: H, (13, ⟨.slice A113 l112.length c114, 9, 1, l112.length, l112.flatMap (fun x : ByteArray => [Value.string x])⟩) :: R, φ⟩ (fun _ h => h) <| c_seq <| c_seq <| c_region <| g_v rfl r_move <| g_v rfl (r_field (n := 5) Try.underlying35 rfl Try.sizeOf22 rfl rfl) <| g_v rfl (r_load (tag := 100010) rfl rfl rfl Try.isAgg22) <| g_v rfl (r_lenL Try.underlying22 rfl) <| g_v rfl (r_lss rfl rfl) <| g_v rfl r_move ?_
  refine g_if rfl rfl rfl rfl rfl (fun h133 => ?_) (fun h133 => ?_)
  ·
   replace hm := ite_t hm (of_decide_eq_true h133)
   refine g_v rfl r_move <| g_do rfl rfl rfl rfl rfl h133 <| g_v rfl (r_lss rfl rfl) <| g_v rfl (r_pick1 rfl h133) <| g_nil <| d_then ?_
   refine c_flat [(1, .pointer (some ⟨g1, 0, none⟩)), (2, .pointer (some ⟨g2, 0, none⟩)), (3, .slice A113 l112.length c114), (4, .int .i64 i115), (25, .bool (decide (i115 < 20)))] ⟨rfl, rfl, rfl, rfl, rfl, trivial⟩ (fun u => ?_)
   refine c_cond rfl (fun h134 => ?_) (fun h134 => ?_)
   ·
    replace hm := ite_t hm (of_decide_eq_true h134)
    refine c_skip <| d_then <| c_seq <| c_block <| c_region <| g_v rfl r_move <| g_v rfl (r_field (n := 5) Try.underlying35 rfl Try.sizeOf22 rfl rfl) <| g_v rfl (r_load (tag := 100010) rfl rfl rfl Try.isAgg22) <| g_v rfl r_move ?_
    replace hm := bnd hm
    obtain ⟨x135, hx135, hm⟩ := hm
    refine g_know _ (fun W hS => cl_at (p := (Sta.mk w0 M H R φ).ok) (sz := 1) (fun _ => rfl) (by decide) (ok_pre (H1 := [_, _]) (R1 := [_]) hS (fun W h => h)) fp0_0 hx135) ?_
    rintro ⟨ad136, hA138, f137⟩
    refine g_v rfl (r_ix Try.underlying22 Try.sizeOf9 rfl hA138 rfl hx135) <| g_v rfl (r_ld rfl Try.isAgg9 (fun W hS => Cl.head (f137 W (ok_pre (H1 := [_, _]) (R1 := [_]) hS (fun W h => h))))) ?_
    replace hm := bnd hm
    obtain ⟨x139, hx140, hm⟩ := hm
    refine g_cn ⟨w0, M, _, _, φ⟩ (fun _ h => h) Try.call8 rfl rfl (c_law13_short x135 10 _ hx140) (fun _ _ => ?_)
    refine g_e rfl (e_lit (tag := 100350) (l := [x139]) (enc := (fun x : ByteArray => [Value.string x])) (sz := 1) rfl Try.underlying22 (lit9_6 _) rfl rfl (fun _ => rfl)) (fun g141 _ => ?_)
    replace hm := bnd hm
    obtain ⟨l142, hl142, hm⟩ := hm
    refine g_e rfl (e_appR (enc := (fun x : ByteArray => [Value.string x])) (l := l112) (l1 := [x139]) (l2 := l142) (tag := 13) Try.underlying22 inf9_7 rfl (by decide) (by decide) (fun _ => rfl) (fun _ => rfl) rfl hc114 rfl rfl (fun W hS => rowCl (tag := 100350) rfl W hS) hl142) (fun ⟨A143, c144⟩ hc144 => ?_)
    refine g_v rfl r_assign <| g_nil <| d_normal_block <| d_then ?_
    refine c_flat [(1, .pointer (some ⟨g1, 0, none⟩)), (2, .pointer (some ⟨g2, 0, none⟩)), (3, .slice A143 l142.length c144), (4, .int .i64 i115)] ⟨rfl, rfl, rfl, rfl, trivial⟩ (fun u => ?_)
    refine c_sta ⟨w0, M, (100020, g2, .cells #[.int .i64 0, .int .i64 0, .string (⟨#[]⟩ : ByteArray), .string (⟨#[]⟩ : ByteArray), .string (⟨#[]⟩ : ByteArray), .slice none 0 0] 35 (0, 0)) :: (100010, g1, .cells #[.int .i64 p0.fKind, .int .i64 p0.fNode, .string x3, .string x5, .string x7, .slice Ap0_0 p0.fHints.length cp0_0] 35 (0, 0)) :: H, (100350, ⟨.slice (some ⟨g141, 0, none⟩) [x139].length 1, 9, 1, [x139].length, [x139].flatMap (fun x : ByteArray => [Value.string x])⟩) :: (13, ⟨.slice A143 l142.length c144, 9, 1, l142.length, l142.flatMap (fun x : ByteArray => [Value.string x])⟩) :: R, φ⟩ (fun _ h => h) <| c_region <| g_v rfl r_move <| g_v rfl (r_add rfl rfl rfl) <| g_v rfl r_assign <| g_nil ?_
    obtain ⟨n145, hn145, hlp⟩ := nx_inl hm hnx2
    exact d_round (n145, l142, w64 (i115 + 1), A143, c144) ⟨hlp, hc144⟩ hn145 ⟨rfl, rfl, rfl, rfl, trivial⟩ (fun W h => (h.dropR (t := 100350) rfl).phi (fun W hφ => hφ))
   ·
    replace hm := ite_f hm (of_decide_eq_false h134)
    refine c_exit <| d_exit_then <| d_exit_then <| d_exit_block ?_
    replace hm := nx_out (C := (fun e : (List ByteArray) => m_law13_small_j1 p0 x3 x5 x7 e = some r)) hm hnx2 hr2
    exact d_round (l112, A113, c114) ⟨hm, hc114⟩ Nat.zero_lt_one ⟨rfl, rfl, rfl, trivial⟩ (fun W h => h.phi (fun W hφ => hφ))
  ·
   replace hm := ite_f hm (of_decide_eq_false h133)
   refine g_no rfl rfl rfl rfl rfl h133 <| g_v rfl (r_pick0 rfl h133) <| g_nil <| d_then <| c_cond0 rfl rfl <| c_exit <| d_exit_then <| d_exit_then <| d_exit_block ?_
   replace hm := nx_out (C := (fun e : (List ByteArray) => m_law13_small_j1 p0 x3 x5 x7 e = some r)) hm hnx2 hr2
   exact d_round (l112, A113, c114) ⟨hm, hc114⟩ Nat.zero_lt_one ⟨rfl, rfl, rfl, trivial⟩ (fun W h => h.phi (fun W hφ => hφ))
 ·
  unfold m_law13_small_j1 at hm
  refine d_flat [(1, .pointer (some ⟨g1, 0, none⟩)), (2, .pointer (some ⟨g2, 0, none⟩)), (3, .slice A93 l92.length c94)] ⟨rfl, rfl, rfl, trivial⟩ (fun u => ?_)
  refine d_sta ⟨w0, M, (100020, g2, .cells #[.int .i64 0, .int .i64 0, .string (⟨#[]⟩ : ByteArray), .string (⟨#[]⟩ : ByteArray), .string (⟨#[]⟩ : ByteArray), .slice none 0 0] 35 (0, 0)) :: (100010, g1, .cells #[.int .i64 p0.fKind, .int .i64 p0.fNode, .string x3, .string x5, .string x7, .slice Ap0_0 p0.fHints.length cp0_0] 35 (0, 0)) :: H, (13, ⟨.slice A93 l92.length c94, 9, 1, l92.length, l92.flatMap (fun x : ByteArray => [Value.string x])⟩) :: R, φ⟩ (fun _ h => h) <| d_then <| c_seq <| c_region <| g_v rfl r_move <| g_v rfl (r_field (n := 5) Try.underlying35 rfl Try.sizeOf22 rfl rfl) <| g_storeL (tag := 100010) rfl rfl rfl rfl Try.sizeOf22 rfl rfl <| g_nil <| d_then <| c_seq ?_
  refine c_region <| g_v rfl (r_loadA (tag := 100010) rfl rfl Try.isAgg35 Try.sizeOf35 rfl rfl) <| g_storeL (tag := 100020) rfl rfl rfl rfl Try.sizeOf35 rfl rfl <| g_nil <| d_then <| c_ret ?_
  replace hm := Option.some.inj hm
  subst hm
  refine d_shut (tag := 13) rfl (fun φ95 q95' => ?_)
  have q95 : ∀ W, φ95 W → φ W := fun W h => (q95' W h).1
  have f96 := fun (W : World) (h : φ95 W) => (q95' W h).2
  refine d_retC (A93, c94) Try.results14 ?_ hc94 (fun W h => ok_pre (H1 := [_, _]) (R1 := []) h (fun W hφ => ⟨(q95 _ hφ), (fun W h => f96 W h) W hφ⟩)) (.inr rfl)
  refine res_agg (tag := 100020) rfl rfl Try.isAgg35 Try.sizeOf35 <| res_nil ?_
  exact rfl
noncomputable def m_conf_hint (p0 : ByteArray) : Option Bool :=
  some (decide ((p0.size : Int) = 4))
theorem c_conf_hint {w0 : World} {M : Nat → Prop} {H : List (Nat × Nat × Obj)} {R : List (Nat × Row)} {φ : World → Prop} (p0 : ByteArray) (r : Bool) (hm : m_conf_hint p0 = some r) :
    Cn Try.prog 55 #[.string p0] ⟨w0, M, H, R, φ⟩ (fun x : Unit => .bool r) (fun x => True) (fun x => ⟨w0, M, H, R, φ⟩) := by
 unfold m_conf_hint at hm
 refine cn_intro (fn := Try.f55) (N := 6) Try.func55 rfl Try.ntmps55 rfl <| c_seq <| c_region <| g_v rfl r_assign <| g_nil <| d_then <| c_seq <| c_region <| g_v rfl r_move <| g_v rfl (r_len Try.underlying9 rfl) ?_
 refine g_v rfl (r_eql rfl rfl) <| g_v rfl r_assign <| g_nil <| d_then <| c_ret ?_
 replace hm := Option.some.inj hm
 subst hm
 refine d_retC () Try.results55 ?_ trivial (fun W h => ok_pre (H1 := []) (R1 := []) h (fun W hφ => hφ)) (.inr rfl)
 refine res_tmp <| res_nil ?_
 exact rfl
noncomputable def m_conf_Check_c1 (p0 : ByteArray) : Option Bool :=
  (m_conf_hint p0).bind fun x1 =>
  some (!x1)
theorem c_conf_Check_c1 {w0 : World} {M : Nat → Prop} {H : List (Nat × Nat × Obj)} {R : List (Nat × Row)} {φ : World → Prop} (p0 : ByteArray) (r : Bool) (hm : m_conf_Check_c1 p0 = some r) :
    Cn Try.prog 54 #[.string p0] ⟨w0, M, H, R, φ⟩ (fun x : Unit => .bool r) (fun x => True) (fun x => ⟨w0, M, H, R, φ⟩) := by
 unfold m_conf_Check_c1 at hm
 refine cn_intro (fn := Try.f54) (N := 6) Try.func54 rfl Try.ntmps54 rfl <| c_seq <| c_region <| g_v rfl r_assign <| g_nil <| d_then <| c_seq <| c_region <| g_v rfl r_move ?_
 replace hm := bnd hm
 obtain ⟨x1, hx2, hm⟩ := hm
 refine g_cn ⟨w0, M, _, _, φ⟩ (fun _ h => h) Try.call55 rfl rfl (c_conf_hint p0 _ hx2) (fun _ _ => ?_)
 refine g_v rfl (r_not rfl) <| g_v rfl r_assign <| g_nil <| d_then <| c_ret ?_
 replace hm := Option.some.inj hm
 subst hm
 refine d_retC () Try.results54 ?_ trivial (fun W h => ok_pre (H1 := []) (R1 := []) h (fun W hφ => hφ)) (.inr rfl)
 refine res_tmp <| res_nil ?_
 exact rfl
noncomputable def m_slices_IndexFunc_76_2_j1  : Option Int :=
  some (-1)
noncomputable def m_slices_IndexFunc_76_2_s2 (p0 : List ByteArray) (i30 : Int) : Option (Int ⊕ (Unit ⊕ Int)) :=
  if i30 < (p0.length : Int) then
    (at_ p0 i30).bind fun x42 =>
    (m_conf_Check_c1 x42).bind fun x46 =>
    if x46 = true then
      some (.inr (.inr i30))
    else
      some (.inl (w64 (i30 + 1)))
  else
    some (.inr (.inl ()))
noncomputable def m_slices_IndexFunc_76_2 (p0 : List ByteArray) : Option Int :=
  (loop (fun s => m_slices_IndexFunc_76_2_s2 p0 s) 0).bind fun e => Sum.elim (fun e => m_slices_IndexFunc_76_2_j1) (fun x => some x) e
theorem c_slices_IndexFunc_76_2 {w0 : World} {M : Nat → Prop} {H : List (Nat × Nat × Obj)} {R : List (Nat × Row)} {φ : World → Prop} (p0 : List ByteArray) (Ap0_0 : Option Addr) (cp0_0 : Nat) (hcp0_0 : p0.length ≤ cp0_0) (fp0_0 : ∀ W, (Sta.mk w0 M H R φ).ok W → Cl W Ap0_0 (p0.flatMap (fun x : ByteArray => [Value.string x]))) (r : Int) (hm : m_slices_IndexFunc_76_2 p0 = some r) :
    Cn Try.prog 76 #[.slice Ap0_0 p0.length cp0_0, .func (.func 54) #[] #[]] ⟨w0, M, H, R, φ⟩ (fun x : Unit => .int .i64 r) (fun x => True) (fun x => ⟨w0, M, H, R, φ⟩) := by
 unfold m_slices_IndexFunc_76_2 at hm
 refine cn_intro (fn := Try.f76) (N := 19) Try.func76 rfl Try.ntmps76 rfl <| c_seq <| c_region <| g_v rfl r_assign <| g_nil <| d_then <| c_seq <| c_seq <| c_region <| g_v rfl r_move ?_
 refine g_v rfl (r_lenL Try.underlying22 rfl) <| g_v rfl r_move <| g_nil <| d_then ?_
 refine c_cut (ι := Unit) [] (fun _ => []) (fun _ => ⟨w0, M, H, R, φ⟩) (fun _ => m_slices_IndexFunc_76_2_j1 = some r) ?_ (fun _ u hm => ?_)
 ·
  refine c_block ?_
  replace hm := bnd hm
  obtain ⟨out2, hl2, hr2⟩ := hm
  obtain ⟨n40', hl2⟩ := loop_lp hl2
  refine c_loopU (ι := Nat × Int) [0, 1, 7, 8] (fun ⟨n40, i30⟩ => [(8, .int .i64 i30)]) (fun ⟨n40, i30⟩ => ⟨w0, M, H, R, φ⟩) (fun ⟨n40, i30⟩ => Lp (fun s => m_slices_IndexFunc_76_2_s2 p0 s) n40 i30 out2) (fun ⟨n40, i30⟩ => n40) (n40', 0) hl2 ⟨rfl, rfl, rfl, rfl, trivial⟩ (fun W h => h.phi (fun W hφ => hφ)) (fun ⟨n40, i30⟩ u hlp => ?_)
  obtain ⟨o2, hm, hnx2⟩ := lp_step hlp
  clear hlp
  replace hm : m_slices_IndexFunc_76_2_s2 p0 i30 = some o2 := hm
  unfold m_slices_IndexFunc_76_2_s2 at hm
  refine c_flat [(0, .slice Ap0_0 p0.length cp0_0), (1, .func (.func 54) #[] #[]), (7, .int .i64 (p0.length : Int)), (8, .int .i64 i30)] ⟨rfl, rfl, rfl, rfl, trivial⟩ (fun u => ?_)
  refine c_sta ⟨w0, M, H, R, φ⟩ (fun _ h => h) <| c_seq <| c_region <| g_v rfl (r_lss rfl rfl) <| g_nil <| d_then <| c_seq ?_
  refine c_cond rfl (fun h41 => ?_) (fun h41 => ?_)
  ·
   replace hm := ite_t hm (of_decide_eq_true h41)
   refine c_skip <| d_then <| c_seq <| c_block <| c_seq <| c_region <| g_v rfl r_move <| g_v rfl r_assign <| g_nil <| d_then ?_
   refine c_seq <| c_region <| g_v rfl r_move <| g_v rfl r_move <| g_v rfl r_move ?_
   replace hm := bnd hm
   obtain ⟨x42, hx42, hm⟩ := hm
   refine g_know _ (fun W hS => cl_at (p := (Sta.mk w0 M H R φ).ok) (sz := 1) (fun _ => rfl) (by decide) (ok_pre (H1 := []) (R1 := []) hS (fun W h => h)) fp0_0 hx42) ?_
   rintro ⟨ad43, hA45, f44⟩
   refine g_v rfl (r_ix Try.underlying22 Try.sizeOf9 rfl hA45 rfl hx42) <| g_v rfl (r_ld rfl Try.isAgg9 (fun W hS => Cl.head (f44 W (ok_pre (H1 := []) (R1 := []) hS (fun W h => h))))) ?_
   replace hm := bnd hm
   obtain ⟨x46, hx47, hm⟩ := hm
   refine g_cnv ⟨w0, M, _, _, φ⟩ (fun _ h => h) Try.call54 rfl rfl rfl (c_conf_Check_c1 x42 _ hx47) (fun _ _ => ?_)
   refine g_nil <| d_then ?_
   refine c_flat [(0, .slice Ap0_0 p0.length cp0_0), (1, .func (.func 54) #[] #[]), (5, .int .i64 i30), (7, .int .i64 (p0.length : Int)), (8, .int .i64 i30), (16, .bool x46)] ⟨rfl, rfl, rfl, rfl, rfl, rfl, trivial⟩ (fun u => ?_)
   refine c_cond rfl (fun h48 => ?_) (fun h48 => ?_)
   ·
    replace hm := ite_t hm h48
    refine c_seq <| c_region <| g_v rfl r_move <| g_v rfl r_assign <| g_nil <| d_then <| c_ret <| d_ret_block <| d_ret_then <| d_ret_then ?_
    refine d_ret_block <| d_ret_then <| d_ret_then ?_
    replace hm := nx_out (C := (fun e : Unit ⊕ Int => Sum.elim (fun e => m_slices_IndexFunc_76_2_j1) (fun x => some x) e = some r)) hm hnx2 hr2
    replace hm : some i30 = some r := hm
    replace hm := Option.some.inj hm
    subst hm
    refine d_retC () Try.results76 ?_ trivial (fun W h => ok_pre (H1 := []) (R1 := []) h (fun W hφ => hφ)) (.inr rfl)
    refine res_tmp <| res_nil ?_
    exact rfl
   ·
    replace hm := ite_f hm (bool_nt h48)
    refine c_skip <| d_normal_block <| d_then <| c_region <| g_v rfl (r_add rfl rfl rfl) <| g_v rfl r_move <| g_nil ?_
    obtain ⟨n49, hn49, hlp⟩ := nx_inl hm hnx2
    exact d_round (n49, w64 (i30 + 1)) hlp hn49 ⟨rfl, rfl, rfl, rfl, trivial⟩ (fun W h => h.phi (fun W hφ => hφ))
  ·
   replace hm := ite_f hm (of_decide_eq_false h41)
   refine c_exit <| d_exit_then <| d_exit_then <| d_exit_block ?_
   replace hm := nx_out (C := (fun e : Unit ⊕ Int => Sum.elim (fun e => m_slices_IndexFunc_76_2_j1) (fun x => some x) e = some r)) hm hnx2 hr2
   exact d_round () hm Nat.zero_lt_one trivial (fun W h => h.phi (fun W hφ => hφ))
 ·
  unfold m_slices_IndexFunc_76_2_j1 at hm
  refine d_flat [] trivial (fun u => ?_)
  refine d_sta ⟨w0, M, H, R, φ⟩ (fun _ h => h) <| d_then <| c_seq <| c_region <| g_v rfl r_assign <| g_nil <| d_then <| c_ret ?_
  replace hm := Option.some.inj hm
  subst hm
  refine d_retC () Try.results76 ?_ trivial (fun W h => ok_pre (H1 := []) (R1 := []) h (fun W hφ => hφ)) (.inr rfl)
  refine res_tmp <| res_nil ?_
  exact rfl
noncomputable def m_slices_ContainsFunc_53_2 (p0 : List ByteArray) : Option Bool :=
  (m_slices_IndexFunc_76_2 p0).bind fun x1 =>
  some (decide (0 ≤ x1))
theorem c_slices_ContainsFunc_53_2 {w0 : World} {M : Nat → Prop} {H : List (Nat × Nat × Obj)} {R : List (Nat × Row)} {φ : World → Prop} (p0 : List ByteArray) (Ap0_0 : Option Addr) (cp0_0 : Nat) (hcp0_0 : p0.length ≤ cp0_0) (fp0_0 : ∀ W, (Sta.mk w0 M H R φ).ok W → Cl W Ap0_0 (p0.flatMap (fun x : ByteArray => [Value.string x]))) (r : Bool) (hm : m_slices_ContainsFunc_53_2 p0 = some r) :
    Cn Try.prog 53 #[.slice Ap0_0 p0.length cp0_0, .func (.func 54) #[] #[]] ⟨w0, M, H, R, φ⟩ (fun x : Unit => .bool r) (fun x => True) (fun x => ⟨w0, M, H, R, φ⟩) := by
 unfold m_slices_ContainsFunc_53_2 at hm
 refine cn_intro (fn := Try.f53) (N := 9) Try.func53 rfl Try.ntmps53 rfl <| c_seq <| c_region <| g_v rfl r_assign <| g_nil <| d_then <| c_seq <| c_region <| g_v rfl r_move <| g_v rfl r_move ?_
 replace hm := bnd hm
 obtain ⟨x1, hx2, hm⟩ := hm
 refine g_cn ⟨w0, M, _, _, φ⟩ (fun _ h => h) Try.call76 rfl rfl (c_slices_IndexFunc_76_2 p0 Ap0_0 cp0_0 hcp0_0 (fun W hS => fp0_0 W (ok_pre (H1 := []) (R1 := []) hS (fun W h => h))) _ hx2) (fun _ _ => ?_)
 refine g_v rfl (r_geq rfl rfl) <| g_v rfl r_assign <| g_nil <| d_then <| c_ret ?_
 replace hm := Option.some.inj hm
 subst hm
 refine d_retC () Try.results53 ?_ trivial (fun W h => ok_pre (H1 := []) (R1 := []) h (fun W hφ => hφ)) (.inr rfl)
 refine res_tmp <| res_nil ?_
 exact rfl
noncomputable def m_conf_Check_3_j2  (b41 : Bool) : Option Int :=
  if b41 = true then
    some 0
  else
    some 1
noncomputable def m_conf_Check_3_j3 (p0_fNode : Int) (p0_fName : ByteArray) (p0_fText : ByteArray) (p0_fZone : ByteArray) (p0_fHints : List ByteArray) (p0_fKind : Int) (b3 : Bool) (b44 : Bool) : Option Int :=
  if b44 = true then
    (m_conf_node p0_fNode).bind fun x46 =>
    if x46 = true then
      (m_conf_none [p0_fName, p0_fText, p0_fZone]).bind fun x50 =>
      if x50 = true then
        m_conf_Check_3_j2 (decide ((p0_fHints.length : Int) = 0))
      else
        m_conf_Check_3_j2 false
    else
      m_conf_Check_3_j2 false
  else
    if p0_fKind = 3 then
      if p0_fNode = 0 then
        (m_conf_none [p0_fName, p0_fText, p0_fZone]).bind fun x56 =>
        if x56 = true then
          if 0 < (p0_fHints.length : Int) then
            if (p0_fHints.length : Int) ≤ 13 then
              (m_slices_ContainsFunc_53_2 p0_fHints).bind fun x61 =>
              m_conf_Check_3_j2 (!x61)
            else
              m_conf_Check_3_j2 false
          else
            m_conf_Check_3_j2 false
        else
          m_conf_Check_3_j2 false
      else
        m_conf_Check_3_j2 false
    else
      if p0_fKind = 4 then
        if b3 = true then
          (m_conf_named p0_fName).bind fun x65 =>
          if x65 = true then
            if (p0_fText.size : Int) ≤ 200 then
              (m_conf_none [p0_fZone]).bind fun x70 =>
              m_conf_Check_3_j2 x70
            else
              m_conf_Check_3_j2 false
          else
            m_conf_Check_3_j2 false
        else
          m_conf_Check_3_j2 false
      else
        if p0_fKind = 5 then
          if b3 = true then
            (m_conf_named p0_fZone).bind fun x74 =>
            if x74 = true then
              (m_conf_none [p0_fName, p0_fText]).bind fun x78 =>
              m_conf_Check_3_j2 x78
            else
              m_conf_Check_3_j2 false
          else
            m_conf_Check_3_j2 false
        else
          m_conf_Check_3_j2 false
noncomputable def m_conf_Check_3_j1 (p0_fKind : Int) (p0_fNode : Int) (p0_fName : ByteArray) (p0_fText : ByteArray) (p0_fZone : ByteArray) (p0_fHints : List ByteArray) (b3 : Bool) : Option Int :=
  if p0_fKind = 1 then
    m_conf_Check_3_j3 p0_fNode p0_fName p0_fText p0_fZone p0_fHints p0_fKind b3 (decide (p0_fKind = 1))
  else
    m_conf_Check_3_j3 p0_fNode p0_fName p0_fText p0_fZone p0_fHints p0_fKind b3 (decide (p0_fKind = 2))
noncomputable def m_conf_Check_3 (p0_fKind : Int) (p0_fNode : Int) (p0_fName : ByteArray) (p0_fText : ByteArray) (p0_fZone : ByteArray) (p0_fHints : List ByteArray) : Option Int :=
  if p0_fNode = 0 then
    m_conf_Check_3_j1 p0_fKind p0_fNode p0_fName p0_fText p0_fZone p0_fHints (decide ((p0_fHints.length : Int) = 0))
  else
    m_conf_Check_3_j1 p0_fKind p0_fNode p0_fName p0_fText p0_fZone p0_fHints false
theorem c_conf_Check_3 {w0 : World} {M : Nat → Prop} {H : List (Nat × Nat × Obj)} {R : List (Nat × Row)} {φ : World → Prop} (p0_fKind : Int) (p0_fNode : Int) (p0_fName : ByteArray) (p0_fText : ByteArray) (p0_fZone : ByteArray) (p0_fHints : List ByteArray) (Ap0_fHints_0 : Option Addr) (cp0_fHints_0 : Nat) (hcp0_fHints_0 : p0_fHints.length ≤ cp0_fHints_0) (fp0_fHints_0 : ∀ W, (Sta.mk w0 M H R φ).ok W → Cl W Ap0_fHints_0 (p0_fHints.flatMap (fun x : ByteArray => [Value.string x]))) (r : Int) (hm : m_conf_Check_3 p0_fKind p0_fNode p0_fName p0_fText p0_fZone p0_fHints = some r) :
    Cn Try.prog 20 #[.agg #[.int .i64 p0_fKind, .int .i64 p0_fNode, .string p0_fName, .string p0_fText, .string p0_fZone, .slice Ap0_fHints_0 p0_fHints.length cp0_fHints_0]] ⟨w0, M, H, R, φ⟩ (fun x : Unit => .int .i64 r) (fun x => True) (fun x => ⟨w0, M, H, R, φ⟩) := by
 unfold m_conf_Check_3 at hm
 refine cn_intro (fn := Try.f20) (N := 109) Try.func20 rfl Try.ntmps20 rfl <| c_seq <| c_region ?_
 refine g_e rfl (e_box 100010 rfl) (fun g1 _ => ?_)
 refine g_v rfl r_assign <| g_nil <| d_then <| c_seq <| c_region <| g_v rfl r_assign <| g_nil <| d_then <| c_seq ?_
 refine c_cut (ι := Bool) [1, 3, 4] (fun b3 => [(4, .bool b3)]) (fun b3 => ⟨w0, M, (100010, g1, .cells #[.int .i64 p0_fKind, .int .i64 p0_fNode, .string p0_fName, .string p0_fText, .string p0_fZone, .slice Ap0_fHints_0 p0_fHints.length cp0_fHints_0] 35 (0, 0)) :: H, R, φ⟩) (fun b3 => m_conf_Check_3_j1 p0_fKind p0_fNode p0_fName p0_fText p0_fZone p0_fHints b3 = some r) ?_ (fun b3 u hm => ?_)
 ·
  refine c_region <| g_v rfl (r_field (n := 1) Try.underlying35 rfl Try.sizeOf3 rfl rfl) <| g_v rfl (r_load (tag := 100010) rfl rfl rfl Try.isAgg3) <| g_v rfl (r_eql rfl rfl) <| g_v rfl r_move ?_
  refine g_if rfl rfl rfl rfl rfl (fun h81 => ?_) (fun h81 => ?_)
  ·
   replace hm := ite_t hm (of_decide_eq_true h81)
   refine g_v rfl (r_field (n := 5) Try.underlying35 rfl Try.sizeOf22 rfl rfl) <| g_do rfl rfl rfl rfl rfl h81 <| g_v rfl (r_load (tag := 100010) rfl rfl rfl Try.isAgg22) <| g_do rfl rfl rfl rfl rfl h81 <| g_v rfl (r_lenL Try.underlying22 rfl) <| g_do rfl rfl rfl rfl rfl h81 <| g_v rfl (r_eql rfl rfl) <| g_v rfl (r_pick1 rfl h81) <| g_v rfl r_assign <| g_nil ?_
   exact d_round (decide ((p0_fHints.length : Int) = 0)) hm Nat.zero_lt_one ⟨rfl, rfl, rfl, trivial⟩ (fun W h => h.phi (fun W hφ => hφ))
  ·
   replace hm := ite_f hm (of_decide_eq_false h81)
   refine g_no rfl rfl rfl rfl rfl h81 <| g_no rfl rfl rfl rfl rfl h81 <| g_no rfl rfl rfl rfl rfl h81 <| g_v rfl (r_pick0 rfl h81) <| g_v rfl r_assign <| g_nil ?_
   exact d_round false hm Nat.zero_lt_one ⟨rfl, rfl, rfl, trivial⟩ (fun W h => h.phi (fun W hφ => hφ))
 ·
  unfold m_conf_Check_3_j1 at hm
  refine d_flat [(1, .pointer (some ⟨g1, 0, none⟩)), (3, .bool false), (4, .bool b3)] ⟨rfl, rfl, rfl, trivial⟩ (fun u => ?_)
  refine d_sta ⟨w0, M, (100010, g1, .cells #[.int .i64 p0_fKind, .int .i64 p0_fNode, .string p0_fName, .string p0_fText, .string p0_fZone, .slice Ap0_fHints_0 p0_fHints.length cp0_fHints_0] 35 (0, 0)) :: H, R, φ⟩ (fun _ h => h) <| d_then <| c_seq ?_
  refine c_cut (ι := Bool) [3] (fun b41 => [(3, .bool b41)]) (fun b41 => ⟨w0, M, H, R, φ⟩) (fun b41 => m_conf_Check_3_j2 b41 = some r) ?_ (fun b41 u hm => ?_)
  ·
   refine c_seq <| c_region <| g_v rfl (r_field (n := 0) Try.underlying35 rfl Try.sizeOf3 rfl rfl) <| g_v rfl (r_load (tag := 100010) rfl rfl rfl Try.isAgg3) <| g_nil <| d_then <| c_block <| c_seq ?_
   refine c_cut (ι := Bool) [1, 3, 4, 15, 16] (fun b44 => [(16, .bool b44)]) (fun b44 => ⟨w0, M, (100010, g1, .cells #[.int .i64 p0_fKind, .int .i64 p0_fNode, .string p0_fName, .string p0_fText, .string p0_fZone, .slice Ap0_fHints_0 p0_fHints.length cp0_fHints_0] 35 (0, 0)) :: H, R, φ⟩) (fun b44 => m_conf_Check_3_j3 p0_fNode p0_fName p0_fText p0_fZone p0_fHints p0_fKind b3 b44 = some r) ?_ (fun b44 u hm => ?_)
   ·
    refine c_seq <| c_region <| g_v rfl (r_eql rfl rfl) <| g_v rfl r_assign <| g_nil <| d_then ?_
    refine c_cond rfl (fun h80 => ?_) (fun h80 => ?_)
    ·
     replace hm := ite_t hm (of_decide_eq_true h80)
     refine c_skip ?_
     exact d_round (decide (p0_fKind = 1)) hm Nat.zero_lt_one ⟨rfl, rfl, rfl, rfl, rfl, trivial⟩ (fun W h => h.phi (fun W hφ => hφ))
    ·
     replace hm := ite_f hm (of_decide_eq_false h80)
     refine c_region <| g_v rfl (r_eql rfl rfl) <| g_v rfl r_assign <| g_nil ?_
     exact d_round (decide (p0_fKind = 2)) hm Nat.zero_lt_one ⟨rfl, rfl, rfl, rfl, rfl, trivial⟩ (fun W h => h.phi (fun W hφ => hφ))
   ·
    unfold m_conf_Check_3_j3 at hm
    refine d_flat [(1, .pointer (some ⟨g1, 0, none⟩)), (3, .bool false), (4, .bool b3), (15, .int .i64 p0_fKind), (16, .bool b44)] ⟨rfl, rfl, rfl, rfl, rfl, trivial⟩ (fun u => ?_)
    refine d_then ?_
    refine c_cond rfl (fun h45 => ?_) (fun h45 => ?_)
    ·
     replace hm := ite_t hm h45
     refine c_region <| g_v rfl (r_field (n := 1) Try.underlying35 rfl Try.sizeOf3 rfl rfl) <| g_v rfl (r_load (tag := 100010) rfl rfl rfl Try.isAgg3) ?_
     replace hm := bnd hm
     obtain ⟨x46, hx47, hm⟩ := hm
     refine g_cn ⟨w0, M, _, _, φ⟩ (fun _ h => h) Try.call51 rfl rfl (c_conf_node p0_fNode _ hx47) (fun _ _ => ?_)
     refine g_v rfl r_move ?_
     refine g_if rfl rfl rfl rfl rfl (fun h48 => ?_) (fun h48 => ?_)
     ·
      replace hm := ite_t hm h48
      refine g_v rfl (r_field (n := 2) Try.underlying35 rfl Try.sizeOf9 rfl rfl) <| g_do rfl rfl rfl rfl rfl h48 <| g_v rfl (r_load (tag := 100010) rfl rfl rfl Try.isAgg9) <| g_do rfl rfl rfl rfl rfl h48 <| g_v rfl (r_field (n := 3) Try.underlying35 rfl Try.sizeOf9 rfl rfl) <| g_do rfl rfl rfl rfl rfl h48 <| g_v rfl (r_load (tag := 100010) rfl rfl rfl Try.isAgg9) <| g_do rfl rfl rfl rfl rfl h48 <| g_v rfl (r_field (n := 4) Try.underlying35 rfl Try.sizeOf9 rfl rfl) <| g_do rfl rfl rfl rfl rfl h48 ?_
      refine g_v rfl (r_load (tag := 100010) rfl rfl rfl Try.isAgg9) <| g_do rfl rfl rfl rfl rfl h48 ?_
      refine g_e rfl (e_lit (tag := 100290) (l := [p0_fName, p0_fText, p0_fZone]) (enc := (fun x : ByteArray => [Value.string x])) (sz := 1) rfl Try.underlying22 (lit9_1 _ _ _) rfl rfl (fun _ => rfl)) (fun g49 _ => ?_)
      refine g_do rfl rfl rfl rfl rfl h48 ?_
      replace hm := bnd hm
      obtain ⟨x50, hx51, hm⟩ := hm
      refine g_cn ⟨w0, M, _, _, φ⟩ (fun _ h => h) Try.call52 rfl rfl (c_conf_none [p0_fName, p0_fText, p0_fZone] (some ⟨g49, 0, none⟩) 3 (Nat.le_refl _) (fun W hS => rowCl (tag := 100290) rfl W hS) _ hx51) (fun _ _ => ?_)
      refine g_v rfl (r_pick1 rfl h48) <| g_v rfl r_move ?_
      refine g_if rfl rfl rfl rfl rfl (fun h52 => ?_) (fun h52 => ?_)
      ·
       replace hm := ite_t hm h52
       refine g_v rfl (r_field (n := 5) Try.underlying35 rfl Try.sizeOf22 rfl rfl) <| g_do rfl rfl rfl rfl rfl h52 <| g_v rfl (r_load (tag := 100010) rfl rfl rfl Try.isAgg22) <| g_do rfl rfl rfl rfl rfl h52 <| g_v rfl (r_lenL Try.underlying22 rfl) <| g_do rfl rfl rfl rfl rfl h52 <| g_v rfl (r_eql rfl rfl) <| g_v rfl (r_pick1 rfl h52) <| g_v rfl r_assign <| g_nil ?_
       refine d_normal_block ?_
       exact d_round (decide ((p0_fHints.length : Int) = 0)) hm Nat.zero_lt_one ⟨rfl, trivial⟩ (fun W h => ((h.dropR (t := 100290) rfl).dropH (t := 100010) rfl).phi (fun W hφ => hφ))
      ·
       replace hm := ite_f hm (bool_nt h52)
       refine g_no rfl rfl rfl rfl rfl h52 <| g_no rfl rfl rfl rfl rfl h52 <| g_no rfl rfl rfl rfl rfl h52 <| g_v rfl (r_pick0 rfl h52) <| g_v rfl r_assign <| g_nil <| d_normal_block ?_
       exact d_round false hm Nat.zero_lt_one ⟨rfl, trivial⟩ (fun W h => ((h.dropR (t := 100290) rfl).dropH (t := 100010) rfl).phi (fun W hφ => hφ))
     ·
      replace hm := ite_f hm (bool_nt h48)
      refine g_no rfl rfl rfl rfl rfl h48 <| g_no rfl rfl rfl rfl rfl h48 <| g_no rfl rfl rfl rfl rfl h48 <| g_no rfl rfl rfl rfl rfl h48 <| g_no rfl rfl rfl rfl rfl h48 <| g_no rfl rfl rfl rfl rfl h48 <| g_no rfl rfl rfl rfl rfl h48 <| g_v rfl (r_pick0 rfl h48) <| g_v rfl r_move <| g_no rfl rfl rfl rfl rfl rfl ?_
      refine g_no rfl rfl rfl rfl rfl rfl <| g_no rfl rfl rfl rfl rfl rfl <| g_no rfl rfl rfl rfl rfl rfl <| g_v rfl (r_pick0 rfl rfl) <| g_v rfl r_assign <| g_nil <| d_normal_block ?_
      exact d_round false hm Nat.zero_lt_one ⟨rfl, trivial⟩ (fun W h => (h.dropH (t := 100010) rfl).phi (fun W hφ => hφ))
    ·
     replace hm := ite_f hm (bool_nt h45)
     refine c_seq <| c_region <| g_v rfl (r_eql rfl rfl) <| g_v rfl r_assign <| g_nil <| d_then ?_
     refine c_cond rfl (fun h53 => ?_) (fun h53 => ?_)
     ·
      replace hm := ite_t hm (of_decide_eq_true h53)
      refine c_region <| g_v rfl (r_field (n := 1) Try.underlying35 rfl Try.sizeOf3 rfl rfl) <| g_v rfl (r_load (tag := 100010) rfl rfl rfl Try.isAgg3) <| g_v rfl (r_eql rfl rfl) <| g_v rfl r_move ?_
      refine g_if rfl rfl rfl rfl rfl (fun h54 => ?_) (fun h54 => ?_)
      ·
       replace hm := ite_t hm (of_decide_eq_true h54)
       refine g_v rfl (r_field (n := 2) Try.underlying35 rfl Try.sizeOf9 rfl rfl) <| g_do rfl rfl rfl rfl rfl h54 <| g_v rfl (r_load (tag := 100010) rfl rfl rfl Try.isAgg9) <| g_do rfl rfl rfl rfl rfl h54 <| g_v rfl (r_field (n := 3) Try.underlying35 rfl Try.sizeOf9 rfl rfl) <| g_do rfl rfl rfl rfl rfl h54 <| g_v rfl (r_load (tag := 100010) rfl rfl rfl Try.isAgg9) <| g_do rfl rfl rfl rfl rfl h54 <| g_v rfl (r_field (n := 4) Try.underlying35 rfl Try.sizeOf9 rfl rfl) <| g_do rfl rfl rfl rfl rfl h54 ?_
       refine g_v rfl (r_load (tag := 100010) rfl rfl rfl Try.isAgg9) <| g_do rfl rfl rfl rfl rfl h54 ?_
       refine g_e rfl (e_lit (tag := 100500) (l := [p0_fName, p0_fText, p0_fZone]) (enc := (fun x : ByteArray => [Value.string x])) (sz := 1) rfl Try.underlying22 (lit9_1 _ _ _) rfl rfl (fun _ => rfl)) (fun g55 _ => ?_)
       refine g_do rfl rfl rfl rfl rfl h54 ?_
       replace hm := bnd hm
       obtain ⟨x56, hx57, hm⟩ := hm
       refine g_cn ⟨w0, M, _, _, φ⟩ (fun _ h => h) Try.call52 rfl rfl (c_conf_none [p0_fName, p0_fText, p0_fZone] (some ⟨g55, 0, none⟩) 3 (Nat.le_refl _) (fun W hS => rowCl (tag := 100500) rfl W hS) _ hx57) (fun _ _ => ?_)
       refine g_v rfl (r_pick1 rfl h54) <| g_v rfl r_move ?_
       refine g_if rfl rfl rfl rfl rfl (fun h58 => ?_) (fun h58 => ?_)
       ·
        replace hm := ite_t hm h58
        refine g_v rfl (r_field (n := 5) Try.underlying35 rfl Try.sizeOf22 rfl rfl) <| g_do rfl rfl rfl rfl rfl h58 <| g_v rfl (r_load (tag := 100010) rfl rfl rfl Try.isAgg22) <| g_do rfl rfl rfl rfl rfl h58 <| g_v rfl (r_lenL Try.underlying22 rfl) <| g_do rfl rfl rfl rfl rfl h58 <| g_v rfl (r_gtr rfl rfl) <| g_v rfl (r_pick1 rfl h58) <| g_v rfl r_move ?_
        refine g_if rfl rfl rfl rfl rfl (fun h59 => ?_) (fun h59 => ?_)
        ·
         replace hm := ite_t hm (of_decide_eq_true h59)
         refine g_v rfl (r_field (n := 5) Try.underlying35 rfl Try.sizeOf22 rfl rfl) <| g_do rfl rfl rfl rfl rfl h59 <| g_v rfl (r_load (tag := 100010) rfl rfl rfl Try.isAgg22) <| g_do rfl rfl rfl rfl rfl h59 <| g_v rfl (r_lenL Try.underlying22 rfl) <| g_do rfl rfl rfl rfl rfl h59 <| g_v rfl (r_leq rfl rfl) <| g_v rfl (r_pick1 rfl h59) <| g_v rfl r_move ?_
         refine g_if rfl rfl rfl rfl rfl (fun h60 => ?_) (fun h60 => ?_)
         ·
          replace hm := ite_t hm (of_decide_eq_true h60)
          refine g_v rfl (r_field (n := 5) Try.underlying35 rfl Try.sizeOf22 rfl rfl) <| g_do rfl rfl rfl rfl rfl h60 <| g_v rfl (r_load (tag := 100010) rfl rfl rfl Try.isAgg22) <| g_do rfl rfl rfl rfl rfl h60 ?_
          replace hm := bnd hm
          obtain ⟨x61, hx62, hm⟩ := hm
          refine g_cn ⟨w0, M, _, _, φ⟩ (fun _ h => h) Try.call53 rfl rfl (c_slices_ContainsFunc_53_2 p0_fHints Ap0_fHints_0 cp0_fHints_0 hcp0_fHints_0 (fun W hS => fp0_fHints_0 W (ok_pre (H1 := [_]) (R1 := [_]) hS (fun W h => h))) _ hx62) (fun _ _ => ?_)
          refine g_do rfl rfl rfl rfl rfl h60 <| g_v rfl (r_not rfl) <| g_v rfl (r_pick1 rfl h60) <| g_v rfl r_assign <| g_nil <| d_normal_block ?_
          exact d_round (!x61) hm Nat.zero_lt_one ⟨rfl, trivial⟩ (fun W h => ((h.dropR (t := 100500) rfl).dropH (t := 100010) rfl).phi (fun W hφ => hφ))
         ·
          replace hm := ite_f hm (of_decide_eq_false h60)
          refine g_no rfl rfl rfl rfl rfl h60 <| g_no rfl rfl rfl rfl rfl h60 <| g_no rfl rfl rfl rfl rfl h60 <| g_v rfl (r_pick0 rfl h60) <| g_v rfl r_assign <| g_nil <| d_normal_block ?_
          exact d_round false hm Nat.zero_lt_one ⟨rfl, trivial⟩ (fun W h => ((h.dropR (t := 100500) rfl).dropH (t := 100010) rfl).phi (fun W hφ => hφ))
        ·
         replace hm := ite_f hm (of_decide_eq_false h59)
         refine g_no rfl rfl rfl rfl rfl h59 <| g_no rfl rfl rfl rfl rfl h59 <| g_no rfl rfl rfl rfl rfl h59 <| g_v rfl (r_pick0 rfl h59) <| g_v rfl r_move <| g_no rfl rfl rfl rfl rfl rfl <| g_no rfl rfl rfl rfl rfl rfl <| g_no rfl rfl rfl rfl rfl rfl <| g_no rfl rfl rfl rfl rfl rfl <| g_v rfl (r_pick0 rfl rfl) ?_
         refine g_v rfl r_assign <| g_nil <| d_normal_block ?_
         exact d_round false hm Nat.zero_lt_one ⟨rfl, trivial⟩ (fun W h => ((h.dropR (t := 100500) rfl).dropH (t := 100010) rfl).phi (fun W hφ => hφ))
       ·
        replace hm := ite_f hm (bool_nt h58)
        refine g_no rfl rfl rfl rfl rfl h58 <| g_no rfl rfl rfl rfl rfl h58 <| g_no rfl rfl rfl rfl rfl h58 <| g_v rfl (r_pick0 rfl h58) <| g_v rfl r_move <| g_no rfl rfl rfl rfl rfl rfl <| g_no rfl rfl rfl rfl rfl rfl <| g_no rfl rfl rfl rfl rfl rfl <| g_no rfl rfl rfl rfl rfl rfl <| g_v rfl (r_pick0 rfl rfl) ?_
        refine g_v rfl r_move <| g_no rfl rfl rfl rfl rfl rfl <| g_no rfl rfl rfl rfl rfl rfl <| g_no rfl rfl rfl rfl rfl rfl <| g_no rfl rfl rfl rfl rfl rfl <| g_v rfl (r_pick0 rfl rfl) <| g_v rfl r_assign <| g_nil <| d_normal_block ?_
        exact d_round false hm Nat.zero_lt_one ⟨rfl, trivial⟩ (fun W h => ((h.dropR (t := 100500) rfl).dropH (t := 100010) rfl).phi (fun W hφ => hφ))
      ·
       replace hm := ite_f hm (of_decide_eq_false h54)
       refine g_no rfl rfl rfl rfl rfl h54 <| g_no rfl rfl rfl rfl rfl h54 <| g_no rfl rfl rfl rfl rfl h54 <| g_no rfl rfl rfl rfl rfl h54 <| g_no rfl rfl rfl rfl rfl h54 <| g_no rfl rfl rfl rfl rfl h54 <| g_no rfl rfl rfl rfl rfl h54 <| g_v rfl (r_pick0 rfl h54) <| g_v rfl r_move <| g_no rfl rfl rfl rfl rfl rfl ?_
       refine g_no rfl rfl rfl rfl rfl rfl <| g_no rfl rfl rfl rfl rfl rfl <| g_no rfl rfl rfl rfl rfl rfl <| g_v rfl (r_pick0 rfl rfl) <| g_v rfl r_move <| g_no rfl rfl rfl rfl rfl rfl <| g_no rfl rfl rfl rfl rfl rfl <| g_no rfl rfl rfl rfl rfl rfl <| g_no rfl rfl rfl rfl rfl rfl <| g_v rfl (r_pick0 rfl rfl) ?_
       refine g_v rfl r_move <| g_no rfl rfl rfl rfl rfl rfl <| g_no rfl rfl rfl rfl rfl rfl <| g_no rfl rfl rfl rfl rfl rfl <| g_no rfl rfl rfl rfl rfl rfl <| g_v rfl (r_pick0 rfl rfl) <| g_v rfl r_assign <| g_nil <| d_normal_block ?_
       exact d_round false hm Nat.zero_lt_one ⟨rfl, trivial⟩ (fun W h => (h.dropH (t := 100010) rfl).phi (fun W hφ => hφ))
     ·
      replace hm := ite_f hm (of_decide_eq_false h53)
      refine c_seq <| c_region <| g_v rfl (r_eql rfl rfl) <| g_v rfl r_assign <| g_nil <| d_then ?_
      refine c_cond rfl (fun h63 => ?_) (fun h63 => ?_)
      ·
       replace hm := ite_t hm (of_decide_eq_true h63)
       refine c_region <| g_v rfl r_move <| g_v rfl r_move ?_
       refine g_if rfl rfl rfl rfl rfl (fun h64 => ?_) (fun h64 => ?_)
       ·
        replace hm := ite_t hm h64
        refine g_v rfl (r_field (n := 2) Try.underlying35 rfl Try.sizeOf9 rfl rfl) <| g_do rfl rfl rfl rfl rfl h64 <| g_v rfl (r_load (tag := 100010) rfl rfl rfl Try.isAgg9) <| g_do rfl rfl rfl rfl rfl h64 ?_
        replace hm := bnd hm
        obtain ⟨x65, hx66, hm⟩ := hm
        refine g_cn ⟨w0, M, _, _, φ⟩ (fun _ h => h) Try.call56 rfl rfl (c_conf_named p0_fName _ hx66) (fun _ _ => ?_)
        refine g_v rfl (r_pick1 rfl h64) <| g_v rfl r_move ?_
        refine g_if rfl rfl rfl rfl rfl (fun h67 => ?_) (fun h67 => ?_)
        ·
         replace hm := ite_t hm h67
         refine g_v rfl (r_field (n := 3) Try.underlying35 rfl Try.sizeOf9 rfl rfl) <| g_do rfl rfl rfl rfl rfl h67 <| g_v rfl (r_load (tag := 100010) rfl rfl rfl Try.isAgg9) <| g_do rfl rfl rfl rfl rfl h67 <| g_v rfl (r_len Try.underlying9 rfl) <| g_do rfl rfl rfl rfl rfl h67 <| g_v rfl (r_leq rfl rfl) <| g_v rfl (r_pick1 rfl h67) <| g_v rfl r_move ?_
         refine g_if rfl rfl rfl rfl rfl (fun h68 => ?_) (fun h68 => ?_)
         ·
          replace hm := ite_t hm (of_decide_eq_true h68)
          refine g_v rfl (r_field (n := 4) Try.underlying35 rfl Try.sizeOf9 rfl rfl) <| g_do rfl rfl rfl rfl rfl h68 <| g_v rfl (r_load (tag := 100010) rfl rfl rfl Try.isAgg9) <| g_do rfl rfl rfl rfl rfl h68 ?_
          refine g_e rfl (e_lit (tag := 100880) (l := [p0_fZone]) (enc := (fun x : ByteArray => [Value.string x])) (sz := 1) rfl Try.underlying22 (lit9_6 _) rfl rfl (fun _ => rfl)) (fun g69 _ => ?_)
          refine g_do rfl rfl rfl rfl rfl h68 ?_
          replace hm := bnd hm
          obtain ⟨x70, hx71, hm⟩ := hm
          refine g_cn ⟨w0, M, _, _, φ⟩ (fun _ h => h) Try.call52 rfl rfl (c_conf_none [p0_fZone] (some ⟨g69, 0, none⟩) 1 (Nat.le_refl _) (fun W hS => rowCl (tag := 100880) rfl W hS) _ hx71) (fun _ _ => ?_)
          refine g_v rfl (r_pick1 rfl h68) <| g_v rfl r_assign <| g_nil <| d_normal_block ?_
          exact d_round x70 hm Nat.zero_lt_one ⟨rfl, trivial⟩ (fun W h => ((h.dropR (t := 100880) rfl).dropH (t := 100010) rfl).phi (fun W hφ => hφ))
         ·
          replace hm := ite_f hm (of_decide_eq_false h68)
          refine g_no rfl rfl rfl rfl rfl h68 <| g_no rfl rfl rfl rfl rfl h68 <| g_no rfl rfl rfl rfl rfl h68 <| g_v rfl (r_pick0 rfl h68) <| g_v rfl r_assign <| g_nil <| d_normal_block ?_
          exact d_round false hm Nat.zero_lt_one ⟨rfl, trivial⟩ (fun W h => (h.dropH (t := 100010) rfl).phi (fun W hφ => hφ))
        ·
         replace hm := ite_f hm (bool_nt h67)
         refine g_no rfl rfl rfl rfl rfl h67 <| g_no rfl rfl rfl rfl rfl h67 <| g_no rfl rfl rfl rfl rfl h67 <| g_v rfl (r_pick0 rfl h67) <| g_v rfl r_move <| g_no rfl rfl rfl rfl rfl rfl <| g_no rfl rfl rfl rfl rfl rfl <| g_no rfl rfl rfl rfl rfl rfl <| g_no rfl rfl rfl rfl rfl rfl <| g_v rfl (r_pick0 rfl rfl) ?_
         refine g_v rfl r_assign <| g_nil <| d_normal_block ?_
         exact d_round false hm Nat.zero_lt_one ⟨rfl, trivial⟩ (fun W h => (h.dropH (t := 100010) rfl).phi (fun W hφ => hφ))
       ·
        replace hm := ite_f hm (bool_nt h64)
        refine g_no rfl rfl rfl rfl rfl h64 <| g_no rfl rfl rfl rfl rfl h64 <| g_v rfl (r_pick0 rfl h64) <| g_v rfl r_move <| g_no rfl rfl rfl rfl rfl rfl <| g_no rfl rfl rfl rfl rfl rfl <| g_no rfl rfl rfl rfl rfl rfl <| g_no rfl rfl rfl rfl rfl rfl <| g_v rfl (r_pick0 rfl rfl) <| g_v rfl r_move ?_
        refine g_no rfl rfl rfl rfl rfl rfl <| g_no rfl rfl rfl rfl rfl rfl <| g_no rfl rfl rfl rfl rfl rfl <| g_no rfl rfl rfl rfl rfl rfl <| g_v rfl (r_pick0 rfl rfl) <| g_v rfl r_assign <| g_nil <| d_normal_block ?_
        exact d_round false hm Nat.zero_lt_one ⟨rfl, trivial⟩ (fun W h => (h.dropH (t := 100010) rfl).phi (fun W hφ => hφ))
      ·
       replace hm := ite_f hm (of_decide_eq_false h63)
       refine c_seq <| c_region <| g_v rfl (r_eql rfl rfl) <| g_v rfl r_assign <| g_nil <| d_then ?_
       refine c_cond rfl (fun h72 => ?_) (fun h72 => ?_)
       ·
        replace hm := ite_t hm (of_decide_eq_true h72)
        refine c_region <| g_v rfl r_move <| g_v rfl r_move ?_
        refine g_if rfl rfl rfl rfl rfl (fun h73 => ?_) (fun h73 => ?_)
        ·
         replace hm := ite_t hm h73
         refine g_v rfl (r_field (n := 4) Try.underlying35 rfl Try.sizeOf9 rfl rfl) <| g_do rfl rfl rfl rfl rfl h73 <| g_v rfl (r_load (tag := 100010) rfl rfl rfl Try.isAgg9) <| g_do rfl rfl rfl rfl rfl h73 ?_
         replace hm := bnd hm
         obtain ⟨x74, hx75, hm⟩ := hm
         refine g_cn ⟨w0, M, _, _, φ⟩ (fun _ h => h) Try.call56 rfl rfl (c_conf_named p0_fZone _ hx75) (fun _ _ => ?_)
         refine g_v rfl (r_pick1 rfl h73) <| g_v rfl r_move ?_
         refine g_if rfl rfl rfl rfl rfl (fun h76 => ?_) (fun h76 => ?_)
         ·
          replace hm := ite_t hm h76
          refine g_v rfl (r_field (n := 2) Try.underlying35 rfl Try.sizeOf9 rfl rfl) <| g_do rfl rfl rfl rfl rfl h76 <| g_v rfl (r_load (tag := 100010) rfl rfl rfl Try.isAgg9) <| g_do rfl rfl rfl rfl rfl h76 <| g_v rfl (r_field (n := 3) Try.underlying35 rfl Try.sizeOf9 rfl rfl) <| g_do rfl rfl rfl rfl rfl h76 <| g_v rfl (r_load (tag := 100010) rfl rfl rfl Try.isAgg9) <| g_do rfl rfl rfl rfl rfl h76 ?_
          refine g_e rfl (e_lit (tag := 101040) (l := [p0_fName, p0_fText]) (enc := (fun x : ByteArray => [Value.string x])) (sz := 1) rfl Try.underlying22 (lit9_8 _ _) rfl rfl (fun _ => rfl)) (fun g77 _ => ?_)
          refine g_do rfl rfl rfl rfl rfl h76 ?_
          replace hm := bnd hm
          obtain ⟨x78, hx79, hm⟩ := hm
          refine g_cn ⟨w0, M, _, _, φ⟩ (fun _ h => h) Try.call52 rfl rfl (c_conf_none [p0_fName, p0_fText] (some ⟨g77, 0, none⟩) 2 (Nat.le_refl _) (fun W hS => rowCl (tag := 101040) rfl W hS) _ hx79) (fun _ _ => ?_)
          refine g_v rfl (r_pick1 rfl h76) <| g_v rfl r_assign <| g_nil <| d_normal_block ?_
          exact d_round x78 hm Nat.zero_lt_one ⟨rfl, trivial⟩ (fun W h => ((h.dropR (t := 101040) rfl).dropH (t := 100010) rfl).phi (fun W hφ => hφ))
         ·
          replace hm := ite_f hm (bool_nt h76)
          refine g_no rfl rfl rfl rfl rfl h76 <| g_no rfl rfl rfl rfl rfl h76 <| g_no rfl rfl rfl rfl rfl h76 <| g_no rfl rfl rfl rfl rfl h76 <| g_no rfl rfl rfl rfl rfl h76 <| g_v rfl (r_pick0 rfl h76) <| g_v rfl r_assign <| g_nil <| d_normal_block ?_
          exact d_round false hm Nat.zero_lt_one ⟨rfl, trivial⟩ (fun W h => (h.dropH (t := 100010) rfl).phi (fun W hφ => hφ))
        ·
         replace hm := ite_f hm (bool_nt h73)
         refine g_no rfl rfl rfl rfl rfl h73 <| g_no rfl rfl rfl rfl rfl h73 <| g_v rfl (r_pick0 rfl h73) <| g_v rfl r_move <| g_no rfl rfl rfl rfl rfl rfl <| g_no rfl rfl rfl rfl rfl rfl <| g_no rfl rfl rfl rfl rfl rfl <| g_no rfl rfl rfl rfl rfl rfl <| g_no rfl rfl rfl rfl rfl rfl <| g_no rfl rfl rfl rfl rfl rfl ?_
         refine g_v rfl (r_pick0 rfl rfl) <| g_v rfl r_assign <| g_nil <| d_normal_block ?_
         exact d_round false hm Nat.zero_lt_one ⟨rfl, trivial⟩ (fun W h => (h.dropH (t := 100010) rfl).phi (fun W hφ => hφ))
       ·
        replace hm := ite_f hm (of_decide_eq_false h72)
        refine c_skip <| d_normal_block ?_
        exact d_round false hm Nat.zero_lt_one ⟨rfl, trivial⟩ (fun W h => (h.dropH (t := 100010) rfl).phi (fun W hφ => hφ))
  ·
   unfold m_conf_Check_3_j2 at hm
   refine d_flat [(3, .bool b41)] ⟨rfl, trivial⟩ (fun u => ?_)
   refine d_sta ⟨w0, M, H, R, φ⟩ (fun _ h => h) <| d_then <| c_seq <| c_seq <| c_region <| g_v rfl r_move <| g_v rfl (r_not rfl) <| g_nil <| d_then ?_
   refine c_cond rfl (fun h42 => ?_) (fun h42 => ?_)
   ·
    have h42' : b41 = false := by revert h42; cases b41 <;> simp
    replace hm := ite_f hm (bool_nt h42')
    refine c_seq <| c_region <| g_v rfl r_assign <| g_nil <| d_then <| c_ret <| d_ret_then ?_
    replace hm := Option.some.inj hm
    subst hm
    refine d_retC () Try.results20 ?_ trivial (fun W h => ok_pre (H1 := []) (R1 := []) h (fun W hφ => hφ)) (.inr rfl)
    refine res_tmp <| res_nil ?_
    exact rfl
   ·
    have h42' : b41 = true := by revert h42; cases b41 <;> simp
    replace hm := ite_t hm h42'
    refine c_skip <| d_then <| c_seq <| c_region <| g_v rfl r_assign <| g_nil <| d_then <| c_ret ?_
    replace hm := Option.some.inj hm
    subst hm
    refine d_retC () Try.results20 ?_ trivial (fun W h => ok_pre (H1 := []) (R1 := []) h (fun W hφ => hφ)) (.inr rfl)
    refine res_tmp <| res_nil ?_
    exact rfl
noncomputable def m_conf_Bytes_3_j2 (p0_fName : ByteArray) (p0_fText : ByteArray) (p0_fZone : ByteArray) (x5 : Gpack_Packer) (l67 : List Int) : Option (ByteArray × Int) :=
  (sadd p0_fName p0_fText).bind fun s70 =>
  (sadd s70 p0_fZone).bind fun s71 =>
  (m_pack_Packer_Raw s71 (⟨l67, x5.fplaces⟩ : Gpack_Packer)).bind fun x72 =>
  (m_pack_Packer_Bytes (⟨x72.fb, x5.fplaces⟩ : Gpack_Packer)).bind fun x77 =>
  some (x77, 0)
noncomputable def m_conf_Bytes_3_s3 (p0_fHints : List ByteArray) (x5 : Gpack_Packer) (l93 : List Int) (i96 : Int) : Option (((List Int) × Int) ⊕ (List Int)) :=
  if i96 < (p0_fHints.length : Int) then
    (at_ p0_fHints i96).bind fun x113 =>
    (m_pack_Packer_Raw x113 (⟨l93, x5.fplaces⟩ : Gpack_Packer)).bind fun x117 =>
    some (.inl (x117.fb, w64 (i96 + 1)))
  else
    some (.inr l93)
noncomputable def m_conf_Bytes_3_j1 (p0_fHints : List ByteArray) (x5 : Gpack_Packer) (p0_fName : ByteArray) (p0_fText : ByteArray) (p0_fZone : ByteArray) (l31 : List Int) : Option (ByteArray × Int) :=
  (loop (fun s => m_conf_Bytes_3_s3 p0_fHints x5 s.1 s.2) (l31, 0)).bind fun e => m_conf_Bytes_3_j2 p0_fName p0_fText p0_fZone x5 e
noncomputable def m_conf_Bytes_3 (p0_fKind : Int) (p0_fNode : Int) (p0_fName : ByteArray) (p0_fText : ByteArray) (p0_fZone : ByteArray) (p0_fHints : List ByteArray) : Option (ByteArray × Int) :=
  (m_conf_Check_3 p0_fKind p0_fNode p0_fName p0_fText p0_fZone p0_fHints).bind fun x2 =>
  if x2 ≠ 0 then
    some ((⟨#[]⟩ : ByteArray), x2)
  else
    (m_pack_New).bind fun x5 =>
    (m_pack_Packer_Byte (IntKind.u8.wrap p0_fKind) x5).bind fun x14 =>
    if p0_fKind = 1 then
      (m_pack_Packer_Byte (IntKind.u8.wrap p0_fNode) (⟨x14.fb, x5.fplaces⟩ : Gpack_Packer)).bind fun x130 =>
      m_conf_Bytes_3_j1 p0_fHints x5 p0_fName p0_fText p0_fZone x130.fb
    else
      if p0_fKind = 2 then
        (m_pack_Packer_Byte (IntKind.u8.wrap p0_fNode) (⟨x14.fb, x5.fplaces⟩ : Gpack_Packer)).bind fun x125 =>
        m_conf_Bytes_3_j1 p0_fHints x5 p0_fName p0_fText p0_fZone x125.fb
      else
        m_conf_Bytes_3_j1 p0_fHints x5 p0_fName p0_fText p0_fZone x14.fb
theorem c_conf_Bytes_3 {w0 : World} {M : Nat → Prop} {H : List (Nat × Nat × Obj)} {R : List (Nat × Row)} {φ : World → Prop} (p0_fKind : Int) (p0_fNode : Int) (p0_fName : ByteArray) (p0_fText : ByteArray) (p0_fZone : ByteArray) (p0_fHints : List ByteArray) (Ap0_fHints_0 : Option Addr) (cp0_fHints_0 : Nat) (hcp0_fHints_0 : p0_fHints.length ≤ cp0_fHints_0) (fp0_fHints_0 : ∀ W, (Sta.mk w0 M H R φ).ok W → Cl W Ap0_fHints_0 (p0_fHints.flatMap (fun x : ByteArray => [Value.string x]))) (r : ByteArray × Int) (hm : m_conf_Bytes_3 p0_fKind p0_fNode p0_fName p0_fText p0_fZone p0_fHints = some r) :
    Cn Try.prog 15 #[.agg #[.int .i64 p0_fKind, .int .i64 p0_fNode, .string p0_fName, .string p0_fText, .string p0_fZone, .slice Ap0_fHints_0 p0_fHints.length cp0_fHints_0]] ⟨w0, M, H, R, φ⟩ (fun x : Unit => .tuple #[.string r.1, .int .i64 r.2]) (fun x => True) (fun x => ⟨w0, M, H, R, φ⟩) := by
 unfold m_conf_Bytes_3 at hm
 refine cn_intro (fn := Try.f15) (N := 55) Try.func15 rfl Try.ntmps15 rfl <| c_seq <| c_region ?_
 refine g_e rfl (e_box 100010 rfl) (fun g1 _ => ?_)
 refine g_v rfl r_assign <| g_v rfl r_assign <| g_nil <| d_then <| c_seq <| c_region <| g_v rfl (r_loadA (tag := 100010) rfl rfl Try.isAgg35 Try.sizeOf35 rfl rfl) ?_
 replace hm := bnd hm
 obtain ⟨x2, hx3, hm⟩ := hm
 refine g_cn ⟨w0, M, _, _, φ⟩ (fun _ h => h) Try.call20 rfl rfl (c_conf_Check_3 p0_fKind p0_fNode p0_fName p0_fText p0_fZone p0_fHints Ap0_fHints_0 cp0_fHints_0 hcp0_fHints_0 (fun W hS => fp0_fHints_0 W (ok_pre (H1 := [_]) (R1 := []) hS (fun W h => h))) _ hx3) (fun _ _ => ?_)
 refine g_v rfl r_assign <| g_nil <| d_then <| c_seq <| c_seq <| c_region <| g_v rfl r_move <| g_v rfl (r_neq rfl rfl) <| g_nil <| d_then ?_
 refine c_cond rfl (fun h4 => ?_) (fun h4 => ?_)
 ·
  replace hm := ite_t hm (of_decide_eq_true h4)
  refine c_seq <| c_region <| g_v rfl r_move <| g_v rfl r_assign <| g_v rfl r_assign <| g_nil <| d_then ?_
  refine c_flat [(2, .string (⟨#[]⟩ : ByteArray)), (3, .int .i64 x2)] ⟨rfl, rfl, trivial⟩ (fun u => ?_)
  refine c_sta ⟨w0, M, (100010, g1, .cells #[.int .i64 p0_fKind, .int .i64 p0_fNode, .string p0_fName, .string p0_fText, .string p0_fZone, .slice Ap0_fHints_0 p0_fHints.length cp0_fHints_0] 35 (0, 0)) :: H, R, φ⟩ (fun _ h => h) <| c_ret <| d_ret_then ?_
  replace hm := Option.some.inj hm
  subst hm
  refine d_retC () Try.results15 ?_ trivial (fun W h => ok_pre (H1 := [_]) (R1 := []) h (fun W hφ => hφ)) (.inr rfl)
  refine res_tmp <| res_tmp <| res_nil ?_
  exact rfl
 ·
  replace hm := ite_f hm (of_decide_eq_false h4)
  refine c_skip <| d_then <| c_seq <| c_region ?_
  replace hm := bnd hm
  obtain ⟨x5, hx6, hm⟩ := hm
  refine g_cn ⟨w0, M, _, _, φ⟩ (fun _ h => h) Try.call42 rfl rfl (c_pack_New  _ hx6) (fun ⟨A7, c8, A10, c11, g13⟩ ⟨hc8, hc11⟩ => ?_)
  refine g_sta _ (fun W h => (ok_frontR (t := 2000) (t' := 100130) (ok_frontR (t := 2001) (t' := 100131) (ok_front (t := 3000) (t' := 100135) h rfl) rfl) rfl)) <| g_v rfl r_assign <| g_nil <| d_then ?_
  refine c_flat [(1, .pointer (some ⟨g1, 0, none⟩)), (5, .pointer (some ⟨g13, 0, none⟩))] ⟨rfl, rfl, trivial⟩ (fun u => ?_)
  refine c_sta ⟨w0, M, (100135, g13, .cells #[.slice A7 x5.fb.length c8, mapV A10] 102 (0, 0)) :: (100010, g1, .cells #[.int .i64 p0_fKind, .int .i64 p0_fNode, .string p0_fName, .string p0_fText, .string p0_fZone, .slice Ap0_fHints_0 p0_fHints.length cp0_fHints_0] 35 (0, 0)) :: H, (100130, ⟨.slice A7 x5.fb.length c8, 5, 1, x5.fb.length, x5.fb.flatMap (fun x : Int => [Value.int .u8 x])⟩) :: (100131, ⟨mapV A10, 100, 2, x5.fplaces.length, x5.fplaces.flatMap (mcell (fun x : ByteArray => Value.string x) (fun x : Int => Value.int .i64 x))⟩) :: R, φ⟩ (fun _ h => h) <| c_seq <| c_region <| g_v rfl r_move <| g_v rfl (r_field (n := 0) Try.underlying35 rfl Try.sizeOf3 rfl rfl) <| g_v rfl (r_load (tag := 100010) rfl rfl rfl Try.isAgg3) <| g_v rfl (r_conv Try.underlying3 Try.underlying5 rfl rfl) ?_
  replace hm := bnd hm
  obtain ⟨x14, hx15, hm⟩ := hm
  refine g_cn ⟨w0, M, (1000, g13, .cells #[.slice A7 x5.fb.length c8, mapV A10] 102 (0, 0)) :: (100010, g1, .cells #[.int .i64 p0_fKind, .int .i64 p0_fNode, .string p0_fName, .string p0_fText, .string p0_fZone, .slice Ap0_fHints_0 p0_fHints.length cp0_fHints_0] 35 (0, 0)) :: H, (1000, ⟨.slice A7 x5.fb.length c8, 5, 1, x5.fb.length, x5.fb.flatMap (fun x : Int => [Value.int .u8 x])⟩) :: (1001, ⟨mapV A10, 100, 2, x5.fplaces.length, x5.fplaces.flatMap (mcell (fun x : ByteArray => Value.string x) (fun x : Int => Value.int .i64 x))⟩) :: R, φ⟩ (fun W h => (ok_front (t := 100135) (t' := 1000) (ok_frontR (t := 100130) (t' := 1000) (ok_frontR (t := 100131) (t' := 1001) h rfl) rfl) rfl)) Try.call43 rfl rfl (c_pack_Packer_Byte (IntKind.u8.wrap p0_fKind) g13 x5 A7 c8 hc8 A10 c11 trivial _ hx15) (fun ⟨A16, c17⟩ hc17 => ?_)
  refine g_sta _ (fun W h => (ok_frontR (t := 2000) (t' := 100130) (ok_frontR (t := 1001) (t' := 100131) (ok_front (t := 1000) (t' := 100135) h rfl) rfl) rfl)) <| g_nil <| d_then <| c_seq ?_
  refine c_cut (ι := (List Int) × Option Addr × Nat) [1, 5] (fun ⟨l31, A32, c33⟩ => []) (fun ⟨l31, A32, c33⟩ => ⟨w0, M, (100135, g13, .cells #[.slice A32 l31.length c33, mapV A10] 102 (0, 0)) :: (100010, g1, .cells #[.int .i64 p0_fKind, .int .i64 p0_fNode, .string p0_fName, .string p0_fText, .string p0_fZone, .slice Ap0_fHints_0 p0_fHints.length cp0_fHints_0] 35 (0, 0)) :: H, (100130, ⟨.slice A32 l31.length c33, 5, 1, l31.length, l31.flatMap (fun x : Int => [Value.int .u8 x])⟩) :: (100131, ⟨mapV A10, 100, 2, x5.fplaces.length, x5.fplaces.flatMap (mcell (fun x : ByteArray => Value.string x) (fun x : Int => Value.int .i64 x))⟩) :: R, φ⟩) (fun ⟨l31, A32, c33⟩ => m_conf_Bytes_3_j1 p0_fHints x5 p0_fName p0_fText p0_fZone l31 = some r ∧ l31.length ≤ c33) ?_ (fun ⟨l31, A32, c33⟩ u ⟨hm, hc33⟩ => ?_)
  ·
   refine c_seq <| c_region <| g_v rfl (r_field (n := 0) Try.underlying35 rfl Try.sizeOf3 rfl rfl) <| g_v rfl (r_load (tag := 100010) rfl rfl rfl Try.isAgg3) <| g_v rfl (r_eql rfl rfl) <| g_v rfl r_move ?_
   refine g_if rfl rfl rfl rfl rfl (fun h123 => ?_) (fun h123 => ?_)
   ·
    replace hm := ite_f hm (of_decide_eq_false h123)
    refine g_v rfl (r_field (n := 0) Try.underlying35 rfl Try.sizeOf3 rfl rfl) <| g_do rfl rfl rfl rfl rfl h123 <| g_v rfl (r_load (tag := 100010) rfl rfl rfl Try.isAgg3) <| g_do rfl rfl rfl rfl rfl h123 <| g_v rfl (r_eql rfl rfl) <| g_v rfl (r_pick0 rfl h123) <| g_nil <| d_then ?_
    refine c_flat [(1, .pointer (some ⟨g1, 0, none⟩)), (5, .pointer (some ⟨g13, 0, none⟩)), (26, .bool (decide (p0_fKind = 2)))] ⟨rfl, rfl, rfl, trivial⟩ (fun u => ?_)
    refine c_sta ⟨w0, M, (100135, g13, .cells #[.slice A16 x14.fb.length c17, mapV A10] 102 (0, 0)) :: (100010, g1, .cells #[.int .i64 p0_fKind, .int .i64 p0_fNode, .string p0_fName, .string p0_fText, .string p0_fZone, .slice Ap0_fHints_0 p0_fHints.length cp0_fHints_0] 35 (0, 0)) :: H, (100130, ⟨.slice A16 x14.fb.length c17, 5, 1, x14.fb.length, x14.fb.flatMap (fun x : Int => [Value.int .u8 x])⟩) :: (100131, ⟨mapV A10, 100, 2, x5.fplaces.length, x5.fplaces.flatMap (mcell (fun x : ByteArray => Value.string x) (fun x : Int => Value.int .i64 x))⟩) :: R, φ⟩ (fun _ h => h) ?_
    refine c_cond rfl (fun h124 => ?_) (fun h124 => ?_)
    ·
     replace hm := ite_t hm (of_decide_eq_true h124)
     refine c_region <| g_v rfl r_move <| g_v rfl (r_field (n := 1) Try.underlying35 rfl Try.sizeOf3 rfl rfl) <| g_v rfl (r_load (tag := 100010) rfl rfl rfl Try.isAgg3) <| g_v rfl (r_conv Try.underlying3 Try.underlying5 rfl rfl) ?_
     replace hm := bnd hm
     obtain ⟨x125, hx126, hm⟩ := hm
     refine g_cn ⟨w0, M, (1000, g13, .cells #[.slice A16 x14.fb.length c17, mapV A10] 102 (0, 0)) :: (100010, g1, .cells #[.int .i64 p0_fKind, .int .i64 p0_fNode, .string p0_fName, .string p0_fText, .string p0_fZone, .slice Ap0_fHints_0 p0_fHints.length cp0_fHints_0] 35 (0, 0)) :: H, (1000, ⟨.slice A16 x14.fb.length c17, 5, 1, x14.fb.length, x14.fb.flatMap (fun x : Int => [Value.int .u8 x])⟩) :: (1001, ⟨mapV A10, 100, 2, x5.fplaces.length, x5.fplaces.flatMap (mcell (fun x : ByteArray => Value.string x) (fun x : Int => Value.int .i64 x))⟩) :: R, φ⟩ (fun W h => (ok_front (t := 100135) (t' := 1000) (ok_frontR (t := 100130) (t' := 1000) (ok_frontR (t := 100131) (t' := 1001) h rfl) rfl) rfl)) Try.call43 rfl rfl (c_pack_Packer_Byte (IntKind.u8.wrap p0_fNode) g13 (⟨x14.fb, x5.fplaces⟩ : Gpack_Packer) A16 c17 hc17 A10 c11 trivial _ hx126) (fun ⟨A127, c128⟩ hc128 => ?_)
     refine g_sta _ (fun W h => (ok_frontR (t := 2000) (t' := 100130) (ok_frontR (t := 1001) (t' := 100131) (ok_front (t := 1000) (t' := 100135) h rfl) rfl) rfl)) <| g_nil ?_
     exact d_round (x125.fb, A127, c128) ⟨hm, hc128⟩ Nat.zero_lt_one ⟨rfl, rfl, trivial⟩ (fun W h => h.phi (fun W hφ => hφ))
    ·
     replace hm := ite_f hm (of_decide_eq_false h124)
     refine c_skip ?_
     exact d_round (x14.fb, A16, c17) ⟨hm, hc17⟩ Nat.zero_lt_one ⟨rfl, rfl, trivial⟩ (fun W h => h.phi (fun W hφ => hφ))
   ·
    replace hm := ite_t hm (of_decide_eq_true h123)
    refine g_no rfl rfl rfl rfl rfl h123 <| g_no rfl rfl rfl rfl rfl h123 <| g_v rfl (r_pick1 rfl h123) <| g_nil <| d_then ?_
    refine c_flat [(1, .pointer (some ⟨g1, 0, none⟩)), (5, .pointer (some ⟨g13, 0, none⟩)), (26, .bool true)] ⟨rfl, rfl, rfl, trivial⟩ (fun u => ?_)
    refine c_sta ⟨w0, M, (100135, g13, .cells #[.slice A16 x14.fb.length c17, mapV A10] 102 (0, 0)) :: (100010, g1, .cells #[.int .i64 p0_fKind, .int .i64 p0_fNode, .string p0_fName, .string p0_fText, .string p0_fZone, .slice Ap0_fHints_0 p0_fHints.length cp0_fHints_0] 35 (0, 0)) :: H, (100130, ⟨.slice A16 x14.fb.length c17, 5, 1, x14.fb.length, x14.fb.flatMap (fun x : Int => [Value.int .u8 x])⟩) :: (100131, ⟨mapV A10, 100, 2, x5.fplaces.length, x5.fplaces.flatMap (mcell (fun x : ByteArray => Value.string x) (fun x : Int => Value.int .i64 x))⟩) :: R, φ⟩ (fun _ h => h) <| c_cond1 rfl rfl <| c_region <| g_v rfl r_move <| g_v rfl (r_field (n := 1) Try.underlying35 rfl Try.sizeOf3 rfl rfl) <| g_v rfl (r_load (tag := 100010) rfl rfl rfl Try.isAgg3) <| g_v rfl (r_conv Try.underlying3 Try.underlying5 rfl rfl) ?_
    replace hm := bnd hm
    obtain ⟨x130, hx131, hm⟩ := hm
    refine g_cn ⟨w0, M, (1000, g13, .cells #[.slice A16 x14.fb.length c17, mapV A10] 102 (0, 0)) :: (100010, g1, .cells #[.int .i64 p0_fKind, .int .i64 p0_fNode, .string p0_fName, .string p0_fText, .string p0_fZone, .slice Ap0_fHints_0 p0_fHints.length cp0_fHints_0] 35 (0, 0)) :: H, (1000, ⟨.slice A16 x14.fb.length c17, 5, 1, x14.fb.length, x14.fb.flatMap (fun x : Int => [Value.int .u8 x])⟩) :: (1001, ⟨mapV A10, 100, 2, x5.fplaces.length, x5.fplaces.flatMap (mcell (fun x : ByteArray => Value.string x) (fun x : Int => Value.int .i64 x))⟩) :: R, φ⟩ (fun W h => (ok_front (t := 100135) (t' := 1000) (ok_frontR (t := 100130) (t' := 1000) (ok_frontR (t := 100131) (t' := 1001) h rfl) rfl) rfl)) Try.call43 rfl rfl (c_pack_Packer_Byte (IntKind.u8.wrap p0_fNode) g13 (⟨x14.fb, x5.fplaces⟩ : Gpack_Packer) A16 c17 hc17 A10 c11 trivial _ hx131) (fun ⟨A132, c133⟩ hc133 => ?_)
    refine g_sta _ (fun W h => (ok_frontR (t := 2000) (t' := 100130) (ok_frontR (t := 1001) (t' := 100131) (ok_front (t := 1000) (t' := 100135) h rfl) rfl) rfl)) <| g_nil ?_
    exact d_round (x130.fb, A132, c133) ⟨hm, hc133⟩ Nat.zero_lt_one ⟨rfl, rfl, trivial⟩ (fun W h => h.phi (fun W hφ => hφ))
  ·
   unfold m_conf_Bytes_3_j1 at hm
   refine d_flat [(1, .pointer (some ⟨g1, 0, none⟩)), (5, .pointer (some ⟨g13, 0, none⟩))] ⟨rfl, rfl, trivial⟩ (fun u => ?_)
   refine d_sta ⟨w0, M, (100135, g13, .cells #[.slice A32 l31.length c33, mapV A10] 102 (0, 0)) :: (100010, g1, .cells #[.int .i64 p0_fKind, .int .i64 p0_fNode, .string p0_fName, .string p0_fText, .string p0_fZone, .slice Ap0_fHints_0 p0_fHints.length cp0_fHints_0] 35 (0, 0)) :: H, (100130, ⟨.slice A32 l31.length c33, 5, 1, l31.length, l31.flatMap (fun x : Int => [Value.int .u8 x])⟩) :: (100131, ⟨mapV A10, 100, 2, x5.fplaces.length, x5.fplaces.flatMap (mcell (fun x : ByteArray => Value.string x) (fun x : Int => Value.int .i64 x))⟩) :: R, φ⟩ (fun _ h => h) <| d_then <| c_seq <| c_seq <| c_region <| g_v rfl (r_field (n := 5) Try.underlying35 rfl Try.sizeOf22 rfl rfl) <| g_v rfl (r_load (tag := 100010) rfl rfl rfl Try.isAgg22) <| g_v rfl (r_lenL Try.underlying22 rfl) <| g_v rfl r_move <| g_nil ?_
   refine d_then ?_
   refine c_cut (ι := (List Int) × Option Addr × Nat) [1, 5] (fun ⟨l67, A68, c69⟩ => []) (fun ⟨l67, A68, c69⟩ => ⟨w0, M, (100135, g13, .cells #[.slice A68 l67.length c69, mapV A10] 102 (0, 0)) :: (100010, g1, .cells #[.int .i64 p0_fKind, .int .i64 p0_fNode, .string p0_fName, .string p0_fText, .string p0_fZone, .slice Ap0_fHints_0 p0_fHints.length cp0_fHints_0] 35 (0, 0)) :: H, (100130, ⟨.slice A68 l67.length c69, 5, 1, l67.length, l67.flatMap (fun x : Int => [Value.int .u8 x])⟩) :: (100131, ⟨mapV A10, 100, 2, x5.fplaces.length, x5.fplaces.flatMap (mcell (fun x : ByteArray => Value.string x) (fun x : Int => Value.int .i64 x))⟩) :: R, φ⟩) (fun ⟨l67, A68, c69⟩ => m_conf_Bytes_3_j2 p0_fName p0_fText p0_fZone x5 l67 = some r ∧ l67.length ≤ c69) ?_ (fun ⟨l67, A68, c69⟩ u ⟨hm, hc69⟩ => ?_)
   ·
    refine c_block ?_
    replace hm := bnd hm
    obtain ⟨out3, hl3, hr3⟩ := hm
    obtain ⟨n111', hl3⟩ := loop_lp hl3
    refine c_loopU (ι := Nat × (List Int) × Int × Option Addr × Nat) [1, 5, 33, 34, 35] (fun ⟨n111, l93, i96, A94, c95⟩ => [(35, .int .i64 i96)]) (fun ⟨n111, l93, i96, A94, c95⟩ => ⟨w0, M, (100135, g13, .cells #[.slice A94 l93.length c95, mapV A10] 102 (0, 0)) :: (100010, g1, .cells #[.int .i64 p0_fKind, .int .i64 p0_fNode, .string p0_fName, .string p0_fText, .string p0_fZone, .slice Ap0_fHints_0 p0_fHints.length cp0_fHints_0] 35 (0, 0)) :: H, (100130, ⟨.slice A94 l93.length c95, 5, 1, l93.length, l93.flatMap (fun x : Int => [Value.int .u8 x])⟩) :: (100131, ⟨mapV A10, 100, 2, x5.fplaces.length, x5.fplaces.flatMap (mcell (fun x : ByteArray => Value.string x) (fun x : Int => Value.int .i64 x))⟩) :: R, φ⟩) (fun ⟨n111, l93, i96, A94, c95⟩ => Lp (fun s => m_conf_Bytes_3_s3 p0_fHints x5 s.1 s.2) n111 (l93, i96) out3 ∧ l93.length ≤ c95) (fun ⟨n111, l93, i96, A94, c95⟩ => n111) (n111', l31, 0, A32, c33) ⟨hl3, hc33⟩ ⟨rfl, rfl, rfl, rfl, rfl, trivial⟩ (fun W h => h.phi (fun W hφ => hφ)) (fun ⟨n111, l93, i96, A94, c95⟩ u ⟨hlp, hc95⟩ => ?_)
    obtain ⟨o3, hm, hnx3⟩ := lp_step hlp
    clear hlp
    replace hm : m_conf_Bytes_3_s3 p0_fHints x5 l93 i96 = some o3 := hm
    unfold m_conf_Bytes_3_s3 at hm
    refine c_flat [(1, .pointer (some ⟨g1, 0, none⟩)), (5, .pointer (some ⟨g13, 0, none⟩)), (33, .slice Ap0_fHints_0 p0_fHints.length cp0_fHints_0), (34, .int .i64 (p0_fHints.length : Int)), (35, .int .i64 i96)] ⟨rfl, rfl, rfl, rfl, rfl, trivial⟩ (fun u => ?_)
    refine c_sta ⟨w0, M, (100135, g13, .cells #[.slice A94 l93.length c95, mapV A10] 102 (0, 0)) :: (100010, g1, .cells #[.int .i64 p0_fKind, .int .i64 p0_fNode, .string p0_fName, .string p0_fText, .string p0_fZone, .slice Ap0_fHints_0 p0_fHints.length cp0_fHints_0] 35 (0, 0)) :: H, (100130, ⟨.slice A94 l93.length c95, 5, 1, l93.length, l93.flatMap (fun x : Int => [Value.int .u8 x])⟩) :: (100131, ⟨mapV A10, 100, 2, x5.fplaces.length, x5.fplaces.flatMap (mcell (fun x : ByteArray => Value.string x) (fun x : Int => Value.int .i64 x))⟩) :: R, φ⟩ (fun _ h => h) <| c_seq <| c_region <| g_v rfl (r_lss rfl rfl) <| g_nil <| d_then <| c_seq ?_
    refine c_cond rfl (fun h112 => ?_) (fun h112 => ?_)
    ·
     replace hm := ite_t hm (of_decide_eq_true h112)
     refine c_skip <| d_then <| c_seq <| c_block <| c_seq <| c_region ?_
     replace hm := bnd hm
     obtain ⟨x113, hx113, hm⟩ := hm
     refine g_know _ (fun W hS => cl_at (p := (Sta.mk w0 M H R φ).ok) (sz := 1) (fun _ => rfl) (by decide) (ok_pre (H1 := [_, _]) (R1 := [_, _]) hS (fun W h => h)) fp0_fHints_0 hx113) ?_
     rintro ⟨ad114, hA116, f115⟩
     refine g_v rfl (r_ix Try.underlying22 Try.sizeOf9 rfl hA116 rfl hx113) <| g_v rfl (r_ld rfl Try.isAgg9 (fun W hS => Cl.head (f115 W (ok_pre (H1 := [_, _]) (R1 := [_, _]) hS (fun W h => h))))) <| g_v rfl r_assign <| g_nil <| d_then <| c_region <| g_v rfl r_move <| g_v rfl r_move ?_
     replace hm := bnd hm
     obtain ⟨x117, hx118, hm⟩ := hm
     refine g_cn ⟨w0, M, (1000, g13, .cells #[.slice A94 l93.length c95, mapV A10] 102 (0, 0)) :: (100010, g1, .cells #[.int .i64 p0_fKind, .int .i64 p0_fNode, .string p0_fName, .string p0_fText, .string p0_fZone, .slice Ap0_fHints_0 p0_fHints.length cp0_fHints_0] 35 (0, 0)) :: H, (1000, ⟨.slice A94 l93.length c95, 5, 1, l93.length, l93.flatMap (fun x : Int => [Value.int .u8 x])⟩) :: (1001, ⟨mapV A10, 100, 2, x5.fplaces.length, x5.fplaces.flatMap (mcell (fun x : ByteArray => Value.string x) (fun x : Int => Value.int .i64 x))⟩) :: R, φ⟩ (fun W h => (ok_front (t := 100135) (t' := 1000) (ok_frontR (t := 100130) (t' := 1000) (ok_frontR (t := 100131) (t' := 1001) h rfl) rfl) rfl)) Try.call44 rfl rfl (c_pack_Packer_Raw x113 g13 (⟨l93, x5.fplaces⟩ : Gpack_Packer) A94 c95 hc95 A10 c11 trivial _ hx118) (fun ⟨A119, c120⟩ hc120 => ?_)
     refine g_sta _ (fun W h => (ok_frontR (t := 2000) (t' := 100130) (ok_frontR (t := 1001) (t' := 100131) (ok_front (t := 1000) (t' := 100135) h rfl) rfl) rfl)) <| g_nil <| d_normal_block <| d_then <| c_region <| g_v rfl (r_add rfl rfl rfl) <| g_v rfl r_move <| g_nil ?_
     obtain ⟨n122, hn122, hlp⟩ := nx_inl hm hnx3
     exact d_round (n122, x117.fb, w64 (i96 + 1), A119, c120) ⟨hlp, hc120⟩ hn122 ⟨rfl, rfl, rfl, rfl, rfl, trivial⟩ (fun W h => h.phi (fun W hφ => hφ))
    ·
     replace hm := ite_f hm (of_decide_eq_false h112)
     refine c_exit <| d_exit_then <| d_exit_then <| d_exit_block ?_
     replace hm := nx_out (C := (fun e : (List Int) => m_conf_Bytes_3_j2 p0_fName p0_fText p0_fZone x5 e = some r)) hm hnx3 hr3
     exact d_round (l93, A94, c95) ⟨hm, hc95⟩ Nat.zero_lt_one ⟨rfl, rfl, trivial⟩ (fun W h => h.phi (fun W hφ => hφ))
   ·
    unfold m_conf_Bytes_3_j2 at hm
    refine d_flat [(1, .pointer (some ⟨g1, 0, none⟩)), (5, .pointer (some ⟨g13, 0, none⟩))] ⟨rfl, rfl, trivial⟩ (fun u => ?_)
    refine d_sta ⟨w0, M, (100135, g13, .cells #[.slice A68 l67.length c69, mapV A10] 102 (0, 0)) :: (100010, g1, .cells #[.int .i64 p0_fKind, .int .i64 p0_fNode, .string p0_fName, .string p0_fText, .string p0_fZone, .slice Ap0_fHints_0 p0_fHints.length cp0_fHints_0] 35 (0, 0)) :: H, (100130, ⟨.slice A68 l67.length c69, 5, 1, l67.length, l67.flatMap (fun x : Int => [Value.int .u8 x])⟩) :: (100131, ⟨mapV A10, 100, 2, x5.fplaces.length, x5.fplaces.flatMap (mcell (fun x : ByteArray => Value.string x) (fun x : Int => Value.int .i64 x))⟩) :: R, φ⟩ (fun _ h => h) <| d_then <| c_seq <| c_region <| g_v rfl r_move <| g_v rfl (r_field (n := 2) Try.underlying35 rfl Try.sizeOf9 rfl rfl) <| g_v rfl (r_load (tag := 100010) rfl rfl rfl Try.isAgg9) <| g_v rfl (r_field (n := 3) Try.underlying35 rfl Try.sizeOf9 rfl rfl) <| g_v rfl (r_load (tag := 100010) rfl rfl rfl Try.isAgg9) ?_
    replace hm := bnd hm
    obtain ⟨s70, hs70, hm⟩ := hm
    refine g_v rfl (r_addT rfl rfl hs70) <| g_v rfl (r_field (n := 4) Try.underlying35 rfl Try.sizeOf9 rfl rfl) <| g_v rfl (r_load (tag := 100010) rfl rfl rfl Try.isAgg9) ?_
    replace hm := bnd hm
    obtain ⟨s71, hs71, hm⟩ := hm
    refine g_v rfl (r_addT rfl rfl hs71) ?_
    replace hm := bnd hm
    obtain ⟨x72, hx73, hm⟩ := hm
    refine g_cn ⟨w0, M, (1000, g13, .cells #[.slice A68 l67.length c69, mapV A10] 102 (0, 0)) :: (100010, g1, .cells #[.int .i64 p0_fKind, .int .i64 p0_fNode, .string p0_fName, .string p0_fText, .string p0_fZone, .slice Ap0_fHints_0 p0_fHints.length cp0_fHints_0] 35 (0, 0)) :: H, (1000, ⟨.slice A68 l67.length c69, 5, 1, l67.length, l67.flatMap (fun x : Int => [Value.int .u8 x])⟩) :: (1001, ⟨mapV A10, 100, 2, x5.fplaces.length, x5.fplaces.flatMap (mcell (fun x : ByteArray => Value.string x) (fun x : Int => Value.int .i64 x))⟩) :: R, φ⟩ (fun W h => (ok_front (t := 100135) (t' := 1000) (ok_frontR (t := 100130) (t' := 1000) (ok_frontR (t := 100131) (t' := 1001) h rfl) rfl) rfl)) Try.call44 rfl rfl (c_pack_Packer_Raw s71 g13 (⟨l67, x5.fplaces⟩ : Gpack_Packer) A68 c69 hc69 A10 c11 trivial _ hx73) (fun ⟨A74, c75⟩ hc75 => ?_)
    refine g_sta _ (fun W h => (ok_frontR (t := 2000) (t' := 100130) (ok_frontR (t := 1001) (t' := 100131) (ok_front (t := 1000) (t' := 100135) h rfl) rfl) rfl)) <| g_nil <| d_then ?_
    refine c_flat [(5, .pointer (some ⟨g13, 0, none⟩))] ⟨rfl, trivial⟩ (fun u => ?_)
    refine c_sta ⟨w0, M, (100135, g13, .cells #[.slice A74 x72.fb.length c75, mapV A10] 102 (0, 0)) :: (100010, g1, .cells #[.int .i64 p0_fKind, .int .i64 p0_fNode, .string p0_fName, .string p0_fText, .string p0_fZone, .slice Ap0_fHints_0 p0_fHints.length cp0_fHints_0] 35 (0, 0)) :: H, (100130, ⟨.slice A74 x72.fb.length c75, 5, 1, x72.fb.length, x72.fb.flatMap (fun x : Int => [Value.int .u8 x])⟩) :: (100131, ⟨mapV A10, 100, 2, x5.fplaces.length, x5.fplaces.flatMap (mcell (fun x : ByteArray => Value.string x) (fun x : Int => Value.int .i64 x))⟩) :: R, φ⟩ (fun _ h => h) <| c_seq <| c_region <| g_v rfl r_move ?_
    replace hm := bnd hm
    obtain ⟨x77, hx78, hm⟩ := hm
    refine g_cn ⟨w0, M, (1000, g13, .cells #[.slice A74 x72.fb.length c75, mapV A10] 102 (0, 0)) :: (100010, g1, .cells #[.int .i64 p0_fKind, .int .i64 p0_fNode, .string p0_fName, .string p0_fText, .string p0_fZone, .slice Ap0_fHints_0 p0_fHints.length cp0_fHints_0] 35 (0, 0)) :: H, (1000, ⟨.slice A74 x72.fb.length c75, 5, 1, x72.fb.length, x72.fb.flatMap (fun x : Int => [Value.int .u8 x])⟩) :: (1001, ⟨mapV A10, 100, 2, x5.fplaces.length, x5.fplaces.flatMap (mcell (fun x : ByteArray => Value.string x) (fun x : Int => Value.int .i64 x))⟩) :: R, φ⟩ (fun W h => (ok_front (t := 100135) (t' := 1000) (ok_frontR (t := 100130) (t' := 1000) (ok_frontR (t := 100131) (t' := 1001) h rfl) rfl) rfl)) Try.call45 rfl rfl (c_pack_Packer_Bytes g13 (⟨x72.fb, x5.fplaces⟩ : Gpack_Packer) A74 c75 hc75 A10 c11 trivial _ hx78) (fun _ _ => ?_)
    refine g_sta _ (fun W h => (ok_frontR (t := 1000) (t' := 100130) (ok_frontR (t := 1001) (t' := 100131) (ok_front (t := 1000) (t' := 100135) h rfl) rfl) rfl)) <| g_v rfl r_assign <| g_v rfl r_assign <| g_nil <| d_then <| c_ret ?_
    replace hm := Option.some.inj hm
    subst hm
    refine d_retC () Try.results15 ?_ trivial (fun W h => ok_pre (H1 := [_, _]) (R1 := [_, _]) h (fun W hφ => hφ)) (.inr rfl)
    refine res_tmp <| res_tmp <| res_nil ?_
    exact rfl
noncomputable def m_ref13_node (p0 : Int) : Option Bool :=
  if 0 ≤ p0 then
    some (decide (p0 ≤ 63))
  else
    some false
theorem c_ref13_node {w0 : World} {M : Nat → Prop} {H : List (Nat × Nat × Obj)} {R : List (Nat × Row)} {φ : World → Prop} (p0 : Int) (r : Bool) (hm : m_ref13_node p0 = some r) :
    Cn Try.prog 57 #[.int .i64 p0] ⟨w0, M, H, R, φ⟩ (fun x : Unit => .bool r) (fun x => True) (fun x => ⟨w0, M, H, R, φ⟩) := by
 unfold m_ref13_node at hm
 refine cn_intro (fn := Try.f57) (N := 9) Try.func57 rfl Try.ntmps57 rfl <| c_seq <| c_region <| g_v rfl r_assign <| g_nil <| d_then <| c_seq <| c_region <| g_v rfl r_move <| g_v rfl (r_geq rfl rfl) ?_
 refine g_v rfl r_move ?_
 refine g_if rfl rfl rfl rfl rfl (fun h1 => ?_) (fun h1 => ?_)
 ·
  replace hm := ite_t hm (of_decide_eq_true h1)
  refine g_v rfl r_move <| g_do rfl rfl rfl rfl rfl h1 <| g_v rfl (r_leq rfl rfl) <| g_v rfl (r_pick1 rfl h1) <| g_v rfl r_assign <| g_nil <| d_then <| c_ret ?_
  replace hm := Option.some.inj hm
  subst hm
  refine d_retC () Try.results57 ?_ trivial (fun W h => ok_pre (H1 := []) (R1 := []) h (fun W hφ => hφ)) (.inr rfl)
  refine res_tmp <| res_nil ?_
  exact rfl
 ·
  replace hm := ite_f hm (of_decide_eq_false h1)
  refine g_no rfl rfl rfl rfl rfl h1 <| g_v rfl (r_pick0 rfl h1) <| g_v rfl r_assign <| g_nil <| d_then <| c_ret ?_
  replace hm := Option.some.inj hm
  subst hm
  refine d_retC () Try.results57 ?_ trivial (fun W h => ok_pre (H1 := []) (R1 := []) h (fun W hφ => hφ)) (.inr rfl)
  refine res_tmp <| res_nil ?_
  exact rfl
noncomputable def m_ref03_row_j1 (p0 : ByteArray) (l82 : List ByteArray) (i85 : Int) : Option ((List ByteArray) × Bool) :=
  some (l82, decide (i85 = w64 ((p0.size : Int) - 1)))
noncomputable def m_ref03_row_s2 (p0 : ByteArray) (l101 : List ByteArray) (i104 : Int) : Option (((List ByteArray) × Int) ⊕ (((List ByteArray) × Int) ⊕ ((List ByteArray) × Bool))) :=
  if i104 < (p0.size : Int) then
    (sat_ p0 i104).bind fun b122 =>
    if b122 ≠ 0 then
      (sat_ p0 i104).bind fun b124 =>
      if 63 < w64 b124 then
        some (.inr (.inr (([] : List ByteArray), false)))
      else
        if (p0.size : Int) < w64 ((w64 (i104 + 1)) + (w64 b124)) then
          some (.inr (.inr (([] : List ByteArray), false)))
        else
          (scutMid p0 (w64 (i104 + 1)) (w64 ((w64 (i104 + 1)) + (w64 b124)))).bind fun s127 =>
          (app 16 l101 [s127]).bind fun l129 =>
          some (.inl (l129, w64 ((w64 (i104 + 1)) + (w64 b124))))
    else
      some (.inr (.inl (l101, i104)))
  else
    some (.inr (.inl (l101, i104)))
noncomputable def m_ref03_row (p0 : ByteArray) : Option ((List ByteArray) × Bool) :=
  (loop (fun s => m_ref03_row_s2 p0 s.1 s.2) (([] : List ByteArray), 0)).bind fun e => Sum.elim (fun e => m_ref03_row_j1 p0 e.1 e.2) (fun x => some x) e
theorem c_ref03_row {w0 : World} {M : Nat → Prop} {H : List (Nat × Nat × Obj)} {R : List (Nat × Row)} {φ : World → Prop} (p0 : ByteArray) (r : (List ByteArray) × Bool) (hm : m_ref03_row p0 = some r) :
    Cn Try.prog 39 #[.string p0] ⟨w0, M, H, R, φ⟩ (fun x : Option Addr × Nat => .tuple #[.slice x.1 r.1.length x.2, .bool r.2]) (fun x => r.1.length ≤ x.2) (fun x => ⟨w0, M, H, (2000, ⟨.slice x.1 r.1.length x.2, 9, 1, r.1.length, r.1.flatMap (fun x : ByteArray => [Value.string x])⟩) :: R, φ⟩) := by
 unfold m_ref03_row at hm
 refine cn_intro (fn := Try.f39) (N := 53) Try.func39 rfl Try.ntmps39 rfl <| c_seq <| c_region <| g_v rfl r_assign <| g_v rfl r_assign <| g_nil <| d_then <| c_seq <| c_region <| g_v rfl r_assign ?_
 refine g_nil <| d_then <| c_seq <| c_region <| g_v rfl r_assign <| g_nil <| d_then <| c_seq <| c_sta _ (fun W h => nilR h 19 9 1) ?_
 refine c_cut (ι := (List ByteArray) × Int × Option Addr × Nat) [0, 4, 5] (fun ⟨l82, i85, A83, c84⟩ => [(4, .slice A83 l82.length c84), (5, .int .i64 i85)]) (fun ⟨l82, i85, A83, c84⟩ => ⟨w0, M, H, (19, ⟨.slice A83 l82.length c84, 9, 1, l82.length, l82.flatMap (fun x : ByteArray => [Value.string x])⟩) :: R, φ⟩) (fun ⟨l82, i85, A83, c84⟩ => m_ref03_row_j1 p0 l82 i85 = some r ∧ l82.length ≤ c84) ?_ (fun ⟨l82, i85, A83, c84⟩ u ⟨hm, hc84⟩ => ?_)
 ·
  refine c_block ?_
  replace hm := bnd hm
  obtain ⟨out2, hl2, hr2⟩ := hm
  obtain ⟨n120', hl2⟩ := loop_lp hl2
  refine c_loopU (ι := Nat × (List ByteArray) × Int × Option Addr × Nat) [0, 4, 5] (fun ⟨n120, l101, i104, A102, c103⟩ => [(4, .slice A102 l101.length c103), (5, .int .i64 i104)]) (fun ⟨n120, l101, i104, A102, c103⟩ => ⟨w0, M, H, (19, ⟨.slice A102 l101.length c103, 9, 1, l101.length, l101.flatMap (fun x : ByteArray => [Value.string x])⟩) :: R, φ⟩) (fun ⟨n120, l101, i104, A102, c103⟩ => Lp (fun s => m_ref03_row_s2 p0 s.1 s.2) n120 (l101, i104) out2 ∧ l101.length ≤ c103) (fun ⟨n120, l101, i104, A102, c103⟩ => n120) (n120', ([] : List ByteArray), 0, none, 0) ⟨hl2, (Nat.le_refl 0)⟩ ⟨rfl, rfl, rfl, trivial⟩ (fun W h => h.phi (fun W hφ => hφ)) (fun ⟨n120, l101, i104, A102, c103⟩ u ⟨hlp, hc103⟩ => ?_)
  obtain ⟨o2, hm, hnx2⟩ := lp_step hlp
  clear hlp
  replace hm : m_ref03_row_s2 p0 l101 i104 = some o2 := hm
  unfold m_ref03_row_s2 at hm
  refine c_flat [(0, .string p0), (4, .slice A102 l101.length c103), (5, .int .i64 i104)] ⟨rfl, rfl, rfl, trivial⟩ (fun u => ?_)
  refine c_sta ⟨w0, M, H, (19, ⟨.slice A102 l101.length c103, 9, 1, l101.length, l101.flatMap (fun x : ByteArray => [Value.string x])⟩) :: R, φ⟩ (fun _ h => h) <| c_seq <| c_seq <| c_region <| g_v rfl r_move <| g_v rfl r_move <| g_v rfl (r_len Try.underlying9 rfl) <| g_v rfl (r_lss rfl rfl) <| g_v rfl r_move ?_
  refine g_if rfl rfl rfl rfl rfl (fun h121 => ?_) (fun h121 => ?_)
  ·
   replace hm := ite_t hm (of_decide_eq_true h121)
   refine g_v rfl r_move <| g_do rfl rfl rfl rfl rfl h121 <| g_v rfl r_move <| g_do rfl rfl rfl rfl rfl h121 ?_
   replace hm := bnd hm
   obtain ⟨b122, hb122, hm⟩ := hm
   refine g_v rfl (r_sat Try.underlying9 rfl rfl hb122) <| g_do rfl rfl rfl rfl rfl h121 <| g_v rfl (r_neq rfl rfl) <| g_v rfl (r_pick1 rfl h121) <| g_nil <| d_then ?_
   refine c_flat [(0, .string p0), (4, .slice A102 l101.length c103), (5, .int .i64 i104), (16, .bool (decide (b122 ≠ 0)))] ⟨rfl, rfl, rfl, rfl, trivial⟩ (fun u => ?_)
   refine c_cond rfl (fun h123 => ?_) (fun h123 => ?_)
   ·
    replace hm := ite_t hm (of_decide_eq_true h123)
    refine c_skip <| d_then <| c_block <| c_seq <| c_region <| g_v rfl r_move <| g_v rfl r_move ?_
    replace hm := bnd hm
    obtain ⟨b124, hb124, hm⟩ := hm
    refine g_v rfl (r_sat Try.underlying9 rfl rfl hb124) <| g_v rfl (r_conv Try.underlying5 Try.underlying3 rfl rfl) <| g_v rfl r_assign <| g_nil <| d_then <| c_seq <| c_seq <| c_region <| g_v rfl r_move <| g_v rfl (r_gtr rfl rfl) ?_
    refine g_v rfl r_move ?_
    refine g_if rfl rfl rfl rfl rfl (fun h125 => ?_) (fun h125 => ?_)
    ·
     replace hm := ite_f hm (of_decide_eq_false h125)
     refine g_v rfl r_move <| g_do rfl rfl rfl rfl rfl h125 <| g_v rfl (r_add rfl rfl rfl) <| g_do rfl rfl rfl rfl rfl h125 <| g_v rfl r_move <| g_do rfl rfl rfl rfl rfl h125 <| g_v rfl (r_add rfl rfl rfl) <| g_do rfl rfl rfl rfl rfl h125 <| g_v rfl r_move <| g_do rfl rfl rfl rfl rfl h125 ?_
     refine g_v rfl (r_len Try.underlying9 rfl) <| g_do rfl rfl rfl rfl rfl h125 <| g_v rfl (r_gtr rfl rfl) <| g_v rfl (r_pick0 rfl h125) <| g_nil <| d_then ?_
     refine c_flat [(0, .string p0), (4, .slice A102 l101.length c103), (5, .int .i64 i104), (6, .int .i64 (w64 b124)), (31, .bool (decide ((p0.size : Int) < w64 ((w64 (i104 + 1)) + (w64 b124)))))] ⟨rfl, rfl, rfl, rfl, rfl, trivial⟩ (fun u => ?_)
     refine c_cond rfl (fun h126 => ?_) (fun h126 => ?_)
     ·
      replace hm := ite_t hm (of_decide_eq_true h126)
      refine c_seq <| c_region <| g_v rfl r_assign <| g_v rfl r_assign <| g_nil <| d_then <| c_ret <| d_ret_then <| d_ret_block <| d_ret_then ?_
      refine d_ret_block <| d_ret_then <| d_ret_then ?_
      replace hm := nx_out (C := (fun e : ((List ByteArray) × Int) ⊕ ((List ByteArray) × Bool) => Sum.elim (fun e => m_ref03_row_j1 p0 e.1 e.2) (fun x => some x) e = some r)) hm hnx2 hr2
      replace hm : some (([] : List ByteArray), false) = some r := hm
      replace hm := Option.some.inj hm
      subst hm
      refine d_sta _ (fun W h => nilR h 28 9 1) <| d_sta _ (fun W h => ok_frontR (t := 28) (t' := 2000) h rfl) ?_
      refine d_retC (none, 0) Try.results39 ?_ (Nat.le_refl 0) (fun W h => (h.dropR (t := 19) rfl).phi (fun W hφ => hφ)) (.inr rfl)
      refine res_tmp <| res_tmp <| res_nil ?_
      exact rfl
     ·
      replace hm := ite_f hm (of_decide_eq_false h126)
      refine c_skip <| d_then <| c_seq <| c_region <| g_v rfl r_move <| g_v rfl r_move <| g_v rfl r_move <| g_v rfl (r_add rfl rfl rfl) <| g_v rfl r_move <| g_v rfl (r_add rfl rfl rfl) ?_
      refine g_v rfl r_move <| g_v rfl (r_add rfl rfl rfl) ?_
      replace hm := bnd hm
      obtain ⟨s127, hs127, hm⟩ := hm
      refine g_v rfl (r_scutMid Try.underlying9 rfl rfl rfl hs127) ?_
      refine g_e rfl (e_lit (tag := 100410) (l := [s127]) (enc := (fun x : ByteArray => [Value.string x])) (sz := 1) rfl Try.underlying22 (lit9_6 _) rfl rfl (fun _ => rfl)) (fun g128 _ => ?_)
      replace hm := bnd hm
      obtain ⟨l129, hl129, hm⟩ := hm
      refine g_e rfl (e_appR (enc := (fun x : ByteArray => [Value.string x])) (l := l101) (l1 := [s127]) (l2 := l129) (tag := 19) Try.underlying22 inf9_7 rfl (by decide) (by decide) (fun _ => rfl) (fun _ => rfl) rfl hc103 rfl rfl (fun W hS => rowCl (tag := 100410) rfl W hS) hl129) (fun ⟨A130, c131⟩ hc131 => ?_)
      refine g_v rfl r_assign <| g_nil <| d_then ?_
      refine c_flat [(0, .string p0), (4, .slice A130 l129.length c131), (5, .int .i64 i104), (6, .int .i64 (w64 b124))] ⟨rfl, rfl, rfl, rfl, trivial⟩ (fun u => ?_)
      refine c_sta ⟨w0, M, H, (100410, ⟨.slice (some ⟨g128, 0, none⟩) [s127].length 1, 9, 1, [s127].length, [s127].flatMap (fun x : ByteArray => [Value.string x])⟩) :: (19, ⟨.slice A130 l129.length c131, 9, 1, l129.length, l129.flatMap (fun x : ByteArray => [Value.string x])⟩) :: R, φ⟩ (fun _ h => h) <| c_region <| g_v rfl r_move <| g_v rfl (r_add rfl rfl rfl) <| g_v rfl r_move <| g_v rfl (r_add rfl rfl rfl) <| g_v rfl r_assign <| g_nil <| d_normal_block ?_
      obtain ⟨n132, hn132, hlp⟩ := nx_inl hm hnx2
      exact d_round (n132, l129, w64 ((w64 (i104 + 1)) + (w64 b124)), A130, c131) ⟨hlp, hc131⟩ hn132 ⟨rfl, rfl, rfl, trivial⟩ (fun W h => (h.dropR (t := 100410) rfl).phi (fun W hφ => hφ))
    ·
     replace hm := ite_t hm (of_decide_eq_true h125)
     refine g_no rfl rfl rfl rfl rfl h125 <| g_no rfl rfl rfl rfl rfl h125 <| g_no rfl rfl rfl rfl rfl h125 <| g_no rfl rfl rfl rfl rfl h125 <| g_no rfl rfl rfl rfl rfl h125 <| g_no rfl rfl rfl rfl rfl h125 <| g_v rfl (r_pick1 rfl h125) <| g_nil <| d_then ?_
     refine c_flat [(0, .string p0), (4, .slice A102 l101.length c103), (5, .int .i64 i104), (6, .int .i64 (w64 b124)), (31, .bool true)] ⟨rfl, rfl, rfl, rfl, rfl, trivial⟩ (fun u => ?_)
     refine c_cond1 rfl rfl <| c_seq <| c_region <| g_v rfl r_assign <| g_v rfl r_assign <| g_nil <| d_then <| c_ret <| d_ret_then <| d_ret_block ?_
     refine d_ret_then <| d_ret_block <| d_ret_then <| d_ret_then ?_
     replace hm := nx_out (C := (fun e : ((List ByteArray) × Int) ⊕ ((List ByteArray) × Bool) => Sum.elim (fun e => m_ref03_row_j1 p0 e.1 e.2) (fun x => some x) e = some r)) hm hnx2 hr2
     replace hm : some (([] : List ByteArray), false) = some r := hm
     replace hm := Option.some.inj hm
     subst hm
     refine d_sta _ (fun W h => nilR h 29 9 1) <| d_sta _ (fun W h => ok_frontR (t := 29) (t' := 2000) h rfl) ?_
     refine d_retC (none, 0) Try.results39 ?_ (Nat.le_refl 0) (fun W h => (h.dropR (t := 19) rfl).phi (fun W hφ => hφ)) (.inr rfl)
     refine res_tmp <| res_tmp <| res_nil ?_
     exact rfl
   ·
    replace hm := ite_f hm (of_decide_eq_false h123)
    refine c_exit <| d_exit_then <| d_exit_then <| d_exit_block ?_
    replace hm := nx_out (C := (fun e : ((List ByteArray) × Int) ⊕ ((List ByteArray) × Bool) => Sum.elim (fun e => m_ref03_row_j1 p0 e.1 e.2) (fun x => some x) e = some r)) hm hnx2 hr2
    exact d_round (l101, i104, A102, c103) ⟨hm, hc103⟩ Nat.zero_lt_one ⟨rfl, rfl, rfl, trivial⟩ (fun W h => h.phi (fun W hφ => hφ))
  ·
   replace hm := ite_f hm (of_decide_eq_false h121)
   refine g_no rfl rfl rfl rfl rfl h121 <| g_no rfl rfl rfl rfl rfl h121 <| g_no rfl rfl rfl rfl rfl h121 <| g_v rfl (r_pick0 rfl h121) <| g_nil <| d_then <| c_cond0 rfl rfl <| c_exit <| d_exit_then <| d_exit_then ?_
   refine d_exit_block ?_
   replace hm := nx_out (C := (fun e : ((List ByteArray) × Int) ⊕ ((List ByteArray) × Bool) => Sum.elim (fun e => m_ref03_row_j1 p0 e.1 e.2) (fun x => some x) e = some r)) hm hnx2 hr2
   exact d_round (l101, i104, A102, c103) ⟨hm, hc103⟩ Nat.zero_lt_one ⟨rfl, rfl, rfl, trivial⟩ (fun W h => h.phi (fun W hφ => hφ))
 ·
  unfold m_ref03_row_j1 at hm
  refine d_flat [(0, .string p0), (4, .slice A83 l82.length c84), (5, .int .i64 i85)] ⟨rfl, rfl, rfl, trivial⟩ (fun u => ?_)
  refine d_sta ⟨w0, M, H, (19, ⟨.slice A83 l82.length c84, 9, 1, l82.length, l82.flatMap (fun x : ByteArray => [Value.string x])⟩) :: R, φ⟩ (fun _ h => h) <| d_then <| c_seq <| c_region <| g_v rfl r_move <| g_v rfl r_move <| g_v rfl r_move <| g_v rfl (r_len Try.underlying9 rfl) <| g_v rfl (r_sub rfl rfl rfl) <| g_v rfl (r_eql rfl rfl) ?_
  refine g_v rfl r_assign <| g_v rfl r_assign <| g_nil <| d_then <| c_ret ?_
  replace hm := Option.some.inj hm
  subst hm
  refine d_sta _ (fun W h => ok_frontR (t := 19) (t' := 2000) h rfl) ?_
  refine d_retC (A83, c84) Try.results39 ?_ hc84 (fun W h => h.phi (fun W hφ => hφ)) (.inr rfl)
  refine res_tmp <| res_tmp <| res_nil ?_
  exact rfl
noncomputable def m_ref03_Check (p0 : ByteArray) : Option Int :=
  (m_ref03_row p0).bind fun (z7 : (List ByteArray) × Bool) =>
  if z7.2 = true then
    if 255 < (p0.size : Int) then
      some 11
    else
      some 0
  else
    some 10
theorem c_ref03_Check {w0 : World} {M : Nat → Prop} {H : List (Nat × Nat × Obj)} {R : List (Nat × Row)} {φ : World → Prop} (p0 : ByteArray) (r : Int) (hm : m_ref03_Check p0 = some r) :
    Cn Try.prog 11 #[.string p0] ⟨w0, M, H, R, φ⟩ (fun x : Unit => .int .i64 r) (fun x => True) (fun x => ⟨w0, M, H, R, φ⟩) := by
 unfold m_ref03_Check at hm
 refine cn_intro (fn := Try.f11) (N := 15) Try.func11 rfl Try.ntmps11 rfl <| c_seq <| c_region <| g_v rfl r_assign <| g_nil <| d_then <| c_seq <| c_region <| g_v rfl r_move ?_
 replace hm := bnd hm
 obtain ⟨⟨x1, x2⟩, hx3, hm⟩ := hm
 refine g_cn ⟨w0, M, _, _, φ⟩ (fun _ h => h) Try.call39 rfl rfl (c_ref03_row p0 _ hx3) (fun ⟨A4, c5⟩ hc5 => ?_)
 refine g_sta _ (fun W h => (ok_frontR (t := 2000) (t' := 100070) h rfl)) <| g_v rfl r_move <| g_v rfl (r_extract rfl rfl) <| g_v rfl (r_extract rfl rfl) <| g_v rfl r_assign <| g_v rfl r_assign <| g_nil <| d_then <| c_seq <| c_seq ?_
 refine c_region <| g_v rfl r_move <| g_v rfl (r_not rfl) <| g_nil <| d_then ?_
 refine c_flat [(0, .string p0), (11, .bool (!x2))] ⟨rfl, rfl, trivial⟩ (fun u => ?_)
 refine c_sta ⟨w0, M, H, (100070, ⟨.slice A4 x1.length c5, 9, 1, x1.length, x1.flatMap (fun x : ByteArray => [Value.string x])⟩) :: R, φ⟩ (fun _ h => h) ?_
 refine c_cond rfl (fun h8 => ?_) (fun h8 => ?_)
 ·
  have h8' : x2 = false := by revert h8; cases x2 <;> simp
  replace hm := ite_f hm (bool_nt h8')
  refine c_seq <| c_region <| g_v rfl r_assign <| g_nil <| d_then <| c_ret <| d_ret_then ?_
  replace hm := Option.some.inj hm
  subst hm
  refine d_retC () Try.results11 ?_ trivial (fun W h => ok_pre (H1 := []) (R1 := [_]) h (fun W hφ => hφ)) (.inr rfl)
  refine res_tmp <| res_nil ?_
  exact rfl
 ·
  have h8' : x2 = true := by revert h8; cases x2 <;> simp
  replace hm := ite_t hm h8'
  refine c_skip <| d_then <| c_seq <| c_seq <| c_region <| g_v rfl r_move <| g_v rfl (r_len Try.underlying9 rfl) <| g_v rfl (r_gtr rfl rfl) <| g_nil <| d_then ?_
  refine c_cond rfl (fun h9 => ?_) (fun h9 => ?_)
  ·
   replace hm := ite_t hm (of_decide_eq_true h9)
   refine c_seq <| c_region <| g_v rfl r_assign <| g_nil <| d_then <| c_ret <| d_ret_then ?_
   replace hm := Option.some.inj hm
   subst hm
   refine d_retC () Try.results11 ?_ trivial (fun W h => ok_pre (H1 := []) (R1 := [_]) h (fun W hφ => hφ)) (.inr rfl)
   refine res_tmp <| res_nil ?_
   exact rfl
  ·
   replace hm := ite_f hm (of_decide_eq_false h9)
   refine c_skip <| d_then <| c_seq <| c_region <| g_v rfl r_assign <| g_nil <| d_then <| c_ret ?_
   replace hm := Option.some.inj hm
   subst hm
   refine d_retC () Try.results11 ?_ trivial (fun W h => ok_pre (H1 := []) (R1 := [_]) h (fun W hφ => hφ)) (.inr rfl)
   refine res_tmp <| res_nil ?_
   exact rfl
noncomputable def m_ref13_name (p0 : ByteArray) : Option Bool :=
  (m_ref03_Check p0).bind fun x1 =>
  some (decide (x1 = 0))
theorem c_ref13_name {w0 : World} {M : Nat → Prop} {H : List (Nat × Nat × Obj)} {R : List (Nat × Row)} {φ : World → Prop} (p0 : ByteArray) (r : Bool) (hm : m_ref13_name p0 = some r) :
    Cn Try.prog 58 #[.string p0] ⟨w0, M, H, R, φ⟩ (fun x : Unit => .bool r) (fun x => True) (fun x => ⟨w0, M, H, R, φ⟩) := by
 unfold m_ref13_name at hm
 refine cn_intro (fn := Try.f58) (N := 6) Try.func58 rfl Try.ntmps58 rfl <| c_seq <| c_region <| g_v rfl r_assign <| g_nil <| d_then <| c_seq <| c_region <| g_v rfl r_move ?_
 replace hm := bnd hm
 obtain ⟨x1, hx2, hm⟩ := hm
 refine g_cn ⟨w0, M, _, _, φ⟩ (fun _ h => h) Try.call11 rfl rfl (c_ref03_Check p0 _ hx2) (fun _ _ => ?_)
 refine g_v rfl (r_eql rfl rfl) <| g_v rfl r_assign <| g_nil <| d_then <| c_ret ?_
 replace hm := Option.some.inj hm
 subst hm
 refine d_retC () Try.results58 ?_ trivial (fun W h => ok_pre (H1 := []) (R1 := []) h (fun W hφ => hφ)) (.inr rfl)
 refine res_tmp <| res_nil ?_
 exact rfl
noncomputable def m_ref13_Check_j2  (b51 : Bool) : Option Int :=
  if b51 = true then
    some 0
  else
    some 1
noncomputable def m_ref13_Check_s5 (p0 : GOrder) (b73 : Bool) (i74 : Int) : Option ((Bool × Int) ⊕ Bool) :=
  if i74 < (p0.fHints.length : Int) then
    if i74 < 13 then
      if b73 = true then
        (at_ p0.fHints i74).bind fun x88 =>
        some (.inl (decide ((x88.size : Int) = 4), w64 (i74 + 1)))
      else
        some (.inl (false, w64 (i74 + 1)))
    else
      some (.inr b73)
  else
    some (.inr b73)
noncomputable def m_ref13_Check_j4 (p0 : GOrder) (b64 : Bool) : Option Int :=
  (loop (fun s => m_ref13_Check_s5 p0 s.1 s.2) (b64, 0)).bind fun e => m_ref13_Check_j2 e
noncomputable def m_ref13_Check_j3 (x2 : Bool) (b5 : Bool) (p0 : GOrder) (x6 : Bool) (x8 : Bool) (b54 : Bool) : Option Int :=
  if b54 = true then
    if x2 = true then
      if b5 = true then
        if p0.fZone = (⟨#[]⟩ : ByteArray) then
          m_ref13_Check_j2 (decide ((p0.fHints.length : Int) = 0))
        else
          m_ref13_Check_j2 false
      else
        m_ref13_Check_j2 false
    else
      m_ref13_Check_j2 false
  else
    if p0.fKind = 3 then
      if p0.fNode = 0 then
        if b5 = true then
          if p0.fZone = (⟨#[]⟩ : ByteArray) then
            if 0 < (p0.fHints.length : Int) then
              m_ref13_Check_j4 p0 (decide ((p0.fHints.length : Int) ≤ 13))
            else
              m_ref13_Check_j4 p0 false
          else
            m_ref13_Check_j4 p0 false
        else
          m_ref13_Check_j4 p0 false
      else
        m_ref13_Check_j4 p0 false
    else
      if p0.fKind = 4 then
        if p0.fNode = 0 then
          if x6 = true then
            if (p0.fText.size : Int) ≤ 200 then
              if p0.fZone = (⟨#[]⟩ : ByteArray) then
                m_ref13_Check_j2 (decide ((p0.fHints.length : Int) = 0))
              else
                m_ref13_Check_j2 false
            else
              m_ref13_Check_j2 false
          else
            m_ref13_Check_j2 false
        else
          m_ref13_Check_j2 false
      else
        if p0.fKind = 5 then
          if p0.fNode = 0 then
            if x8 = true then
              if b5 = true then
                m_ref13_Check_j2 (decide ((p0.fHints.length : Int) = 0))
              else
                m_ref13_Check_j2 false
            else
              m_ref13_Check_j2 false
          else
            m_ref13_Check_j2 false
        else
          m_ref13_Check_j2 false
noncomputable def m_ref13_Check_j1 (p0 : GOrder) (x2 : Bool) (b5 : Bool) : Option Int :=
  (m_ref13_name p0.fName).bind fun x6 =>
  (m_ref13_name p0.fZone).bind fun x8 =>
  if p0.fKind = 1 then
    m_ref13_Check_j3 x2 b5 p0 x6 x8 (decide (p0.fKind = 1))
  else
    m_ref13_Check_j3 x2 b5 p0 x6 x8 (decide (p0.fKind = 2))
noncomputable def m_ref13_Check (p0 : GOrder) : Option Int :=
  (m_ref13_node p0.fNode).bind fun x2 =>
  if p0.fName = (⟨#[]⟩ : ByteArray) then
    m_ref13_Check_j1 p0 x2 (decide (p0.fText = (⟨#[]⟩ : ByteArray)))
  else
    m_ref13_Check_j1 p0 x2 false
theorem c_ref13_Check {w0 : World} {M : Nat → Prop} {H : List (Nat × Nat × Obj)} {R : List (Nat × Row)} {φ : World → Prop} (p0 : GOrder) (Ap0_0 : Option Addr) (cp0_0 : Nat) (hcp0_0 : p0.fHints.length ≤ cp0_0) (fp0_0 : ∀ W, (Sta.mk w0 M H R φ).ok W → Cl W Ap0_0 (p0.fHints.flatMap (fun x : ByteArray => [Value.string x]))) (r : Int) (hm : m_ref13_Check p0 = some r) :
    Cn Try.prog 21 #[.agg #[.int .i64 p0.fKind, .int .i64 p0.fNode, .string p0.fName, .string p0.fText, .string p0.fZone, .slice Ap0_0 p0.fHints.length cp0_0]] ⟨w0, M, H, R, φ⟩ (fun x : Unit => .int .i64 r) (fun x => True) (fun x => ⟨w0, M, H, R, φ⟩) := by
 unfold m_ref13_Check at hm
 refine cn_intro (fn := Try.f21) (N := 135) Try.func21 rfl Try.ntmps21 rfl <| c_seq <| c_region ?_
 refine g_e rfl (e_box 100010 rfl) (fun g1 _ => ?_)
 refine g_v rfl r_assign <| g_nil <| d_then <| c_seq <| c_region <| g_v rfl (r_field (n := 1) Try.underlying35 rfl Try.sizeOf3 rfl rfl) <| g_v rfl (r_load (tag := 100010) rfl rfl rfl Try.isAgg3) ?_
 replace hm := bnd hm
 obtain ⟨x2, hx3, hm⟩ := hm
 refine g_cn ⟨w0, M, _, _, φ⟩ (fun _ h => h) Try.call57 rfl rfl (c_ref13_node p0.fNode _ hx3) (fun _ _ => ?_)
 refine g_v rfl r_assign <| g_nil <| d_then <| c_seq ?_
 refine c_cut (ι := Bool) [1, 3, 4] (fun b5 => [(4, .bool b5)]) (fun b5 => ⟨w0, M, (100010, g1, .cells #[.int .i64 p0.fKind, .int .i64 p0.fNode, .string p0.fName, .string p0.fText, .string p0.fZone, .slice Ap0_0 p0.fHints.length cp0_0] 35 (0, 0)) :: H, R, φ⟩) (fun b5 => m_ref13_Check_j1 p0 x2 b5 = some r) ?_ (fun b5 u hm => ?_)
 ·
  refine c_region <| g_v rfl (r_field (n := 2) Try.underlying35 rfl Try.sizeOf9 rfl rfl) <| g_v rfl (r_load (tag := 100010) rfl rfl rfl Try.isAgg9) <| g_v rfl (r_eqlT rfl rfl) <| g_v rfl r_move ?_
  refine g_if rfl rfl rfl rfl rfl (fun h108 => ?_) (fun h108 => ?_)
  ·
   replace hm := ite_t hm (of_decide_eq_true h108)
   refine g_v rfl (r_field (n := 3) Try.underlying35 rfl Try.sizeOf9 rfl rfl) <| g_do rfl rfl rfl rfl rfl h108 <| g_v rfl (r_load (tag := 100010) rfl rfl rfl Try.isAgg9) <| g_do rfl rfl rfl rfl rfl h108 <| g_v rfl (r_eqlT rfl rfl) <| g_v rfl (r_pick1 rfl h108) <| g_v rfl r_assign <| g_nil ?_
   exact d_round (decide (p0.fText = (⟨#[]⟩ : ByteArray))) hm Nat.zero_lt_one ⟨rfl, rfl, rfl, trivial⟩ (fun W h => h.phi (fun W hφ => hφ))
  ·
   replace hm := ite_f hm (of_decide_eq_false h108)
   refine g_no rfl rfl rfl rfl rfl h108 <| g_no rfl rfl rfl rfl rfl h108 <| g_v rfl (r_pick0 rfl h108) <| g_v rfl r_assign <| g_nil ?_
   exact d_round false hm Nat.zero_lt_one ⟨rfl, rfl, rfl, trivial⟩ (fun W h => h.phi (fun W hφ => hφ))
 ·
  unfold m_ref13_Check_j1 at hm
  refine d_flat [(1, .pointer (some ⟨g1, 0, none⟩)), (3, .bool x2), (4, .bool b5)] ⟨rfl, rfl, rfl, trivial⟩ (fun u => ?_)
  refine d_sta ⟨w0, M, (100010, g1, .cells #[.int .i64 p0.fKind, .int .i64 p0.fNode, .string p0.fName, .string p0.fText, .string p0.fZone, .slice Ap0_0 p0.fHints.length cp0_0] 35 (0, 0)) :: H, R, φ⟩ (fun _ h => h) <| d_then <| c_seq <| c_region <| g_v rfl (r_field (n := 2) Try.underlying35 rfl Try.sizeOf9 rfl rfl) <| g_v rfl (r_load (tag := 100010) rfl rfl rfl Try.isAgg9) ?_
  replace hm := bnd hm
  obtain ⟨x6, hx7, hm⟩ := hm
  refine g_cn ⟨w0, M, _, _, φ⟩ (fun _ h => h) Try.call58 rfl rfl (c_ref13_name p0.fName _ hx7) (fun _ _ => ?_)
  refine g_v rfl r_assign <| g_nil <| d_then <| c_seq <| c_region <| g_v rfl (r_field (n := 4) Try.underlying35 rfl Try.sizeOf9 rfl rfl) <| g_v rfl (r_load (tag := 100010) rfl rfl rfl Try.isAgg9) ?_
  replace hm := bnd hm
  obtain ⟨x8, hx9, hm⟩ := hm
  refine g_cn ⟨w0, M, _, _, φ⟩ (fun _ h => h) Try.call58 rfl rfl (c_ref13_name p0.fZone _ hx9) (fun _ _ => ?_)
  refine g_v rfl r_assign <| g_nil <| d_then <| c_seq ?_
  refine c_cut (ι := Bool) [3] (fun b51 => [(3, .bool b51)]) (fun b51 => ⟨w0, M, H, R, φ⟩) (fun b51 => m_ref13_Check_j2 b51 = some r) ?_ (fun b51 u hm => ?_)
  ·
   refine c_seq <| c_region <| g_v rfl (r_field (n := 0) Try.underlying35 rfl Try.sizeOf3 rfl rfl) <| g_v rfl (r_load (tag := 100010) rfl rfl rfl Try.isAgg3) <| g_nil <| d_then ?_
   refine c_flat [(1, .pointer (some ⟨g1, 0, none⟩)), (3, .bool x2), (4, .bool b5), (5, .bool x6), (6, .bool x8), (26, .int .i64 p0.fKind)] ⟨rfl, rfl, rfl, rfl, rfl, rfl, trivial⟩ (fun u => ?_)
   refine c_block <| c_seq ?_
   refine c_cut (ι := Bool) [1, 3, 4, 5, 6, 26, 27] (fun b54 => [(27, .bool b54)]) (fun b54 => ⟨w0, M, (100010, g1, .cells #[.int .i64 p0.fKind, .int .i64 p0.fNode, .string p0.fName, .string p0.fText, .string p0.fZone, .slice Ap0_0 p0.fHints.length cp0_0] 35 (0, 0)) :: H, R, φ⟩) (fun b54 => m_ref13_Check_j3 x2 b5 p0 x6 x8 b54 = some r) ?_ (fun b54 u hm => ?_)
   ·
    refine c_seq <| c_region <| g_v rfl (r_eql rfl rfl) <| g_v rfl r_assign <| g_nil <| d_then ?_
    refine c_cond rfl (fun h107 => ?_) (fun h107 => ?_)
    ·
     replace hm := ite_t hm (of_decide_eq_true h107)
     refine c_skip ?_
     exact d_round (decide (p0.fKind = 1)) hm Nat.zero_lt_one ⟨rfl, rfl, rfl, rfl, rfl, rfl, rfl, trivial⟩ (fun W h => h.phi (fun W hφ => hφ))
    ·
     replace hm := ite_f hm (of_decide_eq_false h107)
     refine c_region <| g_v rfl (r_eql rfl rfl) <| g_v rfl r_assign <| g_nil ?_
     exact d_round (decide (p0.fKind = 2)) hm Nat.zero_lt_one ⟨rfl, rfl, rfl, rfl, rfl, rfl, rfl, trivial⟩ (fun W h => h.phi (fun W hφ => hφ))
   ·
    unfold m_ref13_Check_j3 at hm
    refine d_flat [(1, .pointer (some ⟨g1, 0, none⟩)), (3, .bool x2), (4, .bool b5), (5, .bool x6), (6, .bool x8), (26, .int .i64 p0.fKind), (27, .bool b54)] ⟨rfl, rfl, rfl, rfl, rfl, rfl, rfl, trivial⟩ (fun u => ?_)
    refine d_then ?_
    refine c_cond rfl (fun h55 => ?_) (fun h55 => ?_)
    ·
     replace hm := ite_t hm h55
     refine c_region <| g_v rfl r_move <| g_v rfl r_move ?_
     refine g_if rfl rfl rfl rfl rfl (fun h56 => ?_) (fun h56 => ?_)
     ·
      replace hm := ite_t hm h56
      refine g_v rfl r_move <| g_v rfl (r_pick1 rfl h56) <| g_v rfl r_move ?_
      refine g_if rfl rfl rfl rfl rfl (fun h57 => ?_) (fun h57 => ?_)
      ·
       replace hm := ite_t hm h57
       refine g_v rfl (r_field (n := 4) Try.underlying35 rfl Try.sizeOf9 rfl rfl) <| g_do rfl rfl rfl rfl rfl h57 <| g_v rfl (r_load (tag := 100010) rfl rfl rfl Try.isAgg9) <| g_do rfl rfl rfl rfl rfl h57 <| g_v rfl (r_eqlT rfl rfl) <| g_v rfl (r_pick1 rfl h57) <| g_v rfl r_move ?_
       refine g_if rfl rfl rfl rfl rfl (fun h58 => ?_) (fun h58 => ?_)
       ·
        replace hm := ite_t hm (of_decide_eq_true h58)
        refine g_v rfl (r_field (n := 5) Try.underlying35 rfl Try.sizeOf22 rfl rfl) <| g_do rfl rfl rfl rfl rfl h58 <| g_v rfl (r_load (tag := 100010) rfl rfl rfl Try.isAgg22) <| g_do rfl rfl rfl rfl rfl h58 <| g_v rfl (r_lenL Try.underlying22 rfl) <| g_do rfl rfl rfl rfl rfl h58 <| g_v rfl (r_eql rfl rfl) <| g_v rfl (r_pick1 rfl h58) <| g_v rfl r_assign <| g_nil ?_
        refine d_normal_block ?_
        exact d_round (decide ((p0.fHints.length : Int) = 0)) hm Nat.zero_lt_one ⟨rfl, trivial⟩ (fun W h => (h.dropH (t := 100010) rfl).phi (fun W hφ => hφ))
       ·
        replace hm := ite_f hm (of_decide_eq_false h58)
        refine g_no rfl rfl rfl rfl rfl h58 <| g_no rfl rfl rfl rfl rfl h58 <| g_no rfl rfl rfl rfl rfl h58 <| g_v rfl (r_pick0 rfl h58) <| g_v rfl r_assign <| g_nil <| d_normal_block ?_
        exact d_round false hm Nat.zero_lt_one ⟨rfl, trivial⟩ (fun W h => (h.dropH (t := 100010) rfl).phi (fun W hφ => hφ))
      ·
       replace hm := ite_f hm (bool_nt h57)
       refine g_no rfl rfl rfl rfl rfl h57 <| g_no rfl rfl rfl rfl rfl h57 <| g_v rfl (r_pick0 rfl h57) <| g_v rfl r_move <| g_no rfl rfl rfl rfl rfl rfl <| g_no rfl rfl rfl rfl rfl rfl <| g_no rfl rfl rfl rfl rfl rfl <| g_no rfl rfl rfl rfl rfl rfl <| g_v rfl (r_pick0 rfl rfl) <| g_v rfl r_assign ?_
       refine g_nil <| d_normal_block ?_
       exact d_round false hm Nat.zero_lt_one ⟨rfl, trivial⟩ (fun W h => (h.dropH (t := 100010) rfl).phi (fun W hφ => hφ))
     ·
      replace hm := ite_f hm (bool_nt h56)
      refine g_v rfl (r_pick0 rfl h56) <| g_v rfl r_move <| g_no rfl rfl rfl rfl rfl rfl <| g_no rfl rfl rfl rfl rfl rfl <| g_no rfl rfl rfl rfl rfl rfl <| g_v rfl (r_pick0 rfl rfl) <| g_v rfl r_move <| g_no rfl rfl rfl rfl rfl rfl <| g_no rfl rfl rfl rfl rfl rfl <| g_no rfl rfl rfl rfl rfl rfl ?_
      refine g_no rfl rfl rfl rfl rfl rfl <| g_v rfl (r_pick0 rfl rfl) <| g_v rfl r_assign <| g_nil <| d_normal_block ?_
      exact d_round false hm Nat.zero_lt_one ⟨rfl, trivial⟩ (fun W h => (h.dropH (t := 100010) rfl).phi (fun W hφ => hφ))
    ·
     replace hm := ite_f hm (bool_nt h55)
     refine c_seq <| c_region <| g_v rfl (r_eql rfl rfl) <| g_v rfl r_assign <| g_nil <| d_then ?_
     refine c_cond rfl (fun h59 => ?_) (fun h59 => ?_)
     ·
      replace hm := ite_t hm (of_decide_eq_true h59)
      refine c_seq ?_
      refine c_cut (ι := Bool) [1, 3] (fun b64 => [(3, .bool b64)]) (fun b64 => ⟨w0, M, (100010, g1, .cells #[.int .i64 p0.fKind, .int .i64 p0.fNode, .string p0.fName, .string p0.fText, .string p0.fZone, .slice Ap0_0 p0.fHints.length cp0_0] 35 (0, 0)) :: H, R, φ⟩) (fun b64 => m_ref13_Check_j4 p0 b64 = some r) ?_ (fun b64 u hm => ?_)
      ·
       refine c_region <| g_v rfl (r_field (n := 1) Try.underlying35 rfl Try.sizeOf3 rfl rfl) <| g_v rfl (r_load (tag := 100010) rfl rfl rfl Try.isAgg3) <| g_v rfl (r_eql rfl rfl) <| g_v rfl r_move ?_
       refine g_if rfl rfl rfl rfl rfl (fun h94 => ?_) (fun h94 => ?_)
       ·
        replace hm := ite_t hm (of_decide_eq_true h94)
        refine g_v rfl r_move <| g_v rfl (r_pick1 rfl h94) <| g_v rfl r_move ?_
        refine g_if rfl rfl rfl rfl rfl (fun h95 => ?_) (fun h95 => ?_)
        ·
         replace hm := ite_t hm h95
         refine g_v rfl (r_field (n := 4) Try.underlying35 rfl Try.sizeOf9 rfl rfl) <| g_do rfl rfl rfl rfl rfl h95 <| g_v rfl (r_load (tag := 100010) rfl rfl rfl Try.isAgg9) <| g_do rfl rfl rfl rfl rfl h95 <| g_v rfl (r_eqlT rfl rfl) <| g_v rfl (r_pick1 rfl h95) <| g_v rfl r_move ?_
         refine g_if rfl rfl rfl rfl rfl (fun h96 => ?_) (fun h96 => ?_)
         ·
          replace hm := ite_t hm (of_decide_eq_true h96)
          refine g_v rfl (r_field (n := 5) Try.underlying35 rfl Try.sizeOf22 rfl rfl) <| g_do rfl rfl rfl rfl rfl h96 <| g_v rfl (r_load (tag := 100010) rfl rfl rfl Try.isAgg22) <| g_do rfl rfl rfl rfl rfl h96 <| g_v rfl (r_lenL Try.underlying22 rfl) <| g_do rfl rfl rfl rfl rfl h96 <| g_v rfl (r_gtr rfl rfl) <| g_v rfl (r_pick1 rfl h96) <| g_v rfl r_move ?_
          refine g_if rfl rfl rfl rfl rfl (fun h97 => ?_) (fun h97 => ?_)
          ·
           replace hm := ite_t hm (of_decide_eq_true h97)
           refine g_v rfl (r_field (n := 5) Try.underlying35 rfl Try.sizeOf22 rfl rfl) <| g_do rfl rfl rfl rfl rfl h97 <| g_v rfl (r_load (tag := 100010) rfl rfl rfl Try.isAgg22) <| g_do rfl rfl rfl rfl rfl h97 <| g_v rfl (r_lenL Try.underlying22 rfl) <| g_do rfl rfl rfl rfl rfl h97 <| g_v rfl (r_leq rfl rfl) <| g_v rfl (r_pick1 rfl h97) <| g_v rfl r_assign <| g_nil ?_
           exact d_round (decide ((p0.fHints.length : Int) ≤ 13)) hm Nat.zero_lt_one ⟨rfl, rfl, trivial⟩ (fun W h => h.phi (fun W hφ => hφ))
          ·
           replace hm := ite_f hm (of_decide_eq_false h97)
           refine g_no rfl rfl rfl rfl rfl h97 <| g_no rfl rfl rfl rfl rfl h97 <| g_no rfl rfl rfl rfl rfl h97 <| g_v rfl (r_pick0 rfl h97) <| g_v rfl r_assign <| g_nil ?_
           exact d_round false hm Nat.zero_lt_one ⟨rfl, rfl, trivial⟩ (fun W h => h.phi (fun W hφ => hφ))
         ·
          replace hm := ite_f hm (of_decide_eq_false h96)
          refine g_no rfl rfl rfl rfl rfl h96 <| g_no rfl rfl rfl rfl rfl h96 <| g_no rfl rfl rfl rfl rfl h96 <| g_v rfl (r_pick0 rfl h96) <| g_v rfl r_move <| g_no rfl rfl rfl rfl rfl rfl <| g_no rfl rfl rfl rfl rfl rfl <| g_no rfl rfl rfl rfl rfl rfl <| g_no rfl rfl rfl rfl rfl rfl <| g_v rfl (r_pick0 rfl rfl) ?_
          refine g_v rfl r_assign <| g_nil ?_
          exact d_round false hm Nat.zero_lt_one ⟨rfl, rfl, trivial⟩ (fun W h => h.phi (fun W hφ => hφ))
        ·
         replace hm := ite_f hm (bool_nt h95)
         refine g_no rfl rfl rfl rfl rfl h95 <| g_no rfl rfl rfl rfl rfl h95 <| g_v rfl (r_pick0 rfl h95) <| g_v rfl r_move <| g_no rfl rfl rfl rfl rfl rfl <| g_no rfl rfl rfl rfl rfl rfl <| g_no rfl rfl rfl rfl rfl rfl <| g_no rfl rfl rfl rfl rfl rfl <| g_v rfl (r_pick0 rfl rfl) <| g_v rfl r_move ?_
         refine g_no rfl rfl rfl rfl rfl rfl <| g_no rfl rfl rfl rfl rfl rfl <| g_no rfl rfl rfl rfl rfl rfl <| g_no rfl rfl rfl rfl rfl rfl <| g_v rfl (r_pick0 rfl rfl) <| g_v rfl r_assign <| g_nil ?_
         exact d_round false hm Nat.zero_lt_one ⟨rfl, rfl, trivial⟩ (fun W h => h.phi (fun W hφ => hφ))
       ·
        replace hm := ite_f hm (of_decide_eq_false h94)
        refine g_v rfl (r_pick0 rfl h94) <| g_v rfl r_move <| g_no rfl rfl rfl rfl rfl rfl <| g_no rfl rfl rfl rfl rfl rfl <| g_no rfl rfl rfl rfl rfl rfl <| g_v rfl (r_pick0 rfl rfl) <| g_v rfl r_move <| g_no rfl rfl rfl rfl rfl rfl <| g_no rfl rfl rfl rfl rfl rfl <| g_no rfl rfl rfl rfl rfl rfl ?_
        refine g_no rfl rfl rfl rfl rfl rfl <| g_v rfl (r_pick0 rfl rfl) <| g_v rfl r_move <| g_no rfl rfl rfl rfl rfl rfl <| g_no rfl rfl rfl rfl rfl rfl <| g_no rfl rfl rfl rfl rfl rfl <| g_no rfl rfl rfl rfl rfl rfl <| g_v rfl (r_pick0 rfl rfl) <| g_v rfl r_assign <| g_nil ?_
        exact d_round false hm Nat.zero_lt_one ⟨rfl, rfl, trivial⟩ (fun W h => h.phi (fun W hφ => hφ))
      ·
       unfold m_ref13_Check_j4 at hm
       refine d_flat [(1, .pointer (some ⟨g1, 0, none⟩)), (3, .bool b64)] ⟨rfl, rfl, trivial⟩ (fun u => ?_)
       refine d_then <| c_seq <| c_region <| g_v rfl r_assign <| g_nil <| d_then <| c_block ?_
       replace hm := bnd hm
       obtain ⟨out5, hl5, hr5⟩ := hm
       obtain ⟨n84', hl5⟩ := loop_lp hl5
       refine c_loopU (ι := Nat × Bool × Int) [1, 3, 7] (fun ⟨n84, b73, i74⟩ => [(3, .bool b73), (7, .int .i64 i74)]) (fun ⟨n84, b73, i74⟩ => ⟨w0, M, (100010, g1, .cells #[.int .i64 p0.fKind, .int .i64 p0.fNode, .string p0.fName, .string p0.fText, .string p0.fZone, .slice Ap0_0 p0.fHints.length cp0_0] 35 (0, 0)) :: H, R, φ⟩) (fun ⟨n84, b73, i74⟩ => Lp (fun s => m_ref13_Check_s5 p0 s.1 s.2) n84 (b73, i74) out5) (fun ⟨n84, b73, i74⟩ => n84) (n84', b64, 0) hl5 ⟨rfl, rfl, rfl, trivial⟩ (fun W h => h.phi (fun W hφ => hφ)) (fun ⟨n84, b73, i74⟩ u hlp => ?_)
       obtain ⟨o5, hm, hnx5⟩ := lp_step hlp
       clear hlp
       replace hm : m_ref13_Check_s5 p0 b73 i74 = some o5 := hm
       unfold m_ref13_Check_s5 at hm
       refine c_flat [(1, .pointer (some ⟨g1, 0, none⟩)), (3, .bool b73), (7, .int .i64 i74)] ⟨rfl, rfl, rfl, trivial⟩ (fun u => ?_)
       refine c_seq <| c_seq <| c_region <| g_v rfl r_move <| g_v rfl (r_field (n := 5) Try.underlying35 rfl Try.sizeOf22 rfl rfl) <| g_v rfl (r_load (tag := 100010) rfl rfl rfl Try.isAgg22) <| g_v rfl (r_lenL Try.underlying22 rfl) <| g_v rfl (r_lss rfl rfl) <| g_v rfl r_move ?_
       refine g_if rfl rfl rfl rfl rfl (fun h85 => ?_) (fun h85 => ?_)
       ·
        replace hm := ite_t hm (of_decide_eq_true h85)
        refine g_v rfl r_move <| g_do rfl rfl rfl rfl rfl h85 <| g_v rfl (r_lss rfl rfl) <| g_v rfl (r_pick1 rfl h85) <| g_nil <| d_then ?_
        refine c_flat [(1, .pointer (some ⟨g1, 0, none⟩)), (3, .bool b73), (7, .int .i64 i74), (78, .bool (decide (i74 < 13)))] ⟨rfl, rfl, rfl, rfl, trivial⟩ (fun u => ?_)
        refine c_cond rfl (fun h86 => ?_) (fun h86 => ?_)
        ·
         replace hm := ite_t hm (of_decide_eq_true h86)
         refine c_skip <| d_then <| c_seq <| c_block <| c_region <| g_v rfl r_move <| g_v rfl r_move ?_
         refine g_if rfl rfl rfl rfl rfl (fun h87 => ?_) (fun h87 => ?_)
         ·
          replace hm := ite_t hm h87
          refine g_v rfl (r_field (n := 5) Try.underlying35 rfl Try.sizeOf22 rfl rfl) <| g_do rfl rfl rfl rfl rfl h87 <| g_v rfl (r_load (tag := 100010) rfl rfl rfl Try.isAgg22) <| g_do rfl rfl rfl rfl rfl h87 <| g_v rfl r_move <| g_do rfl rfl rfl rfl rfl h87 ?_
          replace hm := bnd hm
          obtain ⟨x88, hx88, hm⟩ := hm
          refine g_know _ (fun W hS => cl_at (p := (Sta.mk w0 M H R φ).ok) (sz := 1) (fun _ => rfl) (by decide) (ok_pre (H1 := [_]) (R1 := []) hS (fun W h => h)) fp0_0 hx88) ?_
          rintro ⟨ad89, hA91, f90⟩
          refine g_v rfl (r_ix Try.underlying22 Try.sizeOf9 rfl hA91 rfl hx88) <| g_do rfl rfl rfl rfl rfl h87 <| g_v rfl (r_ld rfl Try.isAgg9 (fun W hS => Cl.head (f90 W (ok_pre (H1 := [_]) (R1 := []) hS (fun W h => h))))) <| g_do rfl rfl rfl rfl rfl h87 <| g_v rfl (r_len Try.underlying9 rfl) <| g_do rfl rfl rfl rfl rfl h87 <| g_v rfl (r_eql rfl rfl) <| g_v rfl (r_pick1 rfl h87) <| g_v rfl r_assign <| g_nil ?_
          refine d_normal_block <| d_then ?_
          refine c_flat [(1, .pointer (some ⟨g1, 0, none⟩)), (3, .bool (decide ((x88.size : Int) = 4))), (7, .int .i64 i74)] ⟨rfl, rfl, rfl, trivial⟩ (fun u => ?_)
          refine c_region <| g_v rfl r_move <| g_v rfl (r_add rfl rfl rfl) <| g_v rfl r_assign <| g_nil ?_
          obtain ⟨n92, hn92, hlp⟩ := nx_inl hm hnx5
          exact d_round (n92, decide ((x88.size : Int) = 4), w64 (i74 + 1)) hlp hn92 ⟨rfl, rfl, rfl, trivial⟩ (fun W h => h.phi (fun W hφ => hφ))
         ·
          replace hm := ite_f hm (bool_nt h87)
          refine g_no rfl rfl rfl rfl rfl h87 <| g_no rfl rfl rfl rfl rfl h87 <| g_no rfl rfl rfl rfl rfl h87 <| g_no rfl rfl rfl rfl rfl h87 <| g_no rfl rfl rfl rfl rfl h87 <| g_no rfl rfl rfl rfl rfl h87 <| g_v rfl (r_pick0 rfl h87) <| g_v rfl r_assign <| g_nil <| d_normal_block ?_
          refine d_then <| c_region <| g_v rfl r_move <| g_v rfl (r_add rfl rfl rfl) <| g_v rfl r_assign <| g_nil ?_
          obtain ⟨n93, hn93, hlp⟩ := nx_inl hm hnx5
          exact d_round (n93, false, w64 (i74 + 1)) hlp hn93 ⟨rfl, rfl, rfl, trivial⟩ (fun W h => h.phi (fun W hφ => hφ))
        ·
         replace hm := ite_f hm (of_decide_eq_false h86)
         refine c_exit <| d_exit_then <| d_exit_then <| d_exit_block <| d_normal_block ?_
         replace hm := nx_out (C := (fun e : Bool => m_ref13_Check_j2 e = some r)) hm hnx5 hr5
         exact d_round b73 hm Nat.zero_lt_one ⟨rfl, trivial⟩ (fun W h => (h.dropH (t := 100010) rfl).phi (fun W hφ => hφ))
       ·
        replace hm := ite_f hm (of_decide_eq_false h85)
        refine g_no rfl rfl rfl rfl rfl h85 <| g_v rfl (r_pick0 rfl h85) <| g_nil <| d_then <| c_cond0 rfl rfl <| c_exit <| d_exit_then <| d_exit_then <| d_exit_block <| d_normal_block ?_
        replace hm := nx_out (C := (fun e : Bool => m_ref13_Check_j2 e = some r)) hm hnx5 hr5
        exact d_round b73 hm Nat.zero_lt_one ⟨rfl, trivial⟩ (fun W h => (h.dropH (t := 100010) rfl).phi (fun W hφ => hφ))
     ·
      replace hm := ite_f hm (of_decide_eq_false h59)
      refine c_seq <| c_region <| g_v rfl (r_eql rfl rfl) <| g_v rfl r_assign <| g_nil <| d_then ?_
      refine c_cond rfl (fun h98 => ?_) (fun h98 => ?_)
      ·
       replace hm := ite_t hm (of_decide_eq_true h98)
       refine c_region <| g_v rfl (r_field (n := 1) Try.underlying35 rfl Try.sizeOf3 rfl rfl) <| g_v rfl (r_load (tag := 100010) rfl rfl rfl Try.isAgg3) <| g_v rfl (r_eql rfl rfl) <| g_v rfl r_move ?_
       refine g_if rfl rfl rfl rfl rfl (fun h99 => ?_) (fun h99 => ?_)
       ·
        replace hm := ite_t hm (of_decide_eq_true h99)
        refine g_v rfl r_move <| g_v rfl (r_pick1 rfl h99) <| g_v rfl r_move ?_
        refine g_if rfl rfl rfl rfl rfl (fun h100 => ?_) (fun h100 => ?_)
        ·
         replace hm := ite_t hm h100
         refine g_v rfl (r_field (n := 3) Try.underlying35 rfl Try.sizeOf9 rfl rfl) <| g_do rfl rfl rfl rfl rfl h100 <| g_v rfl (r_load (tag := 100010) rfl rfl rfl Try.isAgg9) <| g_do rfl rfl rfl rfl rfl h100 <| g_v rfl (r_len Try.underlying9 rfl) <| g_do rfl rfl rfl rfl rfl h100 <| g_v rfl (r_leq rfl rfl) <| g_v rfl (r_pick1 rfl h100) <| g_v rfl r_move ?_
         refine g_if rfl rfl rfl rfl rfl (fun h101 => ?_) (fun h101 => ?_)
         ·
          replace hm := ite_t hm (of_decide_eq_true h101)
          refine g_v rfl (r_field (n := 4) Try.underlying35 rfl Try.sizeOf9 rfl rfl) <| g_do rfl rfl rfl rfl rfl h101 <| g_v rfl (r_load (tag := 100010) rfl rfl rfl Try.isAgg9) <| g_do rfl rfl rfl rfl rfl h101 <| g_v rfl (r_eqlT rfl rfl) <| g_v rfl (r_pick1 rfl h101) <| g_v rfl r_move ?_
          refine g_if rfl rfl rfl rfl rfl (fun h102 => ?_) (fun h102 => ?_)
          ·
           replace hm := ite_t hm (of_decide_eq_true h102)
           refine g_v rfl (r_field (n := 5) Try.underlying35 rfl Try.sizeOf22 rfl rfl) <| g_do rfl rfl rfl rfl rfl h102 <| g_v rfl (r_load (tag := 100010) rfl rfl rfl Try.isAgg22) <| g_do rfl rfl rfl rfl rfl h102 <| g_v rfl (r_lenL Try.underlying22 rfl) <| g_do rfl rfl rfl rfl rfl h102 <| g_v rfl (r_eql rfl rfl) <| g_v rfl (r_pick1 rfl h102) <| g_v rfl r_assign <| g_nil ?_
           refine d_normal_block ?_
           exact d_round (decide ((p0.fHints.length : Int) = 0)) hm Nat.zero_lt_one ⟨rfl, trivial⟩ (fun W h => (h.dropH (t := 100010) rfl).phi (fun W hφ => hφ))
          ·
           replace hm := ite_f hm (of_decide_eq_false h102)
           refine g_no rfl rfl rfl rfl rfl h102 <| g_no rfl rfl rfl rfl rfl h102 <| g_no rfl rfl rfl rfl rfl h102 <| g_v rfl (r_pick0 rfl h102) <| g_v rfl r_assign <| g_nil <| d_normal_block ?_
           exact d_round false hm Nat.zero_lt_one ⟨rfl, trivial⟩ (fun W h => (h.dropH (t := 100010) rfl).phi (fun W hφ => hφ))
         ·
          replace hm := ite_f hm (of_decide_eq_false h101)
          refine g_no rfl rfl rfl rfl rfl h101 <| g_no rfl rfl rfl rfl rfl h101 <| g_v rfl (r_pick0 rfl h101) <| g_v rfl r_move <| g_no rfl rfl rfl rfl rfl rfl <| g_no rfl rfl rfl rfl rfl rfl <| g_no rfl rfl rfl rfl rfl rfl <| g_no rfl rfl rfl rfl rfl rfl <| g_v rfl (r_pick0 rfl rfl) <| g_v rfl r_assign ?_
          refine g_nil <| d_normal_block ?_
          exact d_round false hm Nat.zero_lt_one ⟨rfl, trivial⟩ (fun W h => (h.dropH (t := 100010) rfl).phi (fun W hφ => hφ))
        ·
         replace hm := ite_f hm (bool_nt h100)
         refine g_no rfl rfl rfl rfl rfl h100 <| g_no rfl rfl rfl rfl rfl h100 <| g_no rfl rfl rfl rfl rfl h100 <| g_v rfl (r_pick0 rfl h100) <| g_v rfl r_move <| g_no rfl rfl rfl rfl rfl rfl <| g_no rfl rfl rfl rfl rfl rfl <| g_no rfl rfl rfl rfl rfl rfl <| g_v rfl (r_pick0 rfl rfl) <| g_v rfl r_move ?_
         refine g_no rfl rfl rfl rfl rfl rfl <| g_no rfl rfl rfl rfl rfl rfl <| g_no rfl rfl rfl rfl rfl rfl <| g_no rfl rfl rfl rfl rfl rfl <| g_v rfl (r_pick0 rfl rfl) <| g_v rfl r_assign <| g_nil <| d_normal_block ?_
         exact d_round false hm Nat.zero_lt_one ⟨rfl, trivial⟩ (fun W h => (h.dropH (t := 100010) rfl).phi (fun W hφ => hφ))
       ·
        replace hm := ite_f hm (of_decide_eq_false h99)
        refine g_v rfl (r_pick0 rfl h99) <| g_v rfl r_move <| g_no rfl rfl rfl rfl rfl rfl <| g_no rfl rfl rfl rfl rfl rfl <| g_no rfl rfl rfl rfl rfl rfl <| g_no rfl rfl rfl rfl rfl rfl <| g_v rfl (r_pick0 rfl rfl) <| g_v rfl r_move <| g_no rfl rfl rfl rfl rfl rfl <| g_no rfl rfl rfl rfl rfl rfl ?_
        refine g_no rfl rfl rfl rfl rfl rfl <| g_v rfl (r_pick0 rfl rfl) <| g_v rfl r_move <| g_no rfl rfl rfl rfl rfl rfl <| g_no rfl rfl rfl rfl rfl rfl <| g_no rfl rfl rfl rfl rfl rfl <| g_no rfl rfl rfl rfl rfl rfl <| g_v rfl (r_pick0 rfl rfl) <| g_v rfl r_assign <| g_nil ?_
        refine d_normal_block ?_
        exact d_round false hm Nat.zero_lt_one ⟨rfl, trivial⟩ (fun W h => (h.dropH (t := 100010) rfl).phi (fun W hφ => hφ))
      ·
       replace hm := ite_f hm (of_decide_eq_false h98)
       refine c_seq <| c_region <| g_v rfl (r_eql rfl rfl) <| g_v rfl r_assign <| g_nil <| d_then ?_
       refine c_cond rfl (fun h103 => ?_) (fun h103 => ?_)
       ·
        replace hm := ite_t hm (of_decide_eq_true h103)
        refine c_region <| g_v rfl (r_field (n := 1) Try.underlying35 rfl Try.sizeOf3 rfl rfl) <| g_v rfl (r_load (tag := 100010) rfl rfl rfl Try.isAgg3) <| g_v rfl (r_eql rfl rfl) <| g_v rfl r_move ?_
        refine g_if rfl rfl rfl rfl rfl (fun h104 => ?_) (fun h104 => ?_)
        ·
         replace hm := ite_t hm (of_decide_eq_true h104)
         refine g_v rfl r_move <| g_v rfl (r_pick1 rfl h104) <| g_v rfl r_move ?_
         refine g_if rfl rfl rfl rfl rfl (fun h105 => ?_) (fun h105 => ?_)
         ·
          replace hm := ite_t hm h105
          refine g_v rfl r_move <| g_v rfl (r_pick1 rfl h105) <| g_v rfl r_move ?_
          refine g_if rfl rfl rfl rfl rfl (fun h106 => ?_) (fun h106 => ?_)
          ·
           replace hm := ite_t hm h106
           refine g_v rfl (r_field (n := 5) Try.underlying35 rfl Try.sizeOf22 rfl rfl) <| g_do rfl rfl rfl rfl rfl h106 <| g_v rfl (r_load (tag := 100010) rfl rfl rfl Try.isAgg22) <| g_do rfl rfl rfl rfl rfl h106 <| g_v rfl (r_lenL Try.underlying22 rfl) <| g_do rfl rfl rfl rfl rfl h106 <| g_v rfl (r_eql rfl rfl) <| g_v rfl (r_pick1 rfl h106) <| g_v rfl r_assign <| g_nil ?_
           refine d_normal_block ?_
           exact d_round (decide ((p0.fHints.length : Int) = 0)) hm Nat.zero_lt_one ⟨rfl, trivial⟩ (fun W h => (h.dropH (t := 100010) rfl).phi (fun W hφ => hφ))
          ·
           replace hm := ite_f hm (bool_nt h106)
           refine g_no rfl rfl rfl rfl rfl h106 <| g_no rfl rfl rfl rfl rfl h106 <| g_no rfl rfl rfl rfl rfl h106 <| g_v rfl (r_pick0 rfl h106) <| g_v rfl r_assign <| g_nil <| d_normal_block ?_
           exact d_round false hm Nat.zero_lt_one ⟨rfl, trivial⟩ (fun W h => (h.dropH (t := 100010) rfl).phi (fun W hφ => hφ))
         ·
          replace hm := ite_f hm (bool_nt h105)
          refine g_v rfl (r_pick0 rfl h105) <| g_v rfl r_move <| g_no rfl rfl rfl rfl rfl rfl <| g_no rfl rfl rfl rfl rfl rfl <| g_no rfl rfl rfl rfl rfl rfl <| g_no rfl rfl rfl rfl rfl rfl <| g_v rfl (r_pick0 rfl rfl) <| g_v rfl r_assign <| g_nil <| d_normal_block ?_
          exact d_round false hm Nat.zero_lt_one ⟨rfl, trivial⟩ (fun W h => (h.dropH (t := 100010) rfl).phi (fun W hφ => hφ))
        ·
         replace hm := ite_f hm (of_decide_eq_false h104)
         refine g_v rfl (r_pick0 rfl h104) <| g_v rfl r_move <| g_no rfl rfl rfl rfl rfl rfl <| g_v rfl (r_pick0 rfl rfl) <| g_v rfl r_move <| g_no rfl rfl rfl rfl rfl rfl <| g_no rfl rfl rfl rfl rfl rfl <| g_no rfl rfl rfl rfl rfl rfl <| g_no rfl rfl rfl rfl rfl rfl <| g_v rfl (r_pick0 rfl rfl) ?_
         refine g_v rfl r_assign <| g_nil <| d_normal_block ?_
         exact d_round false hm Nat.zero_lt_one ⟨rfl, trivial⟩ (fun W h => (h.dropH (t := 100010) rfl).phi (fun W hφ => hφ))
       ·
        replace hm := ite_f hm (of_decide_eq_false h103)
        refine c_region <| g_v rfl r_assign <| g_nil <| d_normal_block ?_
        exact d_round false hm Nat.zero_lt_one ⟨rfl, trivial⟩ (fun W h => (h.dropH (t := 100010) rfl).phi (fun W hφ => hφ))
  ·
   unfold m_ref13_Check_j2 at hm
   refine d_flat [(3, .bool b51)] ⟨rfl, trivial⟩ (fun u => ?_)
   refine d_sta ⟨w0, M, H, R, φ⟩ (fun _ h => h) <| d_then <| c_seq <| c_seq <| c_region <| g_v rfl r_move <| g_v rfl (r_not rfl) <| g_nil <| d_then ?_
   refine c_cond rfl (fun h52 => ?_) (fun h52 => ?_)
   ·
    have h52' : b51 = false := by revert h52; cases b51 <;> simp
    replace hm := ite_f hm (bool_nt h52')
    refine c_seq <| c_region <| g_v rfl r_assign <| g_nil <| d_then <| c_ret <| d_ret_then ?_
    replace hm := Option.some.inj hm
    subst hm
    refine d_retC () Try.results21 ?_ trivial (fun W h => ok_pre (H1 := []) (R1 := []) h (fun W hφ => hφ)) (.inr rfl)
    refine res_tmp <| res_nil ?_
    exact rfl
   ·
    have h52' : b51 = true := by revert h52; cases b51 <;> simp
    replace hm := ite_t hm h52'
    refine c_skip <| d_then <| c_seq <| c_region <| g_v rfl r_assign <| g_nil <| d_then <| c_ret ?_
    replace hm := Option.some.inj hm
    subst hm
    refine d_retC () Try.results21 ?_ trivial (fun W h => ok_pre (H1 := []) (R1 := []) h (fun W hφ => hφ)) (.inr rfl)
    refine res_tmp <| res_nil ?_
    exact rfl
noncomputable def m_ref13_Bytes_j2  (s31 : ByteArray) : Option (ByteArray × Int) :=
  some (s31, 0)
noncomputable def m_ref13_Bytes_s3 (p0 : GOrder) (s40 : ByteArray) (i41 : Int) : Option ((ByteArray × Int) ⊕ ByteArray) :=
  if i41 < (p0.fHints.length : Int) then
    (at_ p0.fHints i41).bind fun x52 =>
    (sadd s40 x52).bind fun s56 =>
    some (.inl (s56, w64 (i41 + 1)))
  else
    some (.inr s40)
noncomputable def m_ref13_Bytes_j1 (p0 : GOrder) (b7 : Bool) : Option (ByteArray × Int) :=
  if b7 = true then
    (sadd (strOfNums [IntKind.u8.wrap p0.fKind]) (strOfNums [IntKind.u8.wrap p0.fNode])).bind fun s10 =>
    some (s10, 0)
  else
    if p0.fKind = 3 then
      (loop (fun s => m_ref13_Bytes_s3 p0 s.1 s.2) (strOfNums [IntKind.u8.wrap p0.fKind], 0)).bind fun e => m_ref13_Bytes_j2 e
    else
      if p0.fKind = 4 then
        (sadd (strOfNums [IntKind.u8.wrap p0.fKind]) p0.fName).bind fun s59 =>
        (sadd s59 p0.fText).bind fun s60 =>
        some (s60, 0)
      else
        (sadd (strOfNums [IntKind.u8.wrap p0.fKind]) p0.fZone).bind fun s61 =>
        some (s61, 0)
noncomputable def m_ref13_Bytes (p0 : GOrder) : Option (ByteArray × Int) :=
  (m_ref13_Check p0).bind fun x2 =>
  if x2 ≠ 0 then
    some ((⟨#[]⟩ : ByteArray), x2)
  else
    if p0.fKind = 1 then
      m_ref13_Bytes_j1 p0 (decide (p0.fKind = 1))
    else
      m_ref13_Bytes_j1 p0 (decide (p0.fKind = 2))
theorem c_ref13_Bytes {w0 : World} {M : Nat → Prop} {H : List (Nat × Nat × Obj)} {R : List (Nat × Row)} {φ : World → Prop} (p0 : GOrder) (Ap0_0 : Option Addr) (cp0_0 : Nat) (hcp0_0 : p0.fHints.length ≤ cp0_0) (fp0_0 : ∀ W, (Sta.mk w0 M H R φ).ok W → Cl W Ap0_0 (p0.fHints.flatMap (fun x : ByteArray => [Value.string x]))) (r : ByteArray × Int) (hm : m_ref13_Bytes p0 = some r) :
    Cn Try.prog 16 #[.agg #[.int .i64 p0.fKind, .int .i64 p0.fNode, .string p0.fName, .string p0.fText, .string p0.fZone, .slice Ap0_0 p0.fHints.length cp0_0]] ⟨w0, M, H, R, φ⟩ (fun x : Unit => .tuple #[.string r.1, .int .i64 r.2]) (fun x => True) (fun x => ⟨w0, M, H, R, φ⟩) := by
 unfold m_ref13_Bytes at hm
 refine cn_intro (fn := Try.f16) (N := 59) Try.func16 rfl Try.ntmps16 rfl <| c_seq <| c_region ?_
 refine g_e rfl (e_box 100010 rfl) (fun g1 _ => ?_)
 refine g_v rfl r_assign <| g_v rfl r_assign <| g_nil <| d_then <| c_seq <| c_region <| g_v rfl (r_loadA (tag := 100010) rfl rfl Try.isAgg35 Try.sizeOf35 rfl rfl) ?_
 replace hm := bnd hm
 obtain ⟨x2, hx3, hm⟩ := hm
 refine g_cn ⟨w0, M, _, _, φ⟩ (fun _ h => h) Try.call21 rfl rfl (c_ref13_Check p0 Ap0_0 cp0_0 hcp0_0 (fun W hS => fp0_0 W (ok_pre (H1 := [_]) (R1 := []) hS (fun W h => h))) _ hx3) (fun _ _ => ?_)
 refine g_v rfl r_assign <| g_nil <| d_then <| c_seq <| c_seq <| c_region <| g_v rfl r_move <| g_v rfl (r_neq rfl rfl) <| g_nil <| d_then ?_
 refine c_cond rfl (fun h4 => ?_) (fun h4 => ?_)
 ·
  replace hm := ite_t hm (of_decide_eq_true h4)
  refine c_seq <| c_region <| g_v rfl r_move <| g_v rfl r_assign <| g_v rfl r_assign <| g_nil <| d_then ?_
  refine c_flat [(2, .string (⟨#[]⟩ : ByteArray)), (3, .int .i64 x2)] ⟨rfl, rfl, trivial⟩ (fun u => ?_)
  refine c_sta ⟨w0, M, (100010, g1, .cells #[.int .i64 p0.fKind, .int .i64 p0.fNode, .string p0.fName, .string p0.fText, .string p0.fZone, .slice Ap0_0 p0.fHints.length cp0_0] 35 (0, 0)) :: H, R, φ⟩ (fun _ h => h) <| c_ret <| d_ret_then ?_
  replace hm := Option.some.inj hm
  subst hm
  refine d_retC () Try.results16 ?_ trivial (fun W h => ok_pre (H1 := [_]) (R1 := []) h (fun W hφ => hφ)) (.inr rfl)
  refine res_tmp <| res_tmp <| res_nil ?_
  exact rfl
 ·
  replace hm := ite_f hm (of_decide_eq_false h4)
  refine c_skip <| d_then <| c_seq <| c_region <| g_v rfl (r_field (n := 0) Try.underlying35 rfl Try.sizeOf3 rfl rfl) <| g_v rfl (r_load (tag := 100010) rfl rfl rfl Try.isAgg3) <| g_v rfl (r_conv Try.underlying3 Try.underlying5 rfl rfl) ?_
  refine g_e rfl (e_lit (tag := 100150) (l := [IntKind.u8.wrap p0.fKind]) (enc := (fun x : Int => [Value.int .u8 x])) (sz := 1) rfl Try.underlying79 (lit5_3 _) rfl rfl (fun _ => rfl)) (fun g5 _ => ?_)
  refine g_v rfl (r_textE Try.underlying79 Try.underlying5 Try.underlying9 rfl (fun W hS => rowCl (tag := 100150) rfl W hS)) <| g_v rfl r_assign <| g_nil <| d_then ?_
  refine c_flat [(1, .pointer (some ⟨g1, 0, none⟩)), (5, .string (strOfNums [IntKind.u8.wrap p0.fKind]))] ⟨rfl, rfl, trivial⟩ (fun u => ?_)
  refine c_sta ⟨w0, M, (100010, g1, .cells #[.int .i64 p0.fKind, .int .i64 p0.fNode, .string p0.fName, .string p0.fText, .string p0.fZone, .slice Ap0_0 p0.fHints.length cp0_0] 35 (0, 0)) :: H, (100150, ⟨.slice (some ⟨g5, 0, none⟩) [IntKind.u8.wrap p0.fKind].length 1, 5, 1, [IntKind.u8.wrap p0.fKind].length, [IntKind.u8.wrap p0.fKind].flatMap (fun x : Int => [Value.int .u8 x])⟩) :: R, φ⟩ (fun _ h => h) <| c_seq <| c_seq <| c_region <| g_v rfl (r_field (n := 0) Try.underlying35 rfl Try.sizeOf3 rfl rfl) <| g_v rfl (r_load (tag := 100010) rfl rfl rfl Try.isAgg3) <| g_nil <| d_then <| c_block <| c_seq ?_
  refine c_cut (ι := Bool) [1, 5, 18, 19] (fun b7 => [(19, .bool b7)]) (fun b7 => ⟨w0, M, (100010, g1, .cells #[.int .i64 p0.fKind, .int .i64 p0.fNode, .string p0.fName, .string p0.fText, .string p0.fZone, .slice Ap0_0 p0.fHints.length cp0_0] 35 (0, 0)) :: H, R, φ⟩) (fun b7 => m_ref13_Bytes_j1 p0 b7 = some r) ?_ (fun b7 u hm => ?_)
  ·
   refine c_seq <| c_region <| g_v rfl (r_eql rfl rfl) <| g_v rfl r_assign <| g_nil <| d_then ?_
   refine c_cond rfl (fun h62 => ?_) (fun h62 => ?_)
   ·
    replace hm := ite_t hm (of_decide_eq_true h62)
    refine c_skip ?_
    exact d_round (decide (p0.fKind = 1)) hm Nat.zero_lt_one ⟨rfl, rfl, rfl, rfl, trivial⟩ (fun W h => (h.dropR (t := 100150) rfl).phi (fun W hφ => hφ))
   ·
    replace hm := ite_f hm (of_decide_eq_false h62)
    refine c_region <| g_v rfl (r_eql rfl rfl) <| g_v rfl r_assign <| g_nil ?_
    exact d_round (decide (p0.fKind = 2)) hm Nat.zero_lt_one ⟨rfl, rfl, rfl, rfl, trivial⟩ (fun W h => (h.dropR (t := 100150) rfl).phi (fun W hφ => hφ))
  ·
   unfold m_ref13_Bytes_j1 at hm
   refine d_flat [(1, .pointer (some ⟨g1, 0, none⟩)), (5, .string (strOfNums [IntKind.u8.wrap p0.fKind])), (18, .int .i64 p0.fKind), (19, .bool b7)] ⟨rfl, rfl, rfl, rfl, trivial⟩ (fun u => ?_)
   refine d_sta ⟨w0, M, (100010, g1, .cells #[.int .i64 p0.fKind, .int .i64 p0.fNode, .string p0.fName, .string p0.fText, .string p0.fZone, .slice Ap0_0 p0.fHints.length cp0_0] 35 (0, 0)) :: H, R, φ⟩ (fun _ h => h) <| d_then ?_
   refine c_cond rfl (fun h8 => ?_) (fun h8 => ?_)
   ·
    replace hm := ite_t hm h8
    refine c_seq <| c_region <| g_v rfl r_move <| g_v rfl (r_field (n := 1) Try.underlying35 rfl Try.sizeOf3 rfl rfl) <| g_v rfl (r_load (tag := 100010) rfl rfl rfl Try.isAgg3) <| g_v rfl (r_conv Try.underlying3 Try.underlying5 rfl rfl) ?_
    refine g_e rfl (e_lit (tag := 100260) (l := [IntKind.u8.wrap p0.fNode]) (enc := (fun x : Int => [Value.int .u8 x])) (sz := 1) rfl Try.underlying79 (lit5_3 _) rfl rfl (fun _ => rfl)) (fun g9 _ => ?_)
    refine g_v rfl (r_textE Try.underlying79 Try.underlying5 Try.underlying9 rfl (fun W hS => rowCl (tag := 100260) rfl W hS)) ?_
    replace hm := bnd hm
    obtain ⟨s10, hs10, hm⟩ := hm
    refine g_v rfl (r_addT rfl rfl hs10) <| g_v rfl r_assign <| g_v rfl r_assign <| g_nil <| d_then ?_
    refine c_flat [(2, .string s10), (3, .int .i64 0)] ⟨rfl, rfl, trivial⟩ (fun u => ?_)
    refine c_sta ⟨w0, M, (100010, g1, .cells #[.int .i64 p0.fKind, .int .i64 p0.fNode, .string p0.fName, .string p0.fText, .string p0.fZone, .slice Ap0_0 p0.fHints.length cp0_0] 35 (0, 0)) :: H, (100260, ⟨.slice (some ⟨g9, 0, none⟩) [IntKind.u8.wrap p0.fNode].length 1, 5, 1, [IntKind.u8.wrap p0.fNode].length, [IntKind.u8.wrap p0.fNode].flatMap (fun x : Int => [Value.int .u8 x])⟩) :: R, φ⟩ (fun _ h => h) <| c_ret <| d_ret_block <| d_ret_then ?_
    replace hm := Option.some.inj hm
    subst hm
    refine d_retC () Try.results16 ?_ trivial (fun W h => ok_pre (H1 := [_]) (R1 := [_]) h (fun W hφ => hφ)) (.inr rfl)
    refine res_tmp <| res_tmp <| res_nil ?_
    exact rfl
   ·
    replace hm := ite_f hm (bool_nt h8)
    refine c_seq <| c_region <| g_v rfl (r_eql rfl rfl) <| g_v rfl r_assign <| g_nil <| d_then ?_
    refine c_cond rfl (fun h11 => ?_) (fun h11 => ?_)
    ·
     replace hm := ite_t hm (of_decide_eq_true h11)
     refine c_seq <| c_seq <| c_region <| g_v rfl r_assign <| g_nil <| d_then ?_
     refine c_cut (ι := ByteArray) [5] (fun s31 => [(5, .string s31)]) (fun s31 => ⟨w0, M, H, R, φ⟩) (fun s31 => m_ref13_Bytes_j2 s31 = some r) ?_ (fun s31 u hm => ?_)
     ·
      refine c_block ?_
      replace hm := bnd hm
      obtain ⟨out3, hl3, hr3⟩ := hm
      obtain ⟨n50', hl3⟩ := loop_lp hl3
      refine c_loopU (ι := Nat × ByteArray × Int) [1, 5, 6] (fun ⟨n50, s40, i41⟩ => [(5, .string s40), (6, .int .i64 i41)]) (fun ⟨n50, s40, i41⟩ => ⟨w0, M, (100010, g1, .cells #[.int .i64 p0.fKind, .int .i64 p0.fNode, .string p0.fName, .string p0.fText, .string p0.fZone, .slice Ap0_0 p0.fHints.length cp0_0] 35 (0, 0)) :: H, R, φ⟩) (fun ⟨n50, s40, i41⟩ => Lp (fun s => m_ref13_Bytes_s3 p0 s.1 s.2) n50 (s40, i41) out3) (fun ⟨n50, s40, i41⟩ => n50) (n50', strOfNums [IntKind.u8.wrap p0.fKind], 0) hl3 ⟨rfl, rfl, rfl, trivial⟩ (fun W h => h.phi (fun W hφ => hφ)) (fun ⟨n50, s40, i41⟩ u hlp => ?_)
      obtain ⟨o3, hm, hnx3⟩ := lp_step hlp
      clear hlp
      replace hm : m_ref13_Bytes_s3 p0 s40 i41 = some o3 := hm
      unfold m_ref13_Bytes_s3 at hm
      refine c_flat [(1, .pointer (some ⟨g1, 0, none⟩)), (5, .string s40), (6, .int .i64 i41)] ⟨rfl, rfl, rfl, trivial⟩ (fun u => ?_)
      refine c_seq <| c_seq <| c_region <| g_v rfl r_move <| g_v rfl (r_field (n := 5) Try.underlying35 rfl Try.sizeOf22 rfl rfl) <| g_v rfl (r_load (tag := 100010) rfl rfl rfl Try.isAgg22) <| g_v rfl (r_lenL Try.underlying22 rfl) <| g_v rfl (r_lss rfl rfl) <| g_nil <| d_then ?_
      refine c_cond rfl (fun h51 => ?_) (fun h51 => ?_)
      ·
       replace hm := ite_t hm (of_decide_eq_true h51)
       refine c_skip <| d_then <| c_seq <| c_block <| c_region <| g_v rfl r_move <| g_v rfl (r_field (n := 5) Try.underlying35 rfl Try.sizeOf22 rfl rfl) <| g_v rfl (r_load (tag := 100010) rfl rfl rfl Try.isAgg22) <| g_v rfl r_move ?_
       replace hm := bnd hm
       obtain ⟨x52, hx52, hm⟩ := hm
       refine g_know _ (fun W hS => cl_at (p := (Sta.mk w0 M H R φ).ok) (sz := 1) (fun _ => rfl) (by decide) (ok_pre (H1 := [_]) (R1 := []) hS (fun W h => h)) fp0_0 hx52) ?_
       rintro ⟨ad53, hA55, f54⟩
       refine g_v rfl (r_ix Try.underlying22 Try.sizeOf9 rfl hA55 rfl hx52) <| g_v rfl (r_ld rfl Try.isAgg9 (fun W hS => Cl.head (f54 W (ok_pre (H1 := [_]) (R1 := []) hS (fun W h => h))))) ?_
       replace hm := bnd hm
       obtain ⟨s56, hs56, hm⟩ := hm
       refine g_v rfl (r_addT rfl rfl hs56) <| g_v rfl r_assign <| g_nil <| d_normal_block <| d_then ?_
       refine c_flat [(1, .pointer (some ⟨g1, 0, none⟩)), (5, .string s56), (6, .int .i64 i41)] ⟨rfl, rfl, rfl, trivial⟩ (fun u => ?_)
       refine c_region <| g_v rfl r_move <| g_v rfl (r_add rfl rfl rfl) <| g_v rfl r_assign <| g_nil ?_
       obtain ⟨n57, hn57, hlp⟩ := nx_inl hm hnx3
       exact d_round (n57, s56, w64 (i41 + 1)) hlp hn57 ⟨rfl, rfl, rfl, trivial⟩ (fun W h => h.phi (fun W hφ => hφ))
      ·
       replace hm := ite_f hm (of_decide_eq_false h51)
       refine c_exit <| d_exit_then <| d_exit_then <| d_exit_block ?_
       replace hm := nx_out (C := (fun e : ByteArray => m_ref13_Bytes_j2 e = some r)) hm hnx3 hr3
       exact d_round s40 hm Nat.zero_lt_one ⟨rfl, trivial⟩ (fun W h => (h.dropH (t := 100010) rfl).phi (fun W hφ => hφ))
     ·
      unfold m_ref13_Bytes_j2 at hm
      refine d_flat [(5, .string s31)] ⟨rfl, trivial⟩ (fun u => ?_)
      refine d_sta ⟨w0, M, H, R, φ⟩ (fun _ h => h) <| d_then <| c_seq <| c_region <| g_v rfl r_move <| g_v rfl r_assign <| g_v rfl r_assign <| g_nil <| d_then <| c_ret ?_
      refine d_ret_block <| d_ret_then ?_
      replace hm := Option.some.inj hm
      subst hm
      refine d_retC () Try.results16 ?_ trivial (fun W h => ok_pre (H1 := []) (R1 := []) h (fun W hφ => hφ)) (.inr rfl)
      refine res_tmp <| res_tmp <| res_nil ?_
      exact rfl
    ·
     replace hm := ite_f hm (of_decide_eq_false h11)
     refine c_seq <| c_region <| g_v rfl (r_eql rfl rfl) <| g_v rfl r_assign <| g_nil <| d_then ?_
     refine c_cond rfl (fun h58 => ?_) (fun h58 => ?_)
     ·
      replace hm := ite_t hm (of_decide_eq_true h58)
      refine c_seq <| c_region <| g_v rfl r_move <| g_v rfl (r_field (n := 2) Try.underlying35 rfl Try.sizeOf9 rfl rfl) <| g_v rfl (r_load (tag := 100010) rfl rfl rfl Try.isAgg9) ?_
      replace hm := bnd hm
      obtain ⟨s59, hs59, hm⟩ := hm
      refine g_v rfl (r_addT rfl rfl hs59) <| g_v rfl (r_field (n := 3) Try.underlying35 rfl Try.sizeOf9 rfl rfl) <| g_v rfl (r_load (tag := 100010) rfl rfl rfl Try.isAgg9) ?_
      replace hm := bnd hm
      obtain ⟨s60, hs60, hm⟩ := hm
      refine g_v rfl (r_addT rfl rfl hs60) <| g_v rfl r_assign <| g_v rfl r_assign <| g_nil <| d_then ?_
      refine c_flat [(2, .string s60), (3, .int .i64 0)] ⟨rfl, rfl, trivial⟩ (fun u => ?_)
      refine c_ret <| d_ret_block <| d_ret_then ?_
      replace hm := Option.some.inj hm
      subst hm
      refine d_retC () Try.results16 ?_ trivial (fun W h => ok_pre (H1 := [_]) (R1 := []) h (fun W hφ => hφ)) (.inr rfl)
      refine res_tmp <| res_tmp <| res_nil ?_
      exact rfl
     ·
      replace hm := ite_f hm (of_decide_eq_false h58)
      refine c_skip <| d_normal_block <| d_then <| c_seq <| c_region <| g_v rfl r_move <| g_v rfl (r_field (n := 4) Try.underlying35 rfl Try.sizeOf9 rfl rfl) <| g_v rfl (r_load (tag := 100010) rfl rfl rfl Try.isAgg9) ?_
      replace hm := bnd hm
      obtain ⟨s61, hs61, hm⟩ := hm
      refine g_v rfl (r_addT rfl rfl hs61) <| g_v rfl r_assign <| g_v rfl r_assign <| g_nil <| d_then ?_
      refine c_flat [(2, .string s61), (3, .int .i64 0)] ⟨rfl, rfl, trivial⟩ (fun u => ?_)
      refine c_ret ?_
      replace hm := Option.some.inj hm
      subst hm
      refine d_retC () Try.results16 ?_ trivial (fun W h => ok_pre (H1 := [_]) (R1 := []) h (fun W hφ => hφ)) (.inr rfl)
      refine res_tmp <| res_tmp <| res_nil ?_
      exact rfl
structure Gconf_reader where
  fs : ByteArray
  fbad : Bool
  deriving DecidableEq
def Gconf_reader.enc (e : Gconf_reader) : List Value := [.string e.fs, .bool e.fbad]
theorem bld82_20 (z0 : ByteArray) : ∀ W, (Instr.build 82 #[(0, .string z0)]).run Try.prog W = .ok (.agg #[.string z0, .bool false]) W := fun _ => by kernel_rfl
noncomputable def m_pack_Raw (p0 : ByteArray) (p1 : Int) (p2 : Int) : Option (ByteArray × Int × Int) :=
  if p1 < 0 then
    some ((⟨#[]⟩ : ByteArray), 0, 10)
  else
    if p2 < 0 then
      some ((⟨#[]⟩ : ByteArray), 0, 10)
    else
      if (p0.size : Int) < p1 then
        some ((⟨#[]⟩ : ByteArray), 0, 10)
      else
        if w64 ((p0.size : Int) - p1) < p2 then
          some ((⟨#[]⟩ : ByteArray), 0, 10)
        else
          (scutMid p0 p1 (w64 (p1 + p2))).bind fun s5 =>
          some (s5, w64 (p1 + p2), 0)
theorem c_pack_Raw {w0 : World} {M : Nat → Prop} {H : List (Nat × Nat × Obj)} {R : List (Nat × Row)} {φ : World → Prop} (p0 : ByteArray) (p1 : Int) (p2 : Int) (r : ByteArray × Int × Int) (hm : m_pack_Raw p0 p1 p2 = some r) :
    Cn Try.prog 74 #[.string p0, .int .i64 p1, .int .i64 p2] ⟨w0, M, H, R, φ⟩ (fun x : Unit => .tuple #[.string r.1, .int .i64 r.2.1, .int .i64 r.2.2]) (fun x => True) (fun x => ⟨w0, M, H, R, φ⟩) := by
 unfold m_pack_Raw at hm
 refine cn_intro (fn := Try.f74) (N := 38) Try.func74 rfl Try.ntmps74 rfl <| c_seq <| c_region <| g_v rfl r_assign <| g_v rfl r_assign <| g_v rfl r_assign <| g_nil <| d_then <| c_seq <| c_seq ?_
 refine c_region <| g_v rfl r_move <| g_v rfl (r_lss rfl rfl) <| g_v rfl r_move ?_
 refine g_if rfl rfl rfl rfl rfl (fun h1 => ?_) (fun h1 => ?_)
 ·
  replace hm := ite_f hm (of_decide_eq_false h1)
  refine g_v rfl r_move <| g_do rfl rfl rfl rfl rfl h1 <| g_v rfl (r_lss rfl rfl) <| g_v rfl (r_pick0 rfl h1) <| g_v rfl r_move ?_
  refine g_if rfl rfl rfl rfl rfl (fun h2 => ?_) (fun h2 => ?_)
  ·
   replace hm := ite_f hm (of_decide_eq_false h2)
   refine g_v rfl r_move <| g_do rfl rfl rfl rfl rfl h2 <| g_v rfl r_move <| g_do rfl rfl rfl rfl rfl h2 <| g_v rfl (r_len Try.underlying9 rfl) <| g_do rfl rfl rfl rfl rfl h2 <| g_v rfl (r_gtr rfl rfl) <| g_v rfl (r_pick0 rfl h2) <| g_v rfl r_move ?_
   refine g_if rfl rfl rfl rfl rfl (fun h3 => ?_) (fun h3 => ?_)
   ·
    replace hm := ite_f hm (of_decide_eq_false h3)
    refine g_v rfl r_move <| g_do rfl rfl rfl rfl rfl h3 <| g_v rfl r_move <| g_do rfl rfl rfl rfl rfl h3 <| g_v rfl (r_len Try.underlying9 rfl) <| g_do rfl rfl rfl rfl rfl h3 <| g_v rfl r_move <| g_do rfl rfl rfl rfl rfl h3 <| g_v rfl (r_sub rfl rfl rfl) <| g_do rfl rfl rfl rfl rfl h3 ?_
    refine g_v rfl (r_gtr rfl rfl) <| g_v rfl (r_pick0 rfl h3) <| g_nil <| d_then ?_
    refine c_flat [(0, .string p0), (1, .int .i64 p1), (2, .int .i64 p2), (28, .bool (decide (w64 ((p0.size : Int) - p1) < p2)))] ⟨rfl, rfl, rfl, rfl, trivial⟩ (fun u => ?_)
    refine c_sta ⟨w0, M, H, R, φ⟩ (fun _ h => h) ?_
    refine c_cond rfl (fun h4 => ?_) (fun h4 => ?_)
    ·
     replace hm := ite_t hm (of_decide_eq_true h4)
     refine c_seq <| c_region <| g_v rfl r_assign <| g_v rfl r_assign <| g_v rfl r_assign <| g_nil <| d_then <| c_ret <| d_ret_then ?_
     replace hm := Option.some.inj hm
     subst hm
     refine d_retC () Try.results74 ?_ trivial (fun W h => ok_pre (H1 := []) (R1 := []) h (fun W hφ => hφ)) (.inr rfl)
     refine res_tmp <| res_tmp <| res_tmp <| res_nil ?_
     exact rfl
    ·
     replace hm := ite_f hm (of_decide_eq_false h4)
     refine c_skip <| d_then <| c_seq <| c_region <| g_v rfl r_move <| g_v rfl r_move <| g_v rfl r_move <| g_v rfl r_move <| g_v rfl (r_add rfl rfl rfl) ?_
     replace hm := bnd hm
     obtain ⟨s5, hs5, hm⟩ := hm
     refine g_v rfl (r_scutMid Try.underlying9 rfl rfl rfl hs5) <| g_v rfl r_move <| g_v rfl r_move <| g_v rfl (r_add rfl rfl rfl) <| g_v rfl r_assign <| g_v rfl r_assign <| g_v rfl r_assign <| g_nil <| d_then ?_
     refine c_flat [(6, .string s5), (7, .int .i64 (w64 (p1 + p2))), (8, .int .i64 0)] ⟨rfl, rfl, rfl, trivial⟩ (fun u => ?_)
     refine c_ret ?_
     replace hm := Option.some.inj hm
     subst hm
     refine d_retC () Try.results74 ?_ trivial (fun W h => ok_pre (H1 := []) (R1 := []) h (fun W hφ => hφ)) (.inr rfl)
     refine res_tmp <| res_tmp <| res_tmp <| res_nil ?_
     exact rfl
   ·
    replace hm := ite_t hm (of_decide_eq_true h3)
    refine g_no rfl rfl rfl rfl rfl h3 <| g_no rfl rfl rfl rfl rfl h3 <| g_no rfl rfl rfl rfl rfl h3 <| g_no rfl rfl rfl rfl rfl h3 <| g_no rfl rfl rfl rfl rfl h3 <| g_v rfl (r_pick1 rfl h3) <| g_nil <| d_then ?_
    refine c_flat [(0, .string p0), (1, .int .i64 p1), (2, .int .i64 p2), (28, .bool true)] ⟨rfl, rfl, rfl, rfl, trivial⟩ (fun u => ?_)
    refine c_sta ⟨w0, M, H, R, φ⟩ (fun _ h => h) <| c_cond1 rfl rfl <| c_seq <| c_region <| g_v rfl r_assign <| g_v rfl r_assign <| g_v rfl r_assign <| g_nil <| d_then <| c_ret ?_
    refine d_ret_then ?_
    replace hm := Option.some.inj hm
    subst hm
    refine d_retC () Try.results74 ?_ trivial (fun W h => ok_pre (H1 := []) (R1 := []) h (fun W hφ => hφ)) (.inr rfl)
    refine res_tmp <| res_tmp <| res_tmp <| res_nil ?_
    exact rfl
  ·
   replace hm := ite_t hm (of_decide_eq_true h2)
   refine g_no rfl rfl rfl rfl rfl h2 <| g_no rfl rfl rfl rfl rfl h2 <| g_no rfl rfl rfl rfl rfl h2 <| g_v rfl (r_pick1 rfl h2) <| g_v rfl r_move <| g_no rfl rfl rfl rfl rfl rfl <| g_no rfl rfl rfl rfl rfl rfl <| g_no rfl rfl rfl rfl rfl rfl <| g_no rfl rfl rfl rfl rfl rfl <| g_no rfl rfl rfl rfl rfl rfl ?_
   refine g_no rfl rfl rfl rfl rfl rfl <| g_v rfl (r_pick1 rfl rfl) <| g_nil <| d_then ?_
   refine c_flat [(0, .string p0), (1, .int .i64 p1), (2, .int .i64 p2), (28, .bool true)] ⟨rfl, rfl, rfl, rfl, trivial⟩ (fun u => ?_)
   refine c_sta ⟨w0, M, H, R, φ⟩ (fun _ h => h) <| c_cond1 rfl rfl <| c_seq <| c_region <| g_v rfl r_assign <| g_v rfl r_assign <| g_v rfl r_assign <| g_nil <| d_then <| c_ret ?_
   refine d_ret_then ?_
   replace hm := Option.some.inj hm
   subst hm
   refine d_retC () Try.results74 ?_ trivial (fun W h => ok_pre (H1 := []) (R1 := []) h (fun W hφ => hφ)) (.inr rfl)
   refine res_tmp <| res_tmp <| res_tmp <| res_nil ?_
   exact rfl
 ·
  replace hm := ite_t hm (of_decide_eq_true h1)
  refine g_no rfl rfl rfl rfl rfl h1 <| g_v rfl (r_pick1 rfl h1) <| g_v rfl r_move <| g_no rfl rfl rfl rfl rfl rfl <| g_no rfl rfl rfl rfl rfl rfl <| g_no rfl rfl rfl rfl rfl rfl <| g_no rfl rfl rfl rfl rfl rfl <| g_v rfl (r_pick1 rfl rfl) <| g_v rfl r_move <| g_no rfl rfl rfl rfl rfl rfl ?_
  refine g_no rfl rfl rfl rfl rfl rfl <| g_no rfl rfl rfl rfl rfl rfl <| g_no rfl rfl rfl rfl rfl rfl <| g_no rfl rfl rfl rfl rfl rfl <| g_no rfl rfl rfl rfl rfl rfl <| g_v rfl (r_pick1 rfl rfl) <| g_nil <| d_then ?_
  refine c_flat [(0, .string p0), (1, .int .i64 p1), (2, .int .i64 p2), (28, .bool true)] ⟨rfl, rfl, rfl, rfl, trivial⟩ (fun u => ?_)
  refine c_sta ⟨w0, M, H, R, φ⟩ (fun _ h => h) <| c_cond1 rfl rfl <| c_seq <| c_region <| g_v rfl r_assign <| g_v rfl r_assign <| g_v rfl r_assign <| g_nil <| d_then <| c_ret ?_
  refine d_ret_then ?_
  replace hm := Option.some.inj hm
  subst hm
  refine d_retC () Try.results74 ?_ trivial (fun W h => ok_pre (H1 := []) (R1 := []) h (fun W hφ => hφ)) (.inr rfl)
  refine res_tmp <| res_tmp <| res_tmp <| res_nil ?_
  exact rfl
noncomputable def m_conf_reader_take_j1 (o0 : Gconf_reader) (x2 : Int) (x1 : ByteArray) (b7 : Bool) : Option (ByteArray × Gconf_reader) :=
  (scutLo o0.fs x2).bind fun s8 =>
  some (x1, (⟨s8, b7⟩ : Gconf_reader))
noncomputable def m_conf_reader_take (p1 : Int) (o0 : Gconf_reader) : Option (ByteArray × Gconf_reader) :=
  (m_pack_Raw o0.fs 0 p1).bind fun (z5 : ByteArray × Int × Int) =>
  if o0.fbad = true then
    m_conf_reader_take_j1 o0 z5.2.1 z5.1 true
  else
    m_conf_reader_take_j1 o0 z5.2.1 z5.1 (decide (z5.2.2 ≠ 0))
theorem c_conf_reader_take {w0 : World} {M : Nat → Prop} {H : List (Nat × Nat × Obj)} {R : List (Nat × Row)} {φ : World → Prop} (p1 : Int) (go0 : Nat) (o0 : Gconf_reader) (r : ByteArray × Gconf_reader) (hm : m_conf_reader_take p1 o0 = some r) :
    Cn Try.prog 47 #[.pointer (some ⟨go0, 0, none⟩), .int .i64 p1] ⟨w0, M, (1000, go0, .cells #[.string o0.fs, .bool o0.fbad] 82 (0, 0)) :: H, R, φ⟩ (fun x : Unit => .string r.1) (fun x => True) (fun x => ⟨w0, M, (1000, go0, .cells #[.string r.2.fs, .bool r.2.fbad] 82 (0, 0)) :: H, R, φ⟩) := by
 unfold m_conf_reader_take at hm
 refine cn_intro (fn := Try.f47) (N := 39) Try.func47 rfl Try.ntmps47 rfl <| c_seq <| c_region <| g_v rfl r_assign <| g_nil <| d_then <| c_seq <| c_region <| g_v rfl r_move <| g_v rfl (r_nilck rfl) ?_
 refine g_v rfl (r_field (n := 0) Try.underlying82 rfl Try.sizeOf9 rfl rfl) <| g_v rfl (r_load (tag := 1000) rfl rfl rfl Try.isAgg9) <| g_v rfl r_move ?_
 replace hm := bnd hm
 obtain ⟨⟨x1, x2, x3⟩, hx4, hm⟩ := hm
 refine g_cn ⟨w0, M, _, _, φ⟩ (fun _ h => h) Try.call74 rfl rfl (c_pack_Raw o0.fs 0 p1 _ hx4) (fun _ _ => ?_)
 refine g_v rfl r_move <| g_v rfl (r_extract rfl rfl) <| g_v rfl (r_extract rfl rfl) <| g_v rfl (r_extract rfl rfl) <| g_v rfl r_assign <| g_v rfl r_assign <| g_v rfl r_assign <| g_nil <| d_then ?_
 refine c_flat [(0, .pointer (some ⟨go0, 0, none⟩)), (5, .string x1), (6, .int .i64 x2), (7, .int .i64 x3)] ⟨rfl, rfl, rfl, rfl, trivial⟩ (fun u => ?_)
 refine c_sta ⟨w0, M, (1000, go0, .cells #[.string o0.fs, .bool o0.fbad] 82 (0, 0)) :: H, R, φ⟩ (fun _ h => h) <| c_seq ?_
 refine c_cut (ι := Bool) [0, 5, 6] (fun b7 => []) (fun b7 => ⟨w0, M, (1000, go0, .cells #[.string o0.fs, .bool b7] 82 (0, 0)) :: H, R, φ⟩) (fun b7 => m_conf_reader_take_j1 o0 x2 x1 b7 = some r) ?_ (fun b7 u hm => ?_)
 ·
  refine c_region <| g_v rfl r_move <| g_v rfl r_move <| g_v rfl (r_nilck rfl) <| g_v rfl (r_field (n := 1) Try.underlying82 rfl Try.sizeOf4 rfl rfl) <| g_v rfl (r_load (tag := 1000) rfl rfl rfl Try.isAgg4) <| g_v rfl r_move ?_
  refine g_if rfl rfl rfl rfl rfl (fun h9 => ?_) (fun h9 => ?_)
  ·
   replace hm := ite_f hm (bool_nt h9)
   refine g_v rfl r_move <| g_do rfl rfl rfl rfl rfl h9 <| g_v rfl (r_neq rfl rfl) <| g_v rfl (r_pick0 rfl h9) <| g_v rfl (r_nilck rfl) <| g_v rfl (r_field (n := 1) Try.underlying82 rfl Try.sizeOf4 rfl rfl) <| g_storeL (tag := 1000) rfl rfl rfl rfl Try.sizeOf4 rfl rfl <| g_nil ?_
   exact d_round (decide (x3 ≠ 0)) hm Nat.zero_lt_one ⟨rfl, rfl, rfl, trivial⟩ (fun W h => h.phi (fun W hφ => hφ))
  ·
   replace hm := ite_t hm h9
   refine g_no rfl rfl rfl rfl rfl h9 <| g_v rfl (r_pick1 rfl h9) <| g_v rfl (r_nilck rfl) <| g_v rfl (r_field (n := 1) Try.underlying82 rfl Try.sizeOf4 rfl rfl) <| g_storeL (tag := 1000) rfl rfl rfl rfl Try.sizeOf4 rfl rfl <| g_nil ?_
   exact d_round true hm Nat.zero_lt_one ⟨rfl, rfl, rfl, trivial⟩ (fun W h => h.phi (fun W hφ => hφ))
 ·
  unfold m_conf_reader_take_j1 at hm
  refine d_flat [(0, .pointer (some ⟨go0, 0, none⟩)), (5, .string x1), (6, .int .i64 x2)] ⟨rfl, rfl, rfl, trivial⟩ (fun u => ?_)
  refine d_sta ⟨w0, M, (1000, go0, .cells #[.string o0.fs, .bool b7] 82 (0, 0)) :: H, R, φ⟩ (fun _ h => h) <| d_then <| c_seq <| c_region <| g_v rfl r_move <| g_v rfl r_move <| g_v rfl (r_nilck rfl) <| g_v rfl (r_field (n := 0) Try.underlying82 rfl Try.sizeOf9 rfl rfl) <| g_v rfl (r_load (tag := 1000) rfl rfl rfl Try.isAgg9) <| g_v rfl r_move ?_
  replace hm := bnd hm
  obtain ⟨s8, hs8, hm⟩ := hm
  refine g_v rfl (r_scutLo Try.underlying9 rfl rfl hs8) <| g_v rfl (r_nilck rfl) <| g_v rfl (r_field (n := 0) Try.underlying82 rfl Try.sizeOf9 rfl rfl) <| g_storeL (tag := 1000) rfl rfl rfl rfl Try.sizeOf9 rfl rfl <| g_nil <| d_then ?_
  refine c_flat [(5, .string x1)] ⟨rfl, trivial⟩ (fun u => ?_)
  refine c_sta ⟨w0, M, (1000, go0, .cells #[.string s8, .bool b7] 82 (0, 0)) :: H, R, φ⟩ (fun _ h => h) <| c_seq <| c_region <| g_v rfl r_move <| g_v rfl r_assign <| g_nil <| d_then <| c_ret ?_
  replace hm := Option.some.inj hm
  subst hm
  refine d_retC () Try.results47 ?_ trivial (fun W h => h.phi (fun W hφ => hφ)) (.inr rfl)
  refine res_tmp <| res_nil ?_
  exact rfl
noncomputable def m_conf_reader_number_j2 (i26 : Int) (x2 : Gconf_reader) (b28 : Bool) : Option (Int × Gconf_reader) :=
  some (w64 (min i26 4611686018427387904), (⟨x2.fs, b28⟩ : Gconf_reader))
noncomputable def m_conf_reader_number_j1 (x2 : Gconf_reader) (i26 : Int) : Option (Int × Gconf_reader) :=
  if x2.fbad = true then
    m_conf_reader_number_j2 i26 x2 true
  else
    m_conf_reader_number_j2 i26 x2 (decide (4611686018427387904 < i26))
noncomputable def m_conf_reader_number_s3 (x1 : ByteArray) (i37 : Int) (i38 : Int) : Option ((Int × Int) ⊕ Int) :=
  if i38 < ((bytesI x1).length : Int) then
    (at_ (bytesI x1) i38).bind fun x48 =>
    some (.inl (orI .u64 (IntKind.u64.wrap (i37 * 256)) (IntKind.u64.wrap x48), w64 (i38 + 1)))
  else
    some (.inr i37)
noncomputable def m_conf_reader_number (p1 : Int) (o0 : Gconf_reader) : Option (Int × Gconf_reader) :=
  (m_conf_reader_take p1 o0).bind fun (z4 : ByteArray × Gconf_reader) =>
  (loop (fun s => m_conf_reader_number_s3 z4.1 s.1 s.2) (0, 0)).bind fun e => m_conf_reader_number_j1 z4.2 e
theorem c_conf_reader_number {w0 : World} {M : Nat → Prop} {H : List (Nat × Nat × Obj)} {R : List (Nat × Row)} {φ : World → Prop} (p1 : Int) (go0 : Nat) (o0 : Gconf_reader) (r : Int × Gconf_reader) (hm : m_conf_reader_number p1 o0 = some r) :
    Cn Try.prog 46 #[.pointer (some ⟨go0, 0, none⟩), .int .i64 p1] ⟨w0, M, (1000, go0, .cells #[.string o0.fs, .bool o0.fbad] 82 (0, 0)) :: H, R, φ⟩ (fun x : Unit => .int .i64 r.1) (fun x => True) (fun x => ⟨w0, M, (1000, go0, .cells #[.string r.2.fs, .bool r.2.fbad] 82 (0, 0)) :: H, R, φ⟩) := by
 unfold m_conf_reader_number at hm
 refine cn_intro (fn := Try.f46) (N := 37) Try.func46 rfl Try.ntmps46 rfl <| c_seq <| c_region <| g_v rfl r_assign <| g_nil <| d_then <| c_seq <| c_region <| g_v rfl r_assign <| g_nil ?_
 refine d_then <| c_seq <| c_seq <| c_region <| g_v rfl r_move <| g_v rfl r_move ?_
 replace hm := bnd hm
 obtain ⟨⟨x1, x2⟩, hx3, hm⟩ := hm
 refine g_cn ⟨w0, M, (1000, go0, .cells #[.string o0.fs, .bool o0.fbad] 82 (0, 0)) :: H, R, φ⟩ (fun W h => (ok_front (t := 1000) (t' := 1000) h rfl)) Try.call47 rfl rfl (c_conf_reader_take p1 go0 o0 _ hx3) (fun _ _ => ?_)
 refine g_sta _ (fun W h => (ok_front (t := 1000) (t' := 1000) h rfl)) ?_
 refine g_bytes rfl Try.underlying9 Try.underlying79 Try.underlying5 rfl (fun A5 c6 hc6 φ7 q7' => ?_)
 have q7 : ∀ W, φ7 W → φ W := fun W h => (q7' W h).1
 have f8 := fun (W : World) (h : φ7 W) => (q7' W h).2
 refine g_v rfl (r_lenL Try.underlying79 rfl) <| g_v rfl r_move <| g_nil <| d_then ?_
 refine c_cut (ι := Int) [0, 5] (fun i26 => [(5, .int .u64 i26)]) (fun i26 => ⟨w0, M, (1000, go0, .cells #[.string x2.fs, .bool x2.fbad] 82 (0, 0)) :: H, R, φ7⟩) (fun i26 => m_conf_reader_number_j1 x2 i26 = some r) ?_ (fun i26 u hm => ?_)
 ·
  refine c_block ?_
  replace hm := bnd hm
  obtain ⟨out3, hl3, hr3⟩ := hm
  obtain ⟨n46', hl3⟩ := loop_lp hl3
  refine c_loopU (ι := Nat × Int × Int) [0, 5, 11, 12, 13] (fun ⟨n46, i37, i38⟩ => [(5, .int .u64 i37), (13, .int .i64 i38)]) (fun ⟨n46, i37, i38⟩ => ⟨w0, M, (1000, go0, .cells #[.string x2.fs, .bool x2.fbad] 82 (0, 0)) :: H, R, φ7⟩) (fun ⟨n46, i37, i38⟩ => Lp (fun s => m_conf_reader_number_s3 x1 s.1 s.2) n46 (i37, i38) out3) (fun ⟨n46, i37, i38⟩ => n46) (n46', 0, 0) hl3 ⟨rfl, rfl, rfl, rfl, rfl, trivial⟩ (fun W h => h.phi (fun W hφ => hφ)) (fun ⟨n46, i37, i38⟩ u hlp => ?_)
  obtain ⟨o3, hm, hnx3⟩ := lp_step hlp
  clear hlp
  replace hm : m_conf_reader_number_s3 x1 i37 i38 = some o3 := hm
  unfold m_conf_reader_number_s3 at hm
  refine c_flat [(0, .pointer (some ⟨go0, 0, none⟩)), (5, .int .u64 i37), (11, .slice A5 (bytesI x1).length c6), (12, .int .i64 ((bytesI x1).length : Int)), (13, .int .i64 i38)] ⟨rfl, rfl, rfl, rfl, rfl, trivial⟩ (fun u => ?_)
  refine c_sta ⟨w0, M, (1000, go0, .cells #[.string x2.fs, .bool x2.fbad] 82 (0, 0)) :: H, R, φ7⟩ (fun _ h => h) <| c_seq <| c_region <| g_v rfl (r_lss rfl rfl) <| g_nil <| d_then <| c_seq ?_
  refine c_cond rfl (fun h47 => ?_) (fun h47 => ?_)
  ·
   replace hm := ite_t hm (of_decide_eq_true h47)
   refine c_skip <| d_then <| c_seq <| c_block <| c_seq <| c_region ?_
   replace hm := bnd hm
   obtain ⟨x48, hx48, hm⟩ := hm
   refine g_know _ (fun W hS => cl_at (p := φ7) (sz := 1) (fun _ => rfl) (by decide) hS.now f8 hx48) ?_
   rintro ⟨ad49, hA51, f50⟩
   refine g_v rfl (r_ix Try.underlying79 Try.sizeOf5 rfl hA51 rfl hx48) <| g_v rfl (r_ld rfl Try.isAgg5 (fun W hS => Cl.head (f50 W hS.now))) <| g_v rfl r_assign <| g_nil <| d_then <| c_region <| g_v rfl r_move <| g_v rfl (r_shl (n := 256) rfl rfl (by decide) (by decide) (by decide)) <| g_v rfl r_move <| g_v rfl (r_conv Try.underlying5 Try.underlying104 rfl rfl) ?_
   refine g_v rfl (r_bits_or rfl rfl) <| g_v rfl r_assign <| g_nil <| d_normal_block <| d_then ?_
   refine c_flat [(0, .pointer (some ⟨go0, 0, none⟩)), (5, .int .u64 (orI .u64 (IntKind.u64.wrap (i37 * 256)) (IntKind.u64.wrap x48))), (11, .slice A5 (bytesI x1).length c6), (12, .int .i64 ((bytesI x1).length : Int)), (13, .int .i64 i38)] ⟨rfl, rfl, rfl, rfl, rfl, trivial⟩ (fun u => ?_)
   refine c_region <| g_v rfl (r_add rfl rfl rfl) <| g_v rfl r_move <| g_nil ?_
   obtain ⟨n52, hn52, hlp⟩ := nx_inl hm hnx3
   exact d_round (n52, orI .u64 (IntKind.u64.wrap (i37 * 256)) (IntKind.u64.wrap x48), w64 (i38 + 1)) hlp hn52 ⟨rfl, rfl, rfl, rfl, rfl, trivial⟩ (fun W h => h.phi (fun W hφ => hφ))
  ·
   replace hm := ite_f hm (of_decide_eq_false h47)
   refine c_exit <| d_exit_then <| d_exit_then <| d_exit_block ?_
   replace hm := nx_out (C := (fun e : Int => m_conf_reader_number_j1 x2 e = some r)) hm hnx3 hr3
   exact d_round i37 hm Nat.zero_lt_one ⟨rfl, rfl, trivial⟩ (fun W h => h.phi (fun W hφ => hφ))
 ·
  unfold m_conf_reader_number_j1 at hm
  refine d_flat [(0, .pointer (some ⟨go0, 0, none⟩)), (5, .int .u64 i26)] ⟨rfl, rfl, trivial⟩ (fun u => ?_)
  refine d_sta ⟨w0, M, (1000, go0, .cells #[.string x2.fs, .bool x2.fbad] 82 (0, 0)) :: H, R, φ7⟩ (fun _ h => h) <| d_then <| c_seq ?_
  refine c_cut (ι := Bool) [5] (fun b28 => []) (fun b28 => ⟨w0, M, (1000, go0, .cells #[.string x2.fs, .bool b28] 82 (0, 0)) :: H, R, φ7⟩) (fun b28 => m_conf_reader_number_j2 i26 x2 b28 = some r) ?_ (fun b28 u hm => ?_)
  ·
   refine c_region <| g_v rfl r_move <| g_v rfl r_move <| g_v rfl (r_nilck rfl) <| g_v rfl (r_field (n := 1) Try.underlying82 rfl Try.sizeOf4 rfl rfl) <| g_v rfl (r_load (tag := 1000) rfl rfl rfl Try.isAgg4) <| g_v rfl r_move ?_
   refine g_if rfl rfl rfl rfl rfl (fun h29 => ?_) (fun h29 => ?_)
   ·
    replace hm := ite_f hm (bool_nt h29)
    refine g_v rfl r_move <| g_do rfl rfl rfl rfl rfl h29 <| g_v rfl (r_gtr rfl rfl) <| g_v rfl (r_pick0 rfl h29) <| g_v rfl (r_nilck rfl) <| g_v rfl (r_field (n := 1) Try.underlying82 rfl Try.sizeOf4 rfl rfl) <| g_storeL (tag := 1000) rfl rfl rfl rfl Try.sizeOf4 rfl rfl <| g_nil ?_
    exact d_round (decide (4611686018427387904 < i26)) hm Nat.zero_lt_one ⟨rfl, trivial⟩ (fun W h => h.phi (fun W hφ => hφ))
   ·
    replace hm := ite_t hm h29
    refine g_no rfl rfl rfl rfl rfl h29 <| g_v rfl (r_pick1 rfl h29) <| g_v rfl (r_nilck rfl) <| g_v rfl (r_field (n := 1) Try.underlying82 rfl Try.sizeOf4 rfl rfl) <| g_storeL (tag := 1000) rfl rfl rfl rfl Try.sizeOf4 rfl rfl <| g_nil ?_
    exact d_round true hm Nat.zero_lt_one ⟨rfl, trivial⟩ (fun W h => h.phi (fun W hφ => hφ))
  ·
   unfold m_conf_reader_number_j2 at hm
   refine d_flat [(5, .int .u64 i26)] ⟨rfl, trivial⟩ (fun u => ?_)
   refine d_sta ⟨w0, M, (1000, go0, .cells #[.string x2.fs, .bool b28] 82 (0, 0)) :: H, R, φ7⟩ (fun _ h => h) <| d_then <| c_seq <| c_region <| g_v rfl r_move <| g_v rfl (r_min rfl rfl) <| g_v rfl (r_conv Try.underlying104 Try.underlying3 rfl rfl) <| g_v rfl r_assign <| g_nil <| d_then ?_
   refine c_ret ?_
   replace hm := Option.some.inj hm
   subst hm
   refine d_retC () Try.results46 ?_ trivial (fun W h => h.phi (fun W hφ => (q7 _ hφ))) (.inr rfl)
   refine res_tmp <| res_nil ?_
   exact rfl
theorem bld35_21 (z0 : Int) : ∀ W, (Instr.build 35 #[(0, .int .i64 z0)]).run Try.prog W = .ok (.agg #[.int .i64 z0, .int .i64 0, .string (⟨#[]⟩ : ByteArray), .string (⟨#[]⟩ : ByteArray), .string (⟨#[]⟩ : ByteArray), .slice none 0 0]) W := fun _ => by kernel_rfl
noncomputable def m_conf_reader_name_j2 (x14 : ByteArray) (x15 : Gconf_reader) (b21 : Bool) : Option (ByteArray × Gconf_reader) :=
  some (x14, (⟨x15.fs, b21⟩ : Gconf_reader))
noncomputable def m_conf_reader_name_j1 (o0 : Gconf_reader) (i13 : Int) : Option (ByteArray × Gconf_reader) :=
  (m_conf_reader_take (min (w64 (i13 + 1)) (o0.fs.size : Int)) o0).bind fun (z17 : ByteArray × Gconf_reader) =>
  if z17.2.fbad = true then
    m_conf_reader_name_j2 z17.1 z17.2 true
  else
    (m_conf_named z17.1).bind fun x23 =>
    m_conf_reader_name_j2 z17.1 z17.2 (!x23)
noncomputable def m_conf_reader_name_s3 (o0 : Gconf_reader) (i30 : Int) : Option (Int ⊕ Int) :=
  if i30 < (o0.fs.size : Int) then
    (sat_ o0.fs i30).bind fun b38 =>
    if b38 ≠ 0 then
      (sat_ o0.fs i30).bind fun b40 =>
      some (.inl (w64 (i30 + (w64 (1 + (w64 b40))))))
    else
      some (.inr i30)
  else
    some (.inr i30)
noncomputable def m_conf_reader_name (o0 : Gconf_reader) : Option (ByteArray × Gconf_reader) :=
  (loop (fun s => m_conf_reader_name_s3 o0 s) 0).bind fun e => m_conf_reader_name_j1 o0 e
theorem c_conf_reader_name {w0 : World} {M : Nat → Prop} {H : List (Nat × Nat × Obj)} {R : List (Nat × Row)} {φ : World → Prop} (go0 : Nat) (o0 : Gconf_reader) (r : ByteArray × Gconf_reader) (hm : m_conf_reader_name o0 = some r) :
    Cn Try.prog 48 #[.pointer (some ⟨go0, 0, none⟩)] ⟨w0, M, (1000, go0, .cells #[.string o0.fs, .bool o0.fbad] 82 (0, 0)) :: H, R, φ⟩ (fun x : Unit => .string r.1) (fun x => True) (fun x => ⟨w0, M, (1000, go0, .cells #[.string r.2.fs, .bool r.2.fbad] 82 (0, 0)) :: H, R, φ⟩) := by
 unfold m_conf_reader_name at hm
 refine cn_intro (fn := Try.f48) (N := 54) Try.func48 rfl Try.ntmps48 rfl <| c_seq <| c_region <| g_v rfl r_assign <| g_nil <| d_then <| c_seq <| c_region <| g_v rfl r_assign <| g_nil ?_
 refine d_then <| c_seq ?_
 refine c_cut (ι := Int) [0, 3] (fun i13 => [(3, .int .i64 i13)]) (fun i13 => ⟨w0, M, (1000, go0, .cells #[.string o0.fs, .bool o0.fbad] 82 (0, 0)) :: H, R, φ⟩) (fun i13 => m_conf_reader_name_j1 o0 i13 = some r) ?_ (fun i13 u hm => ?_)
 ·
  refine c_block ?_
  replace hm := bnd hm
  obtain ⟨out3, hl3, hr3⟩ := hm
  obtain ⟨n36', hl3⟩ := loop_lp hl3
  refine c_loopU (ι := Nat × Int) [0, 3] (fun ⟨n36, i30⟩ => [(3, .int .i64 i30)]) (fun ⟨n36, i30⟩ => ⟨w0, M, (1000, go0, .cells #[.string o0.fs, .bool o0.fbad] 82 (0, 0)) :: H, R, φ⟩) (fun ⟨n36, i30⟩ => Lp (fun s => m_conf_reader_name_s3 o0 s) n36 i30 out3) (fun ⟨n36, i30⟩ => n36) (n36', 0) hl3 ⟨rfl, rfl, trivial⟩ (fun W h => h.phi (fun W hφ => hφ)) (fun ⟨n36, i30⟩ u hlp => ?_)
  obtain ⟨o3, hm, hnx3⟩ := lp_step hlp
  clear hlp
  replace hm : m_conf_reader_name_s3 o0 i30 = some o3 := hm
  unfold m_conf_reader_name_s3 at hm
  refine c_flat [(0, .pointer (some ⟨go0, 0, none⟩)), (3, .int .i64 i30)] ⟨rfl, rfl, trivial⟩ (fun u => ?_)
  refine c_sta ⟨w0, M, (1000, go0, .cells #[.string o0.fs, .bool o0.fbad] 82 (0, 0)) :: H, R, φ⟩ (fun _ h => h) <| c_seq <| c_seq <| c_region <| g_v rfl r_move <| g_v rfl r_move <| g_v rfl (r_nilck rfl) <| g_v rfl (r_field (n := 0) Try.underlying82 rfl Try.sizeOf9 rfl rfl) <| g_v rfl (r_load (tag := 1000) rfl rfl rfl Try.isAgg9) <| g_v rfl (r_len Try.underlying9 rfl) ?_
  refine g_v rfl (r_lss rfl rfl) <| g_v rfl r_move ?_
  refine g_if rfl rfl rfl rfl rfl (fun h37 => ?_) (fun h37 => ?_)
  ·
   replace hm := ite_t hm (of_decide_eq_true h37)
   refine g_v rfl r_move <| g_do rfl rfl rfl rfl rfl h37 <| g_v rfl (r_nilck rfl) <| g_do rfl rfl rfl rfl rfl h37 <| g_v rfl (r_field (n := 0) Try.underlying82 rfl Try.sizeOf9 rfl rfl) <| g_do rfl rfl rfl rfl rfl h37 <| g_v rfl (r_load (tag := 1000) rfl rfl rfl Try.isAgg9) <| g_do rfl rfl rfl rfl rfl h37 <| g_v rfl r_move <| g_do rfl rfl rfl rfl rfl h37 ?_
   replace hm := bnd hm
   obtain ⟨b38, hb38, hm⟩ := hm
   refine g_v rfl (r_sat Try.underlying9 rfl rfl hb38) <| g_do rfl rfl rfl rfl rfl h37 <| g_v rfl (r_neq rfl rfl) <| g_v rfl (r_pick1 rfl h37) <| g_nil <| d_then ?_
   refine c_flat [(0, .pointer (some ⟨go0, 0, none⟩)), (3, .int .i64 i30), (20, .bool (decide (b38 ≠ 0)))] ⟨rfl, rfl, rfl, trivial⟩ (fun u => ?_)
   refine c_cond rfl (fun h39 => ?_) (fun h39 => ?_)
   ·
    replace hm := ite_t hm (of_decide_eq_true h39)
    refine c_skip <| d_then <| c_block <| c_region <| g_v rfl r_move <| g_v rfl r_move <| g_v rfl (r_nilck rfl) <| g_v rfl (r_field (n := 0) Try.underlying82 rfl Try.sizeOf9 rfl rfl) <| g_v rfl (r_load (tag := 1000) rfl rfl rfl Try.isAgg9) <| g_v rfl r_move ?_
    replace hm := bnd hm
    obtain ⟨b40, hb40, hm⟩ := hm
    refine g_v rfl (r_sat Try.underlying9 rfl rfl hb40) <| g_v rfl (r_conv Try.underlying5 Try.underlying3 rfl rfl) <| g_v rfl (r_add rfl rfl rfl) <| g_v rfl (r_add rfl rfl rfl) <| g_v rfl r_assign <| g_nil <| d_normal_block ?_
    obtain ⟨n41, hn41, hlp⟩ := nx_inl hm hnx3
    exact d_round (n41, w64 (i30 + (w64 (1 + (w64 b40))))) hlp hn41 ⟨rfl, rfl, trivial⟩ (fun W h => h.phi (fun W hφ => hφ))
   ·
    replace hm := ite_f hm (of_decide_eq_false h39)
    refine c_exit <| d_exit_then <| d_exit_then <| d_exit_block ?_
    replace hm := nx_out (C := (fun e : Int => m_conf_reader_name_j1 o0 e = some r)) hm hnx3 hr3
    exact d_round i30 hm Nat.zero_lt_one ⟨rfl, rfl, trivial⟩ (fun W h => h.phi (fun W hφ => hφ))
  ·
   replace hm := ite_f hm (of_decide_eq_false h37)
   refine g_no rfl rfl rfl rfl rfl h37 <| g_no rfl rfl rfl rfl rfl h37 <| g_no rfl rfl rfl rfl rfl h37 <| g_no rfl rfl rfl rfl rfl h37 <| g_no rfl rfl rfl rfl rfl h37 <| g_no rfl rfl rfl rfl rfl h37 <| g_v rfl (r_pick0 rfl h37) <| g_nil <| d_then ?_
   refine c_flat [(0, .pointer (some ⟨go0, 0, none⟩)), (3, .int .i64 i30), (20, .bool false)] ⟨rfl, rfl, rfl, trivial⟩ (fun u => ?_)
   refine c_cond0 rfl rfl <| c_exit <| d_exit_then <| d_exit_then <| d_exit_block ?_
   replace hm := nx_out (C := (fun e : Int => m_conf_reader_name_j1 o0 e = some r)) hm hnx3 hr3
   exact d_round i30 hm Nat.zero_lt_one ⟨rfl, rfl, trivial⟩ (fun W h => h.phi (fun W hφ => hφ))
 ·
  unfold m_conf_reader_name_j1 at hm
  refine d_flat [(0, .pointer (some ⟨go0, 0, none⟩)), (3, .int .i64 i13)] ⟨rfl, rfl, trivial⟩ (fun u => ?_)
  refine d_sta ⟨w0, M, (1000, go0, .cells #[.string o0.fs, .bool o0.fbad] 82 (0, 0)) :: H, R, φ⟩ (fun _ h => h) <| d_then <| c_seq <| c_region <| g_v rfl r_move <| g_v rfl r_move <| g_v rfl (r_add rfl rfl rfl) <| g_v rfl r_move <| g_v rfl (r_nilck rfl) <| g_v rfl (r_field (n := 0) Try.underlying82 rfl Try.sizeOf9 rfl rfl) ?_
  refine g_v rfl (r_load (tag := 1000) rfl rfl rfl Try.isAgg9) <| g_v rfl (r_len Try.underlying9 rfl) <| g_v rfl (r_min rfl rfl) ?_
  replace hm := bnd hm
  obtain ⟨⟨x14, x15⟩, hx16, hm⟩ := hm
  refine g_cn ⟨w0, M, (1000, go0, .cells #[.string o0.fs, .bool o0.fbad] 82 (0, 0)) :: H, R, φ⟩ (fun W h => (ok_front (t := 1000) (t' := 1000) h rfl)) Try.call47 rfl rfl (c_conf_reader_take (min (w64 (i13 + 1)) (o0.fs.size : Int)) go0 o0 _ hx16) (fun _ _ => ?_)
  refine g_sta _ (fun W h => (ok_front (t := 1000) (t' := 1000) h rfl)) <| g_v rfl r_assign <| g_nil <| d_then ?_
  refine c_flat [(0, .pointer (some ⟨go0, 0, none⟩)), (4, .string x14)] ⟨rfl, rfl, trivial⟩ (fun u => ?_)
  refine c_sta ⟨w0, M, (1000, go0, .cells #[.string x15.fs, .bool x15.fbad] 82 (0, 0)) :: H, R, φ⟩ (fun _ h => h) <| c_seq ?_
  refine c_cut (ι := Bool) [4] (fun b21 => []) (fun b21 => ⟨w0, M, (1000, go0, .cells #[.string x15.fs, .bool b21] 82 (0, 0)) :: H, R, φ⟩) (fun b21 => m_conf_reader_name_j2 x14 x15 b21 = some r) ?_ (fun b21 u hm => ?_)
  ·
   refine c_region <| g_v rfl r_move <| g_v rfl r_move <| g_v rfl (r_nilck rfl) <| g_v rfl (r_field (n := 1) Try.underlying82 rfl Try.sizeOf4 rfl rfl) <| g_v rfl (r_load (tag := 1000) rfl rfl rfl Try.isAgg4) <| g_v rfl r_move ?_
   refine g_if rfl rfl rfl rfl rfl (fun h22 => ?_) (fun h22 => ?_)
   ·
    replace hm := ite_f hm (bool_nt h22)
    refine g_v rfl r_move <| g_do rfl rfl rfl rfl rfl h22 ?_
    replace hm := bnd hm
    obtain ⟨x23, hx24, hm⟩ := hm
    refine g_cn ⟨w0, M, _, _, φ⟩ (fun _ h => h) Try.call56 rfl rfl (c_conf_named x14 _ hx24) (fun _ _ => ?_)
    refine g_do rfl rfl rfl rfl rfl h22 <| g_v rfl (r_not rfl) <| g_v rfl (r_pick0 rfl h22) <| g_v rfl (r_nilck rfl) <| g_v rfl (r_field (n := 1) Try.underlying82 rfl Try.sizeOf4 rfl rfl) <| g_storeL (tag := 1000) rfl rfl rfl rfl Try.sizeOf4 rfl rfl <| g_nil ?_
    exact d_round (!x23) hm Nat.zero_lt_one ⟨rfl, trivial⟩ (fun W h => h.phi (fun W hφ => hφ))
   ·
    replace hm := ite_t hm h22
    refine g_no rfl rfl rfl rfl rfl h22 <| g_no rfl rfl rfl rfl rfl h22 <| g_v rfl (r_pick1 rfl h22) <| g_v rfl (r_nilck rfl) <| g_v rfl (r_field (n := 1) Try.underlying82 rfl Try.sizeOf4 rfl rfl) <| g_storeL (tag := 1000) rfl rfl rfl rfl Try.sizeOf4 rfl rfl <| g_nil ?_
    exact d_round true hm Nat.zero_lt_one ⟨rfl, trivial⟩ (fun W h => h.phi (fun W hφ => hφ))
  ·
   unfold m_conf_reader_name_j2 at hm
   refine d_flat [(4, .string x14)] ⟨rfl, trivial⟩ (fun u => ?_)
   refine d_sta ⟨w0, M, (1000, go0, .cells #[.string x15.fs, .bool b21] 82 (0, 0)) :: H, R, φ⟩ (fun _ h => h) <| d_then <| c_seq <| c_region <| g_v rfl r_move <| g_v rfl r_assign <| g_nil <| d_then <| c_ret ?_
   replace hm := Option.some.inj hm
   subst hm
   refine d_retC () Try.results48 ?_ trivial (fun W h => h.phi (fun W hφ => hφ)) (.inr rfl)
   refine res_tmp <| res_nil ?_
   exact rfl
theorem bld35_22  : ∀ W, (Instr.build 35 #[]).run Try.prog W = .ok (.agg #[.int .i64 0, .int .i64 0, .string (⟨#[]⟩ : ByteArray), .string (⟨#[]⟩ : ByteArray), .string (⟨#[]⟩ : ByteArray), .slice none 0 0]) W := fun _ => by kernel_rfl
end Go.Proofs.Ythpjodfjdnnckaa
