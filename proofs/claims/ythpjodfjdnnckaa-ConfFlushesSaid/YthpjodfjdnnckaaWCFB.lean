import Derived.Test.YthpjodfjdnnckaaWCFA
set_option maxRecDepth 100000
set_option maxHeartbeats 4000000
set_option linter.unusedVariables false
set_option linter.unusedSimpArgs false
namespace Go.Proofs.Ythpjodfjdnnckaa
open Go.RowKit Go.Proofs.YthpjodfjdnnckaaW.PrintLast
noncomputable def m_conf_Apply_k5_j2 (l348 : List Int) (l351 : List ByteArray) (l354 : List GAnchor) (l383 : List GFlush) (i386 : Int) : Option (GConf × Int) :=
  some ((⟨l348, l351, l354, i386, l383⟩ : GConf), 0)
noncomputable def m_conf_Apply_k5_j3 (l348 : List Int) (l351 : List ByteArray) (l354 : List GAnchor) (l405 : List GFlush) (s408 : ByteArray) (i409 : Int) : Option (GConf × Int) :=
  (app 24 l405 [(⟨i409, s408⟩ : GFlush)]).bind fun l411 =>
  m_conf_Apply_k5_j2 l348 l351 l354 l411 i409
noncomputable def m_conf_Apply_k5_j1 (p1_fNode : Int) (p0 : GConf) (p1_fZone : ByteArray) (l348 : List Int) (l351 : List ByteArray) (l354 : List GAnchor) (l357 : List GFlush) : Option (GConf × Int) :=
  (m_slices_BinarySearch_27 l348 p1_fNode).bind fun (z363 : Int × Bool) =>
  if 1099511627776 ≤ p0.fEpoch then
    some (p0, 15)
  else
    (m_name_Lower p1_fZone).bind fun x396 =>
    (m_slices_DeleteFunc_37 l357 x396).bind fun x399 =>
    if 32 ≤ (x399.length : Int) then
      m_conf_Apply_k5_j3 l348 l351 l354 ([] : List GFlush) (⟨#[0]⟩ : ByteArray) (w64 (p0.fEpoch + 1))
    else
      m_conf_Apply_k5_j3 l348 l351 l354 x399 x396 (w64 (p0.fEpoch + 1))
noncomputable def m_conf_Apply_k5 (p0 : GConf) (p1_fNode : Int) (p1_fName : ByteArray) (p1_fText : ByteArray) (p1_fZone : ByteArray) (p1_fHints : List ByteArray) : Option (GConf × Int) :=
  (m_conf_Check_k5 p1_fNode p1_fName p1_fText p1_fZone p1_fHints).bind fun x4 =>
  if x4 ≠ 0 then
    some (p0, x4)
  else
    (m_slices_Clone_23 p0.fRing).bind fun x551 =>
    (m_slices_Clone_24 p0.fHints).bind fun x557 =>
    (m_slices_Clone_25 p0.fAnchors).bind fun x562 =>
    (m_slices_Clone_26 p0.fFlushes).bind fun x567 =>
    m_conf_Apply_k5_j1 p1_fNode p0 p1_fZone x551 x557 x562 x567
theorem c_conf_Apply_k5 {w0 : World} {M : Nat → Prop} {H : List (Nat × Nat × Obj)} {R : List (Nat × Row)} {φ : World → Prop} (p0 : GConf) (Ap0_0 : Option Addr) (cp0_0 : Nat) (hcp0_0 : p0.fRing.length ≤ cp0_0) (fp0_0 : ∀ W, φ W → Cl W Ap0_0 (p0.fRing.flatMap (fun x : Int => [Value.int .i64 x]))) (Ap0_1 : Option Addr) (cp0_1 : Nat) (hcp0_1 : p0.fHints.length ≤ cp0_1) (fp0_1 : ∀ W, φ W → Cl W Ap0_1 (p0.fHints.flatMap (fun x : ByteArray => [Value.string x]))) (Ap0_2 : Option Addr) (cp0_2 : Nat) (hcp0_2 : p0.fAnchors.length ≤ cp0_2) (fp0_2 : ∀ W, φ W → Cl W Ap0_2 (p0.fAnchors.flatMap GAnchor.enc)) (Ap0_3 : Option Addr) (cp0_3 : Nat) (hcp0_3 : p0.fFlushes.length ≤ cp0_3) (fp0_3 : ∀ W, φ W → Cl W Ap0_3 (p0.fFlushes.flatMap GFlush.enc)) (p1_fNode : Int) (p1_fName : ByteArray) (p1_fText : ByteArray) (p1_fZone : ByteArray) (p1_fHints : List ByteArray) (Ap1_fHints_0 : Option Addr) (cp1_fHints_0 : Nat) (hcp1_fHints_0 : p1_fHints.length ≤ cp1_fHints_0) (fp1_fHints_0 : ∀ W, (Sta.mk w0 M H R φ).ok W → Cl W Ap1_fHints_0 (p1_fHints.flatMap (fun x : ByteArray => [Value.string x]))) (r : GConf × Int) (hm : m_conf_Apply_k5 p0 p1_fNode p1_fName p1_fText p1_fZone p1_fHints = some r) :
    Cn Try.prog 10 #[.agg #[.slice Ap0_0 p0.fRing.length cp0_0, .slice Ap0_1 p0.fHints.length cp0_1, .slice Ap0_2 p0.fAnchors.length cp0_2, .int .i64 p0.fEpoch, .slice Ap0_3 p0.fFlushes.length cp0_3], .agg #[.int .i64 5, .int .i64 p1_fNode, .string p1_fName, .string p1_fText, .string p1_fZone, .slice Ap1_fHints_0 p1_fHints.length cp1_fHints_0]] ⟨w0, M, H, R, φ⟩ (fun x : Option Addr × Nat × Option Addr × Nat × Option Addr × Nat × Option Addr × Nat => .tuple #[.agg #[.slice x.1 r.1.fRing.length x.2.1, .slice x.2.2.1 r.1.fHints.length x.2.2.2.1, .slice x.2.2.2.2.1 r.1.fAnchors.length x.2.2.2.2.2.1, .int .i64 r.1.fEpoch, .slice x.2.2.2.2.2.2.1 r.1.fFlushes.length x.2.2.2.2.2.2.2], .int .i64 r.2]) (fun x => r.1.fRing.length ≤ x.2.1 ∧ r.1.fHints.length ≤ x.2.2.2.1 ∧ r.1.fAnchors.length ≤ x.2.2.2.2.2.1 ∧ r.1.fFlushes.length ≤ x.2.2.2.2.2.2.2) (fun x => ⟨w0, M, H, R, fun W => φ W ∧ Cl W x.1 (r.1.fRing.flatMap (fun x : Int => [Value.int .i64 x])) ∧ Cl W x.2.2.1 (r.1.fHints.flatMap (fun x : ByteArray => [Value.string x])) ∧ Cl W x.2.2.2.2.1 (r.1.fAnchors.flatMap GAnchor.enc) ∧ Cl W x.2.2.2.2.2.2.1 (r.1.fFlushes.flatMap GFlush.enc)⟩) := by
 unfold m_conf_Apply_k5 at hm
 refine cn_intro (fn := Try.f10) (N := 133) Try.func10 rfl Try.ntmps10 rfl <| c_seq <| c_region ?_
 refine g_e rfl (e_box 100020 rfl) (fun g1 _ => ?_)
 refine g_e rfl (e_box 100030 rfl) (fun g2 _ => ?_)
 refine g_e rfl (e_alloc 100040 Try.zeroValue29) (fun g3 _ => ?_)
 refine g_v rfl r_assign <| g_nil <| d_then <| c_seq <| c_region <| g_v rfl (r_loadA (tag := 100030) rfl rfl Try.isAgg35 Try.sizeOf35 rfl rfl) ?_
 replace hm := bnd hm
 obtain ⟨x4, hx5, hm⟩ := hm
 refine g_cn ⟨w0, M, _, _, φ⟩ (fun _ h => h) Try.call20 rfl rfl (c_conf_Check_k5 p1_fNode p1_fName p1_fText p1_fZone p1_fHints Ap1_fHints_0 cp1_fHints_0 hcp1_fHints_0 (fun W hS => fp1_fHints_0 W (ok_pre (H1 := [_, _, _]) (R1 := []) hS (fun W h => h))) _ hx5) (fun _ _ => ?_)
 refine g_v rfl r_assign <| g_nil <| d_then <| c_seq <| c_seq <| c_region <| g_v rfl r_move <| g_v rfl (r_neq rfl rfl) <| g_nil <| d_then ?_
 refine c_flat [(2, .pointer (some ⟨g1, 0, none⟩)), (3, .pointer (some ⟨g2, 0, none⟩)), (4, .pointer (some ⟨g3, 0, none⟩)), (6, .int .i64 x4), (14, .bool (decide (x4 ≠ 0)))] ⟨rfl, rfl, rfl, rfl, rfl, trivial⟩ (fun u => ?_)
 refine c_sta ⟨w0, M, (100040, g3, .cells #[.slice none 0 0, .slice none 0 0, .slice none 0 0, .int .i64 0, .slice none 0 0] 29 (0, 0)) :: (100030, g2, .cells #[.int .i64 5, .int .i64 p1_fNode, .string p1_fName, .string p1_fText, .string p1_fZone, .slice Ap1_fHints_0 p1_fHints.length cp1_fHints_0] 35 (0, 0)) :: (100020, g1, .cells #[.slice Ap0_0 p0.fRing.length cp0_0, .slice Ap0_1 p0.fHints.length cp0_1, .slice Ap0_2 p0.fAnchors.length cp0_2, .int .i64 p0.fEpoch, .slice Ap0_3 p0.fFlushes.length cp0_3] 29 (0, 0)) :: H, R, φ⟩ (fun _ h => h) ?_
 refine c_cond rfl (fun h6 => ?_) (fun h6 => ?_)
 ·
  replace hm := ite_t hm (of_decide_eq_true h6)
  refine c_seq <| c_region <| g_v rfl (r_loadA (tag := 100020) rfl rfl Try.isAgg29 Try.sizeOf29 rfl rfl) <| g_v rfl r_move <| g_storeL (tag := 100040) rfl rfl rfl rfl Try.sizeOf29 rfl rfl <| g_v rfl r_assign <| g_nil <| d_then <| c_ret <| d_ret_then ?_
  replace hm := Option.some.inj hm
  subst hm
  refine d_retC (Ap0_0, cp0_0, Ap0_1, cp0_1, Ap0_2, cp0_2, Ap0_3, cp0_3) Try.results10 ?_ ⟨hcp0_0, hcp0_1, hcp0_2, hcp0_3⟩ (fun W h => ok_pre (H1 := [_, _, _]) (R1 := []) h (fun W hφ => ⟨hφ, (fun W h => fp0_0 W h) W hφ, (fun W h => fp0_1 W h) W hφ, (fun W h => fp0_2 W h) W hφ, (fun W h => fp0_3 W h) W hφ⟩)) (.inr rfl)
  refine res_agg (tag := 100040) rfl rfl Try.isAgg29 Try.sizeOf29 <| res_tmp <| res_nil ?_
  exact rfl
 ·
  replace hm := ite_f hm (of_decide_eq_false h6)
  refine c_skip <| d_then <| c_seq ?_
  refine c_cut (ι := (List Int) × (List ByteArray) × (List GAnchor) × (List GFlush) × Nat × Option Addr × Nat × Option Addr × Nat × Option Addr × Nat × Option Addr × Nat) [2, 3, 4, 7] (fun ⟨l348, l351, l354, l357, g347, A349, c350, A352, c353, A355, c356, A358, c359⟩ => [(7, .pointer (some ⟨g347, 0, none⟩))]) (fun ⟨l348, l351, l354, l357, g347, A349, c350, A352, c353, A355, c356, A358, c359⟩ => ⟨w0, M, (100070, g347, .cells #[.slice A349 l348.length c350, .slice A352 l351.length c353, .slice A355 l354.length c356, .int .i64 p0.fEpoch, .slice A358 l357.length c359] 29 (0, 0)) :: (100040, g3, .cells #[.slice none 0 0, .slice none 0 0, .slice none 0 0, .int .i64 0, .slice none 0 0] 29 (0, 0)) :: (100030, g2, .cells #[.int .i64 5, .int .i64 p1_fNode, .string p1_fName, .string p1_fText, .string p1_fZone, .slice Ap1_fHints_0 p1_fHints.length cp1_fHints_0] 35 (0, 0)) :: (100020, g1, .cells #[.slice Ap0_0 p0.fRing.length cp0_0, .slice Ap0_1 p0.fHints.length cp0_1, .slice Ap0_2 p0.fAnchors.length cp0_2, .int .i64 p0.fEpoch, .slice Ap0_3 p0.fFlushes.length cp0_3] 29 (0, 0)) :: H, (100190, ⟨.slice A349 l348.length c350, 3, 1, l348.length, l348.flatMap (fun x : Int => [Value.int .i64 x])⟩) :: (100220, ⟨.slice A352 l351.length c353, 9, 1, l351.length, l351.flatMap (fun x : ByteArray => [Value.string x])⟩) :: (100250, ⟨.slice A355 l354.length c356, 43, 2, l354.length, l354.flatMap GAnchor.enc⟩) :: (100300, ⟨.slice A358 l357.length c359, 54, 2, l357.length, l357.flatMap GFlush.enc⟩) :: R, φ⟩) (fun ⟨l348, l351, l354, l357, g347, A349, c350, A352, c353, A355, c356, A358, c359⟩ => m_conf_Apply_k5_j1 p1_fNode p0 p1_fZone l348 l351 l354 l357 = some r ∧ l348.length ≤ c350 ∧ l351.length ≤ c353 ∧ l354.length ≤ c356 ∧ l357.length ≤ c359) ?_ (fun ⟨l348, l351, l354, l357, g347, A349, c350, A352, c353, A355, c356, A358, c359⟩ u ⟨hm, hc350, hc353, hc356, hc359⟩ => ?_)
  ·
   refine ga_start (n := 17) ⟨w0, M, (100040, g3, .cells #[.slice none 0 0, .slice none 0 0, .slice none 0 0, .int .i64 0, .slice none 0 0] 29 (0, 0)) :: (100030, g2, .cells #[.int .i64 5, .int .i64 p1_fNode, .string p1_fName, .string p1_fText, .string p1_fZone, .slice Ap1_fHints_0 p1_fHints.length cp1_fHints_0] 35 (0, 0)) :: (100020, g1, .cells #[.slice Ap0_0 p0.fRing.length cp0_0, .slice Ap0_1 p0.fHints.length cp0_1, .slice Ap0_2 p0.fAnchors.length cp0_2, .int .i64 p0.fEpoch, .slice Ap0_3 p0.fFlushes.length cp0_3] 29 (0, 0)) :: H, R, φ⟩ [16] #[false, false, false, false, false, false, false, false, false, false, false, false, false, false, false, false, false] (fun W h => h.phi (fun W hφ => hφ)) mixed rfl rfl <| ga_v (i := 0) (bz 17 1) rfl (by kernel_rfl) (fun _ _ _ _ h => h) rfl (r_field (n := 0) Try.underlying29 rfl Try.sizeOf25 rfl rfl) <| ga_v (i := 1) (bz 17 3) rfl (by kernel_rfl) (fun _ _ _ _ h => h) rfl (r_load (tag := 100020) rfl rfl rfl Try.isAgg25) <| ga_v (i := 3) (bz 17 11) rfl (by kernel_rfl) (fun _ _ _ _ h => h) rfl (r_field (n := 1) Try.underlying29 rfl Try.sizeOf22 rfl rfl) <| ga_v (i := 4) (bz 17 27) rfl (by kernel_rfl) (fun _ _ _ _ h => h) rfl (r_load (tag := 100020) rfl rfl rfl Try.isAgg22) <| ga_v (i := 6) (bz 17 91) rfl (by kernel_rfl) (fun _ _ _ _ h => h) rfl (r_field (n := 2) Try.underlying29 rfl Try.sizeOf26 rfl rfl) <| ga_v (i := 7) (bz 17 219) rfl (by kernel_rfl) (fun _ _ _ _ h => h) rfl (r_load (tag := 100020) rfl rfl rfl Try.isAgg26) <| ga_v (i := 9) (bz 17 731) rfl (by kernel_rfl) (fun _ _ _ _ h => h) rfl (r_field (n := 3) Try.underlying29 rfl Try.sizeOf3 rfl rfl) <| ga_v (i := 10) (bz 17 1755) rfl (by kernel_rfl) (fun _ _ _ _ h => h) rfl (r_load (tag := 100020) rfl rfl rfl Try.isAgg3) <| ga_v (i := 11) (bz 17 3803) rfl (by kernel_rfl) (fun _ _ _ _ h => h) rfl (r_field (n := 4) Try.underlying29 rfl Try.sizeOf27 rfl rfl) ?_
   refine ga_v (i := 12) (bz 17 7899) rfl (by kernel_rfl) (fun _ _ _ _ h => h) rfl (r_load (tag := 100020) rfl rfl rfl Try.isAgg27) ?_
   replace hm := bnd hm
   obtain ⟨x551, hx552, hm⟩ := hm
   refine ga_two (i := 2) (j := 15) (bz 17 7903) (bz 17 40667) rfl rfl (by kernel_rfl) (by decide) (by decide) ?_ ?_
   ·
    refine ex_cn (first := #[]) ⟨w0, M, _, _, φ⟩ (fun _ h => h) Try.call23 rfl rfl rfl (c_slices_Clone_23 p0.fRing Ap0_0 cp0_0 hcp0_0 (fun W hS => fp0_0 W hS.now) _ hx552) (fun ⟨A554, c555⟩ W hc555 h => ((ok_frontR (t := 2000) (t' := 100190) h rfl).dropR (t := 100190) rfl).phi (fun W hφ => hφ)) (fun ⟨A554, c555⟩ hc555 => ?_)
    refine ga_sta _ (fun W h => (ok_frontR (t := 2000) (t' := 100190) h rfl)) ?_
    replace hm := bnd hm
    obtain ⟨x557, hx558, hm⟩ := hm
    refine ga_two (i := 5) (j := 15) (bz 17 7935) (bz 17 40671) rfl rfl (by kernel_rfl) (by decide) (by decide) ?_ ?_
    ·
     refine ex_cn (first := #[]) ⟨w0, M, _, _, φ⟩ (fun _ h => h) Try.call24 rfl rfl rfl (c_slices_Clone_24 p0.fHints Ap0_1 cp0_1 hcp0_1 (fun W hS => fp0_1 W hS.now) _ hx558) (fun ⟨A559, c560⟩ W hc560 h => (((ok_frontR (t := 2000) (t' := 100220) h rfl).dropR (t := 100220) rfl).dropR (t := 100190) rfl).phi (fun W hφ => hφ)) (fun ⟨A559, c560⟩ hc560 => ?_)
     refine ga_sta _ (fun W h => (ok_frontR (t := 2000) (t' := 100220) h rfl)) ?_
     replace hm := bnd hm
     obtain ⟨x562, hx563, hm⟩ := hm
     refine ga_two (i := 8) (j := 15) (bz 17 8191) (bz 17 40703) rfl rfl (by kernel_rfl) (by decide) (by decide) ?_ ?_
     ·
      refine ex_cn (first := #[]) ⟨w0, M, _, _, φ⟩ (fun _ h => h) Try.call25 rfl rfl rfl (c_slices_Clone_25 p0.fAnchors Ap0_2 cp0_2 hcp0_2 (fun W hS => fp0_2 W hS.now) _ hx563) (fun ⟨A564, c565⟩ W hc565 h => ((((ok_frontR (t := 2000) (t' := 100250) h rfl).dropR (t := 100250) rfl).dropR (t := 100220) rfl).dropR (t := 100190) rfl).phi (fun W hφ => hφ)) (fun ⟨A564, c565⟩ hc565 => ?_)
      refine ga_sta _ (fun W h => (ok_frontR (t := 2000) (t' := 100250) h rfl)) ?_
      replace hm := bnd hm
      obtain ⟨x567, hx568, hm⟩ := hm
      refine ga_two (i := 13) (j := 15) (bz 17 16383) (bz 17 40959) rfl rfl (by kernel_rfl) (by decide) (by decide) ?_ ?_
      ·
       refine ex_cn (first := #[]) ⟨w0, M, _, _, φ⟩ (fun _ h => h) Try.call26 rfl rfl rfl (c_slices_Clone_26 p0.fFlushes Ap0_3 cp0_3 hcp0_3 (fun W hS => fp0_3 W hS.now) _ hx568) (fun ⟨A569, c570⟩ W hc570 h => (((((ok_frontR (t := 2000) (t' := 100300) h rfl).dropR (t := 100300) rfl).dropR (t := 100250) rfl).dropR (t := 100220) rfl).dropR (t := 100190) rfl).phi (fun W hφ => hφ)) (fun ⟨A569, c570⟩ hc570 => ?_)
       refine ga_sta _ (fun W h => (ok_frontR (t := 2000) (t' := 100300) h rfl)) <| ga_v (i := 14) (bz 17 32767) rfl (by kernel_rfl) (fun _ _ _ _ h => h) rfl (r_build _ rfl (bld29_17 _ _ _ _ _ _ _ _ _ _ _ _ _)) ?_
       refine ga_e (i := 15) (bz 17 65535) rfl (by kernel_rfl) (by decide) rfl  (e_alloc 100070 Try.zeroValue29) (fun g572 W _ h => (((((h.dropR (t := 100300) rfl).dropR (t := 100250) rfl).dropR (t := 100220) rfl).dropR (t := 100190) rfl).dropH (t := 100070) rfl).phi (fun W hφ => hφ)) (fun g572 _ => ?_)
       refine ga_lastL (i := 16) (tag := 100070) (bz 17 131071) rfl (by kernel_rfl) (by decide) rfl rfl rfl rfl Try.sizeOf29 rfl rfl <| gz_done (by kernel_rfl) ?_
       exact d_round (x551, x557, x562, x567, g572, A554, c555, A559, c560, A564, c565, A569, c570) ⟨hm, hc555, hc560, hc565, hc570⟩ Nat.zero_lt_one ⟨rfl, rfl, rfl, rfl, trivial⟩ (fun W h => (ok_frontR (t := 100190) (t' := 100190) (ok_frontR (t := 100220) (t' := 100220) (ok_frontR (t := 100250) (t' := 100250) (ok_frontR (t := 100300) (t' := 100300) h rfl) rfl) rfl) rfl).phi (fun W hφ => hφ))
      ·
       refine ex_e rfl (e_alloc 100070 Try.zeroValue29) (fun g573 W _ h => ((((h.dropR (t := 100250) rfl).dropR (t := 100220) rfl).dropR (t := 100190) rfl).dropH (t := 100070) rfl).phi (fun W hφ => hφ)) (fun g573 _ => ?_)
       refine ga_cn (first := #[]) (i := 13) (bz 17 49151) rfl (by kernel_rfl) (by decide)  ⟨w0, M, _, _, φ⟩ (fun _ h => h) Try.call26 rfl rfl rfl (c_slices_Clone_26 p0.fFlushes Ap0_3 cp0_3 hcp0_3 (fun W hS => fp0_3 W hS.now) _ hx568) (fun ⟨A574, c575⟩ W hc575 h => ((((((ok_frontR (t := 2000) (t' := 100300) h rfl).dropR (t := 100300) rfl).dropR (t := 100250) rfl).dropR (t := 100220) rfl).dropR (t := 100190) rfl).dropH (t := 100070) rfl).phi (fun W hφ => hφ)) (fun ⟨A574, c575⟩ hc575 => ?_)
       refine ga_sta _ (fun W h => (ok_frontR (t := 2000) (t' := 100300) h rfl)) <| ga_r (i := 14) (bz 17 65535) rfl (by kernel_rfl) (by decide) rfl (r_build _ rfl (bld29_17 _ _ _ _ _ _ _ _ _ _ _ _ _)) <| ga_lastL (i := 16) (tag := 100070) (bz 17 131071) rfl (by kernel_rfl) (by decide) rfl rfl rfl rfl Try.sizeOf29 rfl rfl <| gz_done (by kernel_rfl) ?_
       exact d_round (x551, x557, x562, x567, g573, A554, c555, A559, c560, A564, c565, A574, c575) ⟨hm, hc555, hc560, hc565, hc575⟩ Nat.zero_lt_one ⟨rfl, rfl, rfl, rfl, trivial⟩ (fun W h => (ok_frontR (t := 100190) (t' := 100190) (ok_frontR (t := 100220) (t' := 100220) (ok_frontR (t := 100250) (t' := 100250) (ok_frontR (t := 100300) (t' := 100300) h rfl) rfl) rfl) rfl).phi (fun W hφ => hφ))
     ·
      refine ex_e rfl (e_alloc 100070 Try.zeroValue29) (fun g577 W _ h => (((h.dropR (t := 100220) rfl).dropR (t := 100190) rfl).dropH (t := 100070) rfl).phi (fun W hφ => hφ)) (fun g577 _ => ?_)
      refine ga_cn (first := #[]) (i := 8) (bz 17 40959) rfl (by kernel_rfl) (by decide)  ⟨w0, M, _, _, φ⟩ (fun _ h => h) Try.call25 rfl rfl rfl (c_slices_Clone_25 p0.fAnchors Ap0_2 cp0_2 hcp0_2 (fun W hS => fp0_2 W hS.now) _ hx563) (fun ⟨A578, c579⟩ W hc579 h => (((((ok_frontR (t := 2000) (t' := 100250) h rfl).dropR (t := 100250) rfl).dropR (t := 100220) rfl).dropR (t := 100190) rfl).dropH (t := 100070) rfl).phi (fun W hφ => hφ)) (fun ⟨A578, c579⟩ hc579 => ?_)
      refine ga_sta _ (fun W h => (ok_frontR (t := 2000) (t' := 100250) h rfl)) ?_
      replace hm := bnd hm
      obtain ⟨x581, hx582, hm⟩ := hm
      refine ga_cn (first := #[]) (i := 13) (bz 17 49151) rfl (by kernel_rfl) (by decide)  ⟨w0, M, _, _, φ⟩ (fun _ h => h) Try.call26 rfl rfl rfl (c_slices_Clone_26 p0.fFlushes Ap0_3 cp0_3 hcp0_3 (fun W hS => fp0_3 W hS.now) _ hx582) (fun ⟨A583, c584⟩ W hc584 h => ((((((ok_frontR (t := 2000) (t' := 100300) h rfl).dropR (t := 100300) rfl).dropR (t := 100250) rfl).dropR (t := 100220) rfl).dropR (t := 100190) rfl).dropH (t := 100070) rfl).phi (fun W hφ => hφ)) (fun ⟨A583, c584⟩ hc584 => ?_)
      refine ga_sta _ (fun W h => (ok_frontR (t := 2000) (t' := 100300) h rfl)) <| ga_r (i := 14) (bz 17 65535) rfl (by kernel_rfl) (by decide) rfl (r_build _ rfl (bld29_17 _ _ _ _ _ _ _ _ _ _ _ _ _)) <| ga_lastL (i := 16) (tag := 100070) (bz 17 131071) rfl (by kernel_rfl) (by decide) rfl rfl rfl rfl Try.sizeOf29 rfl rfl <| gz_done (by kernel_rfl) ?_
      exact d_round (x551, x557, x562, x581, g577, A554, c555, A559, c560, A578, c579, A583, c584) ⟨hm, hc555, hc560, hc579, hc584⟩ Nat.zero_lt_one ⟨rfl, rfl, rfl, rfl, trivial⟩ (fun W h => (ok_frontR (t := 100190) (t' := 100190) (ok_frontR (t := 100220) (t' := 100220) (ok_frontR (t := 100250) (t' := 100250) (ok_frontR (t := 100300) (t' := 100300) h rfl) rfl) rfl) rfl).phi (fun W hφ => hφ))
    ·
     refine ex_e rfl (e_alloc 100070 Try.zeroValue29) (fun g586 W _ h => ((h.dropR (t := 100190) rfl).dropH (t := 100070) rfl).phi (fun W hφ => hφ)) (fun g586 _ => ?_)
     refine ga_cn (first := #[]) (i := 5) (bz 17 40703) rfl (by kernel_rfl) (by decide)  ⟨w0, M, _, _, φ⟩ (fun _ h => h) Try.call24 rfl rfl rfl (c_slices_Clone_24 p0.fHints Ap0_1 cp0_1 hcp0_1 (fun W hS => fp0_1 W hS.now) _ hx558) (fun ⟨A587, c588⟩ W hc588 h => ((((ok_frontR (t := 2000) (t' := 100220) h rfl).dropR (t := 100220) rfl).dropR (t := 100190) rfl).dropH (t := 100070) rfl).phi (fun W hφ => hφ)) (fun ⟨A587, c588⟩ hc588 => ?_)
     refine ga_sta _ (fun W h => (ok_frontR (t := 2000) (t' := 100220) h rfl)) ?_
     replace hm := bnd hm
     obtain ⟨x590, hx591, hm⟩ := hm
     refine ga_cn (first := #[]) (i := 8) (bz 17 40959) rfl (by kernel_rfl) (by decide)  ⟨w0, M, _, _, φ⟩ (fun _ h => h) Try.call25 rfl rfl rfl (c_slices_Clone_25 p0.fAnchors Ap0_2 cp0_2 hcp0_2 (fun W hS => fp0_2 W hS.now) _ hx591) (fun ⟨A592, c593⟩ W hc593 h => (((((ok_frontR (t := 2000) (t' := 100250) h rfl).dropR (t := 100250) rfl).dropR (t := 100220) rfl).dropR (t := 100190) rfl).dropH (t := 100070) rfl).phi (fun W hφ => hφ)) (fun ⟨A592, c593⟩ hc593 => ?_)
     refine ga_sta _ (fun W h => (ok_frontR (t := 2000) (t' := 100250) h rfl)) ?_
     replace hm := bnd hm
     obtain ⟨x595, hx596, hm⟩ := hm
     refine ga_cn (first := #[]) (i := 13) (bz 17 49151) rfl (by kernel_rfl) (by decide)  ⟨w0, M, _, _, φ⟩ (fun _ h => h) Try.call26 rfl rfl rfl (c_slices_Clone_26 p0.fFlushes Ap0_3 cp0_3 hcp0_3 (fun W hS => fp0_3 W hS.now) _ hx596) (fun ⟨A597, c598⟩ W hc598 h => ((((((ok_frontR (t := 2000) (t' := 100300) h rfl).dropR (t := 100300) rfl).dropR (t := 100250) rfl).dropR (t := 100220) rfl).dropR (t := 100190) rfl).dropH (t := 100070) rfl).phi (fun W hφ => hφ)) (fun ⟨A597, c598⟩ hc598 => ?_)
     refine ga_sta _ (fun W h => (ok_frontR (t := 2000) (t' := 100300) h rfl)) <| ga_r (i := 14) (bz 17 65535) rfl (by kernel_rfl) (by decide) rfl (r_build _ rfl (bld29_17 _ _ _ _ _ _ _ _ _ _ _ _ _)) <| ga_lastL (i := 16) (tag := 100070) (bz 17 131071) rfl (by kernel_rfl) (by decide) rfl rfl rfl rfl Try.sizeOf29 rfl rfl <| gz_done (by kernel_rfl) ?_
     exact d_round (x551, x557, x590, x595, g586, A554, c555, A587, c588, A592, c593, A597, c598) ⟨hm, hc555, hc588, hc593, hc598⟩ Nat.zero_lt_one ⟨rfl, rfl, rfl, rfl, trivial⟩ (fun W h => (ok_frontR (t := 100190) (t' := 100190) (ok_frontR (t := 100220) (t' := 100220) (ok_frontR (t := 100250) (t' := 100250) (ok_frontR (t := 100300) (t' := 100300) h rfl) rfl) rfl) rfl).phi (fun W hφ => hφ))
   ·
    refine ex_e rfl (e_alloc 100070 Try.zeroValue29) (fun g600 W _ h => (h.dropH (t := 100070) rfl).phi (fun W hφ => hφ)) (fun g600 _ => ?_)
    refine ga_cn (first := #[]) (i := 2) (bz 17 40671) rfl (by kernel_rfl) (by decide)  ⟨w0, M, _, _, φ⟩ (fun _ h => h) Try.call23 rfl rfl rfl (c_slices_Clone_23 p0.fRing Ap0_0 cp0_0 hcp0_0 (fun W hS => fp0_0 W hS.now) _ hx552) (fun ⟨A601, c602⟩ W hc602 h => (((ok_frontR (t := 2000) (t' := 100190) h rfl).dropR (t := 100190) rfl).dropH (t := 100070) rfl).phi (fun W hφ => hφ)) (fun ⟨A601, c602⟩ hc602 => ?_)
    refine ga_sta _ (fun W h => (ok_frontR (t := 2000) (t' := 100190) h rfl)) ?_
    replace hm := bnd hm
    obtain ⟨x604, hx605, hm⟩ := hm
    refine ga_cn (first := #[]) (i := 5) (bz 17 40703) rfl (by kernel_rfl) (by decide)  ⟨w0, M, _, _, φ⟩ (fun _ h => h) Try.call24 rfl rfl rfl (c_slices_Clone_24 p0.fHints Ap0_1 cp0_1 hcp0_1 (fun W hS => fp0_1 W hS.now) _ hx605) (fun ⟨A606, c607⟩ W hc607 h => ((((ok_frontR (t := 2000) (t' := 100220) h rfl).dropR (t := 100220) rfl).dropR (t := 100190) rfl).dropH (t := 100070) rfl).phi (fun W hφ => hφ)) (fun ⟨A606, c607⟩ hc607 => ?_)
    refine ga_sta _ (fun W h => (ok_frontR (t := 2000) (t' := 100220) h rfl)) ?_
    replace hm := bnd hm
    obtain ⟨x609, hx610, hm⟩ := hm
    refine ga_cn (first := #[]) (i := 8) (bz 17 40959) rfl (by kernel_rfl) (by decide)  ⟨w0, M, _, _, φ⟩ (fun _ h => h) Try.call25 rfl rfl rfl (c_slices_Clone_25 p0.fAnchors Ap0_2 cp0_2 hcp0_2 (fun W hS => fp0_2 W hS.now) _ hx610) (fun ⟨A611, c612⟩ W hc612 h => (((((ok_frontR (t := 2000) (t' := 100250) h rfl).dropR (t := 100250) rfl).dropR (t := 100220) rfl).dropR (t := 100190) rfl).dropH (t := 100070) rfl).phi (fun W hφ => hφ)) (fun ⟨A611, c612⟩ hc612 => ?_)
    refine ga_sta _ (fun W h => (ok_frontR (t := 2000) (t' := 100250) h rfl)) ?_
    replace hm := bnd hm
    obtain ⟨x614, hx615, hm⟩ := hm
    refine ga_cn (first := #[]) (i := 13) (bz 17 49151) rfl (by kernel_rfl) (by decide)  ⟨w0, M, _, _, φ⟩ (fun _ h => h) Try.call26 rfl rfl rfl (c_slices_Clone_26 p0.fFlushes Ap0_3 cp0_3 hcp0_3 (fun W hS => fp0_3 W hS.now) _ hx615) (fun ⟨A616, c617⟩ W hc617 h => ((((((ok_frontR (t := 2000) (t' := 100300) h rfl).dropR (t := 100300) rfl).dropR (t := 100250) rfl).dropR (t := 100220) rfl).dropR (t := 100190) rfl).dropH (t := 100070) rfl).phi (fun W hφ => hφ)) (fun ⟨A616, c617⟩ hc617 => ?_)
    refine ga_sta _ (fun W h => (ok_frontR (t := 2000) (t' := 100300) h rfl)) <| ga_r (i := 14) (bz 17 65535) rfl (by kernel_rfl) (by decide) rfl (r_build _ rfl (bld29_17 _ _ _ _ _ _ _ _ _ _ _ _ _)) <| ga_lastL (i := 16) (tag := 100070) (bz 17 131071) rfl (by kernel_rfl) (by decide) rfl rfl rfl rfl Try.sizeOf29 rfl rfl <| gz_done (by kernel_rfl) ?_
    exact d_round (x551, x604, x609, x614, g600, A601, c602, A606, c607, A611, c612, A616, c617) ⟨hm, hc602, hc607, hc612, hc617⟩ Nat.zero_lt_one ⟨rfl, rfl, rfl, rfl, trivial⟩ (fun W h => (ok_frontR (t := 100190) (t' := 100190) (ok_frontR (t := 100220) (t' := 100220) (ok_frontR (t := 100250) (t' := 100250) (ok_frontR (t := 100300) (t' := 100300) h rfl) rfl) rfl) rfl).phi (fun W hφ => hφ))
  ·
   unfold m_conf_Apply_k5_j1 at hm
   refine d_flat [(2, .pointer (some ⟨g1, 0, none⟩)), (3, .pointer (some ⟨g2, 0, none⟩)), (4, .pointer (some ⟨g3, 0, none⟩)), (7, .pointer (some ⟨g347, 0, none⟩))] ⟨rfl, rfl, rfl, rfl, trivial⟩ (fun u => ?_)
   refine d_sta ⟨w0, M, (100070, g347, .cells #[.slice A349 l348.length c350, .slice A352 l351.length c353, .slice A355 l354.length c356, .int .i64 p0.fEpoch, .slice A358 l357.length c359] 29 (0, 0)) :: (100040, g3, .cells #[.slice none 0 0, .slice none 0 0, .slice none 0 0, .int .i64 0, .slice none 0 0] 29 (0, 0)) :: (100030, g2, .cells #[.int .i64 5, .int .i64 p1_fNode, .string p1_fName, .string p1_fText, .string p1_fZone, .slice Ap1_fHints_0 p1_fHints.length cp1_fHints_0] 35 (0, 0)) :: (100020, g1, .cells #[.slice Ap0_0 p0.fRing.length cp0_0, .slice Ap0_1 p0.fHints.length cp0_1, .slice Ap0_2 p0.fAnchors.length cp0_2, .int .i64 p0.fEpoch, .slice Ap0_3 p0.fFlushes.length cp0_3] 29 (0, 0)) :: H, (100190, ⟨.slice A349 l348.length c350, 3, 1, l348.length, l348.flatMap (fun x : Int => [Value.int .i64 x])⟩) :: (100220, ⟨.slice A352 l351.length c353, 9, 1, l351.length, l351.flatMap (fun x : ByteArray => [Value.string x])⟩) :: (100250, ⟨.slice A355 l354.length c356, 43, 2, l354.length, l354.flatMap GAnchor.enc⟩) :: (100300, ⟨.slice A358 l357.length c359, 54, 2, l357.length, l357.flatMap GFlush.enc⟩) :: R, φ⟩ (fun _ h => h) <| d_then <| c_seq <| c_region <| g_v rfl (r_field (n := 0) Try.underlying29 rfl Try.sizeOf25 rfl rfl) <| g_v rfl (r_load (tag := 100070) rfl rfl rfl Try.isAgg25) <| g_v rfl (r_field (n := 1) Try.underlying35 rfl Try.sizeOf3 rfl rfl) <| g_v rfl (r_load (tag := 100030) rfl rfl rfl Try.isAgg3) ?_
   replace hm := bnd hm
   obtain ⟨⟨x360, x361⟩, hx362, hm⟩ := hm
   refine g_cn ⟨w0, M, _, _, φ⟩ (fun _ h => h) Try.call27 rfl rfl (c_slices_BinarySearch_27 l348 A349 c350 hc350 (fun W hS => rowCl (tag := 100190) rfl W hS) p1_fNode _ hx362) (fun _ _ => ?_)
   refine g_v rfl r_move <| g_v rfl (r_extract rfl rfl) <| g_v rfl (r_extract rfl rfl) <| g_v rfl r_assign <| g_v rfl r_assign <| g_nil <| d_then ?_
   refine c_flat [(2, .pointer (some ⟨g1, 0, none⟩)), (3, .pointer (some ⟨g2, 0, none⟩)), (4, .pointer (some ⟨g3, 0, none⟩)), (7, .pointer (some ⟨g347, 0, none⟩)), (8, .int .i64 x360), (9, .bool x361)] ⟨rfl, rfl, rfl, rfl, rfl, rfl, trivial⟩ (fun u => ?_)
   refine c_seq ?_
   refine c_cut (ι := (List GFlush) × Int × Option Addr × Nat) [4, 7] (fun ⟨l383, i386, A384, c385⟩ => []) (fun ⟨l383, i386, A384, c385⟩ => ⟨w0, M, (100070, g347, .cells #[.slice A349 l348.length c350, .slice A352 l351.length c353, .slice A355 l354.length c356, .int .i64 i386, .slice A384 l383.length c385] 29 (0, 0)) :: (100040, g3, .cells #[.slice none 0 0, .slice none 0 0, .slice none 0 0, .int .i64 0, .slice none 0 0] 29 (0, 0)) :: H, (100190, ⟨.slice A349 l348.length c350, 3, 1, l348.length, l348.flatMap (fun x : Int => [Value.int .i64 x])⟩) :: (100220, ⟨.slice A352 l351.length c353, 9, 1, l351.length, l351.flatMap (fun x : ByteArray => [Value.string x])⟩) :: (100250, ⟨.slice A355 l354.length c356, 43, 2, l354.length, l354.flatMap GAnchor.enc⟩) :: (100300, ⟨.slice A384 l383.length c385, 54, 2, l383.length, l383.flatMap GFlush.enc⟩) :: R, φ⟩) (fun ⟨l383, i386, A384, c385⟩ => m_conf_Apply_k5_j2 l348 l351 l354 l383 i386 = some r ∧ l383.length ≤ c385) ?_ (fun ⟨l383, i386, A384, c385⟩ u ⟨hm, hc385⟩ => ?_)
   ·
    refine c_seq <| c_region <| g_v rfl (r_field (n := 0) Try.underlying35 rfl Try.sizeOf3 rfl rfl) <| g_v rfl (r_load (tag := 100030) rfl rfl rfl Try.isAgg3) <| g_nil <| d_then <| c_block <| c_seq <| c_region <| g_v rfl (r_eql rfl rfl) ?_
    refine g_v rfl r_assign <| g_nil <| d_then <| c_cond0 rfl (by decide) <| c_seq <| c_region <| g_v rfl (r_eql rfl rfl) <| g_v rfl r_assign <| g_nil <| d_then ?_
    refine c_cond0 rfl (by decide) <| c_seq <| c_region <| g_v rfl (r_eql rfl rfl) <| g_v rfl r_assign <| g_nil <| d_then <| c_cond0 rfl (by decide) <| c_seq <| c_region ?_
    refine g_v rfl (r_eql rfl rfl) <| g_v rfl r_assign <| g_nil <| d_then ?_
    refine c_flat [(2, .pointer (some ⟨g1, 0, none⟩)), (3, .pointer (some ⟨g2, 0, none⟩)), (4, .pointer (some ⟨g3, 0, none⟩)), (7, .pointer (some ⟨g347, 0, none⟩)), (41, .int .i64 5), (72, .bool (decide (5 = 4)))] ⟨rfl, rfl, rfl, rfl, rfl, rfl, trivial⟩ (fun u => ?_)
    refine c_cond0 rfl (by decide) <| c_seq <| c_region <| g_v rfl (r_eql rfl rfl) <| g_v rfl r_assign <| g_nil <| d_then <| c_cond1 rfl (by decide) <| c_seq <| c_seq ?_
    refine c_region <| g_v rfl (r_field (n := 3) Try.underlying29 rfl Try.sizeOf3 rfl rfl) <| g_v rfl (r_load (tag := 100070) rfl rfl rfl Try.isAgg3) <| g_v rfl (r_geq rfl rfl) <| g_nil <| d_then ?_
    refine c_cond rfl (fun h395 => ?_) (fun h395 => ?_)
    ·
     replace hm := ite_t hm (of_decide_eq_true h395)
     refine c_seq <| c_region <| g_v rfl (r_loadA (tag := 100020) rfl rfl Try.isAgg29 Try.sizeOf29 rfl rfl) <| g_storeL (tag := 100040) rfl rfl rfl rfl Try.sizeOf29 rfl rfl <| g_v rfl r_assign <| g_nil <| d_then <| c_ret <| d_ret_then <| d_ret_block ?_
     refine d_ret_then <| d_ret_then ?_
     replace hm := Option.some.inj hm
     subst hm
     refine d_retC (Ap0_0, cp0_0, Ap0_1, cp0_1, Ap0_2, cp0_2, Ap0_3, cp0_3) Try.results10 ?_ ⟨hcp0_0, hcp0_1, hcp0_2, hcp0_3⟩ (fun W h => ok_pre (H1 := [_, _, _, _]) (R1 := [_, _, _, _]) h (fun W hφ => ⟨hφ, (fun W h => fp0_0 W h) W hφ, (fun W h => fp0_1 W h) W hφ, (fun W h => fp0_2 W h) W hφ, (fun W h => fp0_3 W h) W hφ⟩)) (.inr rfl)
     refine res_agg (tag := 100040) rfl rfl Try.isAgg29 Try.sizeOf29 <| res_tmp <| res_nil ?_
     exact rfl
    ·
     replace hm := ite_f hm (of_decide_eq_false h395)
     refine c_skip <| d_then <| c_seq <| c_region <| g_v rfl (r_field (n := 3) Try.underlying29 rfl Try.sizeOf3 rfl rfl) <| g_v rfl (r_load (tag := 100070) rfl rfl rfl Try.isAgg3) <| g_v rfl (r_add rfl rfl rfl) <| g_v rfl (r_field (n := 3) Try.underlying29 rfl Try.sizeOf3 rfl rfl) <| g_storeL (tag := 100070) rfl rfl rfl rfl Try.sizeOf3 rfl rfl <| g_nil ?_
     refine d_then ?_
     refine c_flat [(3, .pointer (some ⟨g2, 0, none⟩)), (4, .pointer (some ⟨g3, 0, none⟩)), (7, .pointer (some ⟨g347, 0, none⟩))] ⟨rfl, rfl, rfl, trivial⟩ (fun u => ?_)
     refine c_sta ⟨w0, M, (100070, g347, .cells #[.slice A349 l348.length c350, .slice A352 l351.length c353, .slice A355 l354.length c356, .int .i64 (w64 (p0.fEpoch + 1)), .slice A358 l357.length c359] 29 (0, 0)) :: (100040, g3, .cells #[.slice none 0 0, .slice none 0 0, .slice none 0 0, .int .i64 0, .slice none 0 0] 29 (0, 0)) :: (100030, g2, .cells #[.int .i64 5, .int .i64 p1_fNode, .string p1_fName, .string p1_fText, .string p1_fZone, .slice Ap1_fHints_0 p1_fHints.length cp1_fHints_0] 35 (0, 0)) :: (100020, g1, .cells #[.slice Ap0_0 p0.fRing.length cp0_0, .slice Ap0_1 p0.fHints.length cp0_1, .slice Ap0_2 p0.fAnchors.length cp0_2, .int .i64 p0.fEpoch, .slice Ap0_3 p0.fFlushes.length cp0_3] 29 (0, 0)) :: H, (100190, ⟨.slice A349 l348.length c350, 3, 1, l348.length, l348.flatMap (fun x : Int => [Value.int .i64 x])⟩) :: (100220, ⟨.slice A352 l351.length c353, 9, 1, l351.length, l351.flatMap (fun x : ByteArray => [Value.string x])⟩) :: (100250, ⟨.slice A355 l354.length c356, 43, 2, l354.length, l354.flatMap GAnchor.enc⟩) :: (100300, ⟨.slice A358 l357.length c359, 54, 2, l357.length, l357.flatMap GFlush.enc⟩) :: R, φ⟩ (fun _ h => h) <| c_seq <| c_region <| g_v rfl (r_field (n := 4) Try.underlying35 rfl Try.sizeOf9 rfl rfl) <| g_v rfl (r_load (tag := 100030) rfl rfl rfl Try.isAgg9) ?_
     replace hm := bnd hm
     obtain ⟨x396, hx397, hm⟩ := hm
     refine g_cn ⟨w0, M, _, _, φ⟩ (fun _ h => h) Try.call36 rfl rfl (c_name_Lower p1_fZone _ hx397) (fun _ _ => ?_)
     refine g_e rfl (e_alloc 100100 Try.zeroValue9) (fun g398 _ => ?_)
     refine g_storeL (tag := 100100) rfl rfl rfl rfl Try.sizeOf9 rfl rfl <| g_nil <| d_then <| c_seq <| c_region <| g_v rfl (r_field (n := 4) Try.underlying29 rfl Try.sizeOf27 rfl rfl) <| g_v rfl (r_load (tag := 100070) rfl rfl rfl Try.isAgg27) <| g_v rfl (r_mkf rfl) ?_
     replace hm := bnd hm
     obtain ⟨x399, hx400, hm⟩ := hm
     refine g_cn ⟨w0, M, (1000, g398, .cells #[.string x396] 9 (0, 0)) :: (100070, g347, .cells #[.slice A349 l348.length c350, .slice A352 l351.length c353, .slice A355 l354.length c356, .int .i64 (w64 (p0.fEpoch + 1)), .slice A358 l357.length c359] 29 (0, 0)) :: (100040, g3, .cells #[.slice none 0 0, .slice none 0 0, .slice none 0 0, .int .i64 0, .slice none 0 0] 29 (0, 0)) :: (100030, g2, .cells #[.int .i64 5, .int .i64 p1_fNode, .string p1_fName, .string p1_fText, .string p1_fZone, .slice Ap1_fHints_0 p1_fHints.length cp1_fHints_0] 35 (0, 0)) :: (100020, g1, .cells #[.slice Ap0_0 p0.fRing.length cp0_0, .slice Ap0_1 p0.fHints.length cp0_1, .slice Ap0_2 p0.fAnchors.length cp0_2, .int .i64 p0.fEpoch, .slice Ap0_3 p0.fFlushes.length cp0_3] 29 (0, 0)) :: H, (1000, ⟨.slice A358 l357.length c359, 54, 2, l357.length, l357.flatMap GFlush.enc⟩) :: (100190, ⟨.slice A349 l348.length c350, 3, 1, l348.length, l348.flatMap (fun x : Int => [Value.int .i64 x])⟩) :: (100220, ⟨.slice A352 l351.length c353, 9, 1, l351.length, l351.flatMap (fun x : ByteArray => [Value.string x])⟩) :: (100250, ⟨.slice A355 l354.length c356, 43, 2, l354.length, l354.flatMap GAnchor.enc⟩) :: R, φ⟩ (fun W h => (ok_front (t := 100100) (t' := 1000) (ok_frontR (t := 100300) (t' := 1000) h rfl) rfl)) Try.call37 rfl rfl (c_slices_DeleteFunc_37 l357 A358 c359 hc359 g398 x396 _ hx400) (fun ⟨A401, c402⟩ hc402 => ?_)
     refine g_sta _ (fun W h => (ok_frontR (t := 2000) (t' := 100300) (ok_front (t := 1000) (t' := 100100) h rfl) rfl)) <| g_v rfl (r_field (n := 4) Try.underlying29 rfl Try.sizeOf27 rfl rfl) <| g_storeL (tag := 100070) rfl rfl rfl rfl Try.sizeOf27 rfl rfl <| g_nil <| d_then ?_
     refine c_flat [(4, .pointer (some ⟨g3, 0, none⟩)), (7, .pointer (some ⟨g347, 0, none⟩)), (10, .pointer (some ⟨g398, 0, none⟩))] ⟨rfl, rfl, rfl, trivial⟩ (fun u => ?_)
     refine c_sta ⟨w0, M, (100100, g398, .cells #[.string x396] 9 (0, 0)) :: (100070, g347, .cells #[.slice A349 l348.length c350, .slice A352 l351.length c353, .slice A355 l354.length c356, .int .i64 (w64 (p0.fEpoch + 1)), .slice A401 x399.length c402] 29 (0, 0)) :: (100040, g3, .cells #[.slice none 0 0, .slice none 0 0, .slice none 0 0, .int .i64 0, .slice none 0 0] 29 (0, 0)) :: (100030, g2, .cells #[.int .i64 5, .int .i64 p1_fNode, .string p1_fName, .string p1_fText, .string p1_fZone, .slice Ap1_fHints_0 p1_fHints.length cp1_fHints_0] 35 (0, 0)) :: (100020, g1, .cells #[.slice Ap0_0 p0.fRing.length cp0_0, .slice Ap0_1 p0.fHints.length cp0_1, .slice Ap0_2 p0.fAnchors.length cp0_2, .int .i64 p0.fEpoch, .slice Ap0_3 p0.fFlushes.length cp0_3] 29 (0, 0)) :: H, (100300, ⟨.slice A401 x399.length c402, 54, 2, x399.length, x399.flatMap GFlush.enc⟩) :: (100190, ⟨.slice A349 l348.length c350, 3, 1, l348.length, l348.flatMap (fun x : Int => [Value.int .i64 x])⟩) :: (100220, ⟨.slice A352 l351.length c353, 9, 1, l351.length, l351.flatMap (fun x : ByteArray => [Value.string x])⟩) :: (100250, ⟨.slice A355 l354.length c356, 43, 2, l354.length, l354.flatMap GAnchor.enc⟩) :: R, φ⟩ (fun _ h => h) <| c_seq ?_
     refine c_cut (ι := (List GFlush) × ByteArray × Int × Option Addr × Nat) [4, 7, 10] (fun ⟨l405, s408, i409, A406, c407⟩ => []) (fun ⟨l405, s408, i409, A406, c407⟩ => ⟨w0, M, (100100, g398, .cells #[.string s408] 9 (0, 0)) :: (100070, g347, .cells #[.slice A349 l348.length c350, .slice A352 l351.length c353, .slice A355 l354.length c356, .int .i64 i409, .slice A406 l405.length c407] 29 (0, 0)) :: (100040, g3, .cells #[.slice none 0 0, .slice none 0 0, .slice none 0 0, .int .i64 0, .slice none 0 0] 29 (0, 0)) :: H, (100300, ⟨.slice A406 l405.length c407, 54, 2, l405.length, l405.flatMap GFlush.enc⟩) :: (100190, ⟨.slice A349 l348.length c350, 3, 1, l348.length, l348.flatMap (fun x : Int => [Value.int .i64 x])⟩) :: (100220, ⟨.slice A352 l351.length c353, 9, 1, l351.length, l351.flatMap (fun x : ByteArray => [Value.string x])⟩) :: (100250, ⟨.slice A355 l354.length c356, 43, 2, l354.length, l354.flatMap GAnchor.enc⟩) :: R, φ⟩) (fun ⟨l405, s408, i409, A406, c407⟩ => m_conf_Apply_k5_j3 l348 l351 l354 l405 s408 i409 = some r ∧ l405.length ≤ c407) ?_ (fun ⟨l405, s408, i409, A406, c407⟩ u ⟨hm, hc407⟩ => ?_)
     ·
      refine c_seq <| c_region <| g_v rfl (r_field (n := 4) Try.underlying29 rfl Try.sizeOf27 rfl rfl) <| g_v rfl (r_load (tag := 100070) rfl rfl rfl Try.isAgg27) <| g_v rfl (r_lenL Try.underlying27 rfl) <| g_v rfl (r_geq rfl rfl) <| g_nil <| d_then ?_
      refine c_cond rfl (fun h414 => ?_) (fun h414 => ?_)
      ·
       replace hm := ite_t hm (of_decide_eq_true h414)
       refine c_region <| g_v rfl (r_field (n := 4) Try.underlying29 rfl Try.sizeOf27 rfl rfl) <| g_storeL (tag := 100070) rfl rfl rfl rfl Try.sizeOf27 rfl rfl <| g_storeL (tag := 100100) rfl rfl rfl rfl Try.sizeOf9 rfl rfl <| g_nil <| d_sta _ (fun W h => nilR (Sta.ok.dropR (t := 100300) h rfl) 100300 54 2) ?_
       exact d_round (([] : List GFlush), (⟨#[0]⟩ : ByteArray), w64 (p0.fEpoch + 1), none, 0) ⟨hm, (Nat.le_refl 0)⟩ Nat.zero_lt_one ⟨rfl, rfl, rfl, trivial⟩ (fun W h => ((h.dropH (t := 100030) rfl).dropH (t := 100020) rfl).phi (fun W hφ => hφ))
      ·
       replace hm := ite_f hm (of_decide_eq_false h414)
       refine c_skip ?_
       exact d_round (x399, x396, w64 (p0.fEpoch + 1), A401, c402) ⟨hm, hc402⟩ Nat.zero_lt_one ⟨rfl, rfl, rfl, trivial⟩ (fun W h => ((h.dropH (t := 100030) rfl).dropH (t := 100020) rfl).phi (fun W hφ => hφ))
     ·
      unfold m_conf_Apply_k5_j3 at hm
      refine d_flat [(4, .pointer (some ⟨g3, 0, none⟩)), (7, .pointer (some ⟨g347, 0, none⟩)), (10, .pointer (some ⟨g398, 0, none⟩))] ⟨rfl, rfl, rfl, trivial⟩ (fun u => ?_)
      refine d_sta ⟨w0, M, (100100, g398, .cells #[.string s408] 9 (0, 0)) :: (100070, g347, .cells #[.slice A349 l348.length c350, .slice A352 l351.length c353, .slice A355 l354.length c356, .int .i64 i409, .slice A406 l405.length c407] 29 (0, 0)) :: (100040, g3, .cells #[.slice none 0 0, .slice none 0 0, .slice none 0 0, .int .i64 0, .slice none 0 0] 29 (0, 0)) :: H, (100300, ⟨.slice A406 l405.length c407, 54, 2, l405.length, l405.flatMap GFlush.enc⟩) :: (100190, ⟨.slice A349 l348.length c350, 3, 1, l348.length, l348.flatMap (fun x : Int => [Value.int .i64 x])⟩) :: (100220, ⟨.slice A352 l351.length c353, 9, 1, l351.length, l351.flatMap (fun x : ByteArray => [Value.string x])⟩) :: (100250, ⟨.slice A355 l354.length c356, 43, 2, l354.length, l354.flatMap GAnchor.enc⟩) :: R, φ⟩ (fun _ h => h) <| d_then <| c_region <| g_v rfl (r_field (n := 4) Try.underlying29 rfl Try.sizeOf27 rfl rfl) <| g_v rfl (r_load (tag := 100070) rfl rfl rfl Try.isAgg27) <| g_v rfl (r_field (n := 3) Try.underlying29 rfl Try.sizeOf3 rfl rfl) <| g_v rfl (r_load (tag := 100070) rfl rfl rfl Try.isAgg3) <| g_v rfl (r_load (tag := 100100) rfl rfl rfl Try.isAgg9) <| g_v rfl (r_build _ rfl (bld54_18 _ _)) ?_
      refine g_e rfl (e_lit (tag := 101290) (l := [(⟨i409, s408⟩ : GFlush)]) (enc := GFlush.enc) (sz := 2) rfl Try.underlying27 (lit54_19 _ _) rfl rfl (fun _ => rfl)) (fun g410 _ => ?_)
      replace hm := bnd hm
      obtain ⟨l411, hl411, hm⟩ := hm
      refine g_e rfl (e_appR (enc := GFlush.enc) (l := l405) (l1 := [(⟨i409, s408⟩ : GFlush)]) (l2 := l411) (tag := 100300) Try.underlying27 inf54_16 rfl (by decide) (by decide) (fun _ => rfl) (fun _ => rfl) rfl hc407 rfl rfl (fun W hS => rowCl (tag := 101290) rfl W hS) hl411) (fun ⟨A412, c413⟩ hc413 => ?_)
      refine g_v rfl (r_field (n := 4) Try.underlying29 rfl Try.sizeOf27 rfl rfl) <| g_storeL (tag := 100070) rfl rfl rfl rfl Try.sizeOf27 rfl rfl <| g_nil <| d_normal_block ?_
      exact d_round (l411, i409, A412, c413) ⟨hm, hc413⟩ Nat.zero_lt_one ⟨rfl, rfl, trivial⟩ (fun W h => (ok_frontR (t := 100190) (t' := 100190) (ok_frontR (t := 100220) (t' := 100220) (ok_frontR (t := 100250) (t' := 100250) (ok_frontR (t := 100300) (t' := 100300) ((h.dropR (t := 101290) rfl).dropH (t := 100100) rfl) rfl) rfl) rfl) rfl).phi (fun W hφ => hφ))
   ·
    unfold m_conf_Apply_k5_j2 at hm
    refine d_flat [(4, .pointer (some ⟨g3, 0, none⟩)), (7, .pointer (some ⟨g347, 0, none⟩))] ⟨rfl, rfl, trivial⟩ (fun u => ?_)
    refine d_sta ⟨w0, M, (100070, g347, .cells #[.slice A349 l348.length c350, .slice A352 l351.length c353, .slice A355 l354.length c356, .int .i64 i386, .slice A384 l383.length c385] 29 (0, 0)) :: (100040, g3, .cells #[.slice none 0 0, .slice none 0 0, .slice none 0 0, .int .i64 0, .slice none 0 0] 29 (0, 0)) :: H, (100190, ⟨.slice A349 l348.length c350, 3, 1, l348.length, l348.flatMap (fun x : Int => [Value.int .i64 x])⟩) :: (100220, ⟨.slice A352 l351.length c353, 9, 1, l351.length, l351.flatMap (fun x : ByteArray => [Value.string x])⟩) :: (100250, ⟨.slice A355 l354.length c356, 43, 2, l354.length, l354.flatMap GAnchor.enc⟩) :: (100300, ⟨.slice A384 l383.length c385, 54, 2, l383.length, l383.flatMap GFlush.enc⟩) :: R, φ⟩ (fun _ h => h) <| d_then <| c_seq <| c_region <| g_v rfl (r_loadA (tag := 100070) rfl rfl Try.isAgg29 Try.sizeOf29 rfl rfl) <| g_storeL (tag := 100040) rfl rfl rfl rfl Try.sizeOf29 rfl rfl <| g_v rfl r_assign <| g_nil <| d_then <| c_ret ?_
    replace hm := Option.some.inj hm
    subst hm
    refine d_shut (tag := 100190) rfl (fun φ387 q387' => ?_)
    have q387 : ∀ W, φ387 W → φ W := fun W h => (q387' W h).1
    have f388 := fun (W : World) (h : φ387 W) => (q387' W h).2
    refine d_shut (tag := 100220) rfl (fun φ389 q389' => ?_)
    have q389 : ∀ W, φ389 W → φ387 W := fun W h => (q389' W h).1
    have f390 := fun (W : World) (h : φ389 W) => (q389' W h).2
    refine d_shut (tag := 100250) rfl (fun φ391 q391' => ?_)
    have q391 : ∀ W, φ391 W → φ389 W := fun W h => (q391' W h).1
    have f392 := fun (W : World) (h : φ391 W) => (q391' W h).2
    refine d_shut (tag := 100300) rfl (fun φ393 q393' => ?_)
    have q393 : ∀ W, φ393 W → φ391 W := fun W h => (q393' W h).1
    have f394 := fun (W : World) (h : φ393 W) => (q393' W h).2
    refine d_retC (A349, c350, A352, c353, A355, c356, A384, c385) Try.results10 ?_ ⟨hc350, hc353, hc356, hc385⟩ (fun W h => ok_pre (H1 := [_, _]) (R1 := []) h (fun W hφ => ⟨(q387 _ (q389 _ (q391 _ (q393 _ hφ)))), (fun W h => f388 W (q389 _ (q391 _ (q393 _ h)))) W hφ, (fun W h => f390 W (q391 _ (q393 _ h))) W hφ, (fun W h => f392 W (q393 _ h)) W hφ, (fun W h => f394 W h) W hφ⟩)) (.inr rfl)
    refine res_agg (tag := 100040) rfl rfl Try.isAgg29 Try.sizeOf29 <| res_tmp <| res_nil ?_
    exact rfl
noncomputable def m_conf_Floor_j1  (i27 : Int) : Option Int :=
  some i27
noncomputable def m_conf_Floor_s2 (p0 : GConf) (p1 : ByteArray) (i39 : Int) (i40 : Int) : Option ((Int × Int) ⊕ Int) :=
  if i40 < (p0.fFlushes.length : Int) then
    (at_ p0.fFlushes i40).bind fun x54 =>
    (m_name_Under p1 x54.fZone).bind fun x59 =>
    if x59 = true then
      some (.inl ((max i39 x54.fEpoch), w64 (i40 + 1)))
    else
      some (.inl (i39, w64 (i40 + 1)))
  else
    some (.inr i39)
noncomputable def m_conf_Floor (p0 : GConf) (p1 : ByteArray) : Option Int :=
  (loop (fun s => m_conf_Floor_s2 p0 p1 s.1 s.2) (0, 0)).bind fun e => m_conf_Floor_j1 e
theorem c_conf_Floor {w0 : World} {M : Nat → Prop} {H : List (Nat × Nat × Obj)} {R : List (Nat × Row)} {φ : World → Prop} (p0 : GConf) (Ap0_0 : Option Addr) (cp0_0 : Nat) (hcp0_0 : p0.fRing.length ≤ cp0_0) (fp0_0 : ∀ W, (Sta.mk w0 M H R φ).ok W → Cl W Ap0_0 (p0.fRing.flatMap (fun x : Int => [Value.int .i64 x]))) (Ap0_1 : Option Addr) (cp0_1 : Nat) (hcp0_1 : p0.fHints.length ≤ cp0_1) (fp0_1 : ∀ W, (Sta.mk w0 M H R φ).ok W → Cl W Ap0_1 (p0.fHints.flatMap (fun x : ByteArray => [Value.string x]))) (Ap0_2 : Option Addr) (cp0_2 : Nat) (hcp0_2 : p0.fAnchors.length ≤ cp0_2) (fp0_2 : ∀ W, (Sta.mk w0 M H R φ).ok W → Cl W Ap0_2 (p0.fAnchors.flatMap GAnchor.enc)) (Ap0_3 : Option Addr) (cp0_3 : Nat) (hcp0_3 : p0.fFlushes.length ≤ cp0_3) (fp0_3 : ∀ W, (Sta.mk w0 M H R φ).ok W → Cl W Ap0_3 (p0.fFlushes.flatMap GFlush.enc)) (p1 : ByteArray) (r : Int) (hm : m_conf_Floor p0 p1 = some r) :
    Cn Try.prog 9 #[.agg #[.slice Ap0_0 p0.fRing.length cp0_0, .slice Ap0_1 p0.fHints.length cp0_1, .slice Ap0_2 p0.fAnchors.length cp0_2, .int .i64 p0.fEpoch, .slice Ap0_3 p0.fFlushes.length cp0_3], .string p1] ⟨w0, M, H, R, φ⟩ (fun x : Unit => .int .i64 r) (fun x => True) (fun x => ⟨w0, M, H, R, φ⟩) := by
 unfold m_conf_Floor at hm
 refine cn_intro (fn := Try.f9) (N := 25) Try.func9 rfl Try.ntmps9 rfl <| c_seq <| c_region ?_
 refine g_e rfl (e_box 100020 rfl) (fun g1 _ => ?_)
 refine g_v rfl r_assign <| g_nil <| d_then <| c_seq <| c_region <| g_v rfl r_assign <| g_nil <| d_then <| c_seq <| c_seq ?_
 refine c_region <| g_v rfl (r_field (n := 4) Try.underlying29 rfl Try.sizeOf27 rfl rfl) <| g_v rfl (r_load (tag := 100020) rfl rfl rfl Try.isAgg27) <| g_v rfl (r_lenL Try.underlying27 rfl) <| g_v rfl r_move <| g_nil <| d_then ?_
 refine c_cut (ι := Int) [5] (fun i27 => [(5, .int .i64 i27)]) (fun i27 => ⟨w0, M, H, R, φ⟩) (fun i27 => m_conf_Floor_j1 i27 = some r) ?_ (fun i27 u hm => ?_)
 ·
  refine c_block ?_
  replace hm := bnd hm
  obtain ⟨out2, hl2, hr2⟩ := hm
  obtain ⟨n52', hl2⟩ := loop_lp hl2
  refine c_loopU (ι := Nat × Int × Int) [1, 5, 9, 10, 11] (fun ⟨n52, i39, i40⟩ => [(5, .int .i64 i39), (11, .int .i64 i40)]) (fun ⟨n52, i39, i40⟩ => ⟨w0, M, H, R, φ⟩) (fun ⟨n52, i39, i40⟩ => Lp (fun s => m_conf_Floor_s2 p0 p1 s.1 s.2) n52 (i39, i40) out2) (fun ⟨n52, i39, i40⟩ => n52) (n52', 0, 0) hl2 ⟨rfl, rfl, rfl, rfl, rfl, trivial⟩ (fun W h => (h.dropH (t := 100020) rfl).phi (fun W hφ => hφ)) (fun ⟨n52, i39, i40⟩ u hlp => ?_)
  obtain ⟨o2, hm, hnx2⟩ := lp_step hlp
  clear hlp
  replace hm : m_conf_Floor_s2 p0 p1 i39 i40 = some o2 := hm
  unfold m_conf_Floor_s2 at hm
  refine c_flat [(1, .string p1), (5, .int .i64 i39), (9, .slice Ap0_3 p0.fFlushes.length cp0_3), (10, .int .i64 (p0.fFlushes.length : Int)), (11, .int .i64 i40)] ⟨rfl, rfl, rfl, rfl, rfl, trivial⟩ (fun u => ?_)
  refine c_sta ⟨w0, M, H, R, φ⟩ (fun _ h => h) <| c_seq <| c_region <| g_v rfl (r_lss rfl rfl) <| g_nil <| d_then <| c_seq ?_
  refine c_cond rfl (fun h53 => ?_) (fun h53 => ?_)
  ·
   replace hm := ite_t hm (of_decide_eq_true h53)
   refine c_skip <| d_then <| c_seq <| c_block <| c_seq <| c_region ?_
   replace hm := bnd hm
   obtain ⟨x54, hx54, hm⟩ := hm
   refine g_know _ (fun W hS => cl_at (p := (Sta.mk w0 M H R φ).ok) (sz := 2) (fun _ => rfl) (by decide) (ok_pre (H1 := []) (R1 := []) hS (fun W h => h)) fp0_3 hx54) ?_
   rintro ⟨ad55, hA57, f56⟩
   refine g_v rfl (r_ix Try.underlying27 Try.sizeOf54 rfl hA57 rfl hx54) <| g_v rfl (r_ldA rfl Try.isAgg54 Try.sizeOf54 (fun W hS => (f56 W (ok_pre (H1 := []) (R1 := []) hS (fun W h => h))).take 2) rfl) ?_
   refine g_e rfl (e_alloc 100070 Try.zeroValue54) (fun g58 _ => ?_)
   refine g_storeL (tag := 100070) rfl rfl rfl rfl Try.sizeOf54 rfl rfl <| g_nil <| d_then <| c_seq <| c_region <| g_v rfl r_move <| g_v rfl (r_field (n := 1) Try.underlying54 rfl Try.sizeOf9 rfl rfl) <| g_v rfl (r_load (tag := 100070) rfl rfl rfl Try.isAgg9) ?_
   replace hm := bnd hm
   obtain ⟨x59, hx60, hm⟩ := hm
   refine g_cn ⟨w0, M, _, _, φ⟩ (fun _ h => h) Try.call22 rfl rfl (c_name_Under p1 x54.fZone _ hx60) (fun _ _ => ?_)
   refine g_nil <| d_then ?_
   refine c_flat [(1, .string p1), (5, .int .i64 i39), (7, .pointer (some ⟨g58, 0, none⟩)), (9, .slice Ap0_3 p0.fFlushes.length cp0_3), (10, .int .i64 (p0.fFlushes.length : Int)), (11, .int .i64 i40), (18, .bool x59)] ⟨rfl, rfl, rfl, rfl, rfl, rfl, rfl, trivial⟩ (fun u => ?_)
   refine c_sta ⟨w0, M, (100070, g58, .cells #[.int .i64 x54.fEpoch, .string x54.fZone] 54 (0, 0)) :: H, R, φ⟩ (fun _ h => h) ?_
   refine c_cond rfl (fun h61 => ?_) (fun h61 => ?_)
   ·
    replace hm := ite_t hm h61
    refine c_region <| g_v rfl r_move <| g_v rfl (r_field (n := 0) Try.underlying54 rfl Try.sizeOf3 rfl rfl) <| g_v rfl (r_load (tag := 100070) rfl rfl rfl Try.isAgg3) <| g_v rfl (r_max rfl rfl) <| g_v rfl r_assign <| g_nil <| d_normal_block <| d_then <| c_region ?_
    refine g_v rfl (r_add rfl rfl rfl) <| g_v rfl r_move <| g_nil ?_
    obtain ⟨n62, hn62, hlp⟩ := nx_inl hm hnx2
    exact d_round (n62, (max i39 x54.fEpoch), w64 (i40 + 1)) hlp hn62 ⟨rfl, rfl, rfl, rfl, rfl, trivial⟩ (fun W h => (h.dropH (t := 100070) rfl).phi (fun W hφ => hφ))
   ·
    replace hm := ite_f hm (bool_nt h61)
    refine c_skip <| d_normal_block <| d_then <| c_region <| g_v rfl (r_add rfl rfl rfl) <| g_v rfl r_move <| g_nil ?_
    obtain ⟨n63, hn63, hlp⟩ := nx_inl hm hnx2
    exact d_round (n63, i39, w64 (i40 + 1)) hlp hn63 ⟨rfl, rfl, rfl, rfl, rfl, trivial⟩ (fun W h => (h.dropH (t := 100070) rfl).phi (fun W hφ => hφ))
  ·
   replace hm := ite_f hm (of_decide_eq_false h53)
   refine c_exit <| d_exit_then <| d_exit_then <| d_exit_block ?_
   replace hm := nx_out (C := (fun e : Int => m_conf_Floor_j1 e = some r)) hm hnx2 hr2
   exact d_round i39 hm Nat.zero_lt_one ⟨rfl, trivial⟩ (fun W h => h.phi (fun W hφ => hφ))
 ·
  unfold m_conf_Floor_j1 at hm
  refine d_flat [(5, .int .i64 i27)] ⟨rfl, trivial⟩ (fun u => ?_)
  refine d_sta ⟨w0, M, H, R, φ⟩ (fun _ h => h) <| d_then <| c_seq <| c_region <| g_v rfl r_move <| g_v rfl r_assign <| g_nil <| d_then <| c_ret ?_
  replace hm := Option.some.inj hm
  subst hm
  refine d_retC () Try.results9 ?_ trivial (fun W h => ok_pre (H1 := []) (R1 := []) h (fun W hφ => hφ)) (.inr rfl)
  refine res_tmp <| res_nil ?_
  exact rfl
noncomputable def m_law13_awake  : Option Bool :=
  (m_conf_Bytes_k1 3 (⟨#[]⟩ : ByteArray) (⟨#[]⟩ : ByteArray) (⟨#[]⟩ : ByteArray) ([] : List ByteArray)).bind fun (z4 : ByteArray × Int) =>
  (m_conf_Bytes_k5 0 (⟨#[]⟩ : ByteArray) (⟨#[]⟩ : ByteArray) (⟨#[1, 97, 0]⟩ : ByteArray) ([] : List ByteArray)).bind fun (z8 : ByteArray × Int) =>
  (m_conf_Apply_k5 (⟨([] : List Int), ([] : List ByteArray), ([] : List GAnchor), 0, ([] : List GFlush)⟩ : GConf) 0 (⟨#[]⟩ : ByteArray) (⟨#[]⟩ : ByteArray) (⟨#[1, 97, 0]⟩ : ByteArray) ([] : List ByteArray)).bind fun (z25 : GConf × Int) =>
  (m_conf_Apply_k5 z25.1 0 (⟨#[]⟩ : ByteArray) (⟨#[]⟩ : ByteArray) (⟨#[0]⟩ : ByteArray) ([] : List ByteArray)).bind fun (z43 : GConf × Int) =>
  if z4.1 = (⟨#[1, 3]⟩ : ByteArray) then
    if z4.2 = 0 then
      if z8.1 = (⟨#[5, 1, 97, 0]⟩ : ByteArray) then
        if z8.2 = 0 then
          if z25.2 = 0 then
            if z43.2 = 0 then
              if z43.1.fEpoch = 2 then
                if (z43.1.fFlushes.length : Int) = 1 then
                  (m_conf_Floor z25.1 (⟨#[1, 120, 1, 97, 0]⟩ : ByteArray)).bind fun x53 =>
                  if x53 = 1 then
                    (m_conf_Floor z25.1 (⟨#[1, 98, 0]⟩ : ByteArray)).bind fun x56 =>
                    some (decide (x56 = 0))
                  else
                    some false
                else
                  some false
              else
                some false
            else
              some false
          else
            some false
        else
          some false
      else
        some false
    else
      some false
  else
    some false
theorem c_law13_awake {w0 : World} {M : Nat → Prop} {H : List (Nat × Nat × Obj)} {R : List (Nat × Row)} {φ : World → Prop}  (r : Bool) (hm : m_law13_awake = some r) :
    Cn Try.prog 7 #[] ⟨w0, M, H, R, φ⟩ (fun x : Unit => .bool r) (fun x => True) (fun x => ⟨w0, M, H, R, φ⟩) := by
 unfold m_law13_awake at hm
 refine cn_intro (fn := Try.f7) (N := 74) Try.func7 rfl Try.ntmps7 rfl <| c_seq <| c_region <| g_v rfl r_assign <| g_nil <| d_then <| c_seq <| c_region <| g_v rfl (r_build _ rfl (bld35_0 _ _)) ?_
 replace hm := bnd hm
 obtain ⟨⟨x1, x2⟩, hx3, hm⟩ := hm
 refine g_cn ⟨w0, M, _, _, φ⟩ (fun _ h => h) Try.call15 rfl rfl (c_conf_Bytes_k1 3 (⟨#[]⟩ : ByteArray) (⟨#[]⟩ : ByteArray) (⟨#[]⟩ : ByteArray) ([] : List ByteArray) none 0 (Nat.le_refl 0) (fun W _ => Cl.nil _ _) _ hx3) (fun _ _ => ?_)
 refine g_v rfl r_move <| g_v rfl (r_extract rfl rfl) <| g_v rfl (r_extract rfl rfl) <| g_v rfl r_assign <| g_v rfl r_assign <| g_nil <| d_then <| c_seq <| c_region <| g_v rfl (r_build _ rfl (bld35_5 _ _)) ?_
 replace hm := bnd hm
 obtain ⟨⟨x5, x6⟩, hx7, hm⟩ := hm
 refine g_cn ⟨w0, M, _, _, φ⟩ (fun _ h => h) Try.call15 rfl rfl (c_conf_Bytes_k5 0 (⟨#[]⟩ : ByteArray) (⟨#[]⟩ : ByteArray) (⟨#[1, 97, 0]⟩ : ByteArray) ([] : List ByteArray) none 0 (Nat.le_refl 0) (fun W _ => Cl.nil _ _) _ hx7) (fun _ _ => ?_)
 refine g_v rfl r_move <| g_v rfl (r_extract rfl rfl) <| g_v rfl (r_extract rfl rfl) <| g_v rfl r_assign <| g_v rfl r_assign <| g_nil <| d_then ?_
 refine c_flat [(1, .string x1), (2, .int .i64 x2), (3, .string x5), (4, .int .i64 x6)] ⟨rfl, rfl, rfl, rfl, trivial⟩ (fun u => ?_)
 refine c_sta ⟨w0, M, H, R, φ⟩ (fun _ h => h) <| c_seq <| c_region <| g_v rfl (r_build _ rfl (bld29_9)) <| g_v rfl (r_build _ rfl (bld35_5 _ _)) ?_
 replace hm := bnd hm
 obtain ⟨⟨x9, x10⟩, hx11, hm⟩ := hm
 refine g_cn ⟨w0, M, _, _, φ⟩ (fun _ h => h) Try.call10 rfl rfl (c_conf_Apply_k5 (⟨([] : List Int), ([] : List ByteArray), ([] : List GAnchor), 0, ([] : List GFlush)⟩ : GConf) none 0 (Nat.le_refl 0) (fun W _ => Cl.nil _ _) none 0 (Nat.le_refl 0) (fun W _ => Cl.nil _ _) none 0 (Nat.le_refl 0) (fun W _ => Cl.nil _ _) none 0 (Nat.le_refl 0) (fun W _ => Cl.nil _ _) 0 (⟨#[]⟩ : ByteArray) (⟨#[]⟩ : ByteArray) (⟨#[1, 97, 0]⟩ : ByteArray) ([] : List ByteArray) none 0 (Nat.le_refl 0) (fun W _ => Cl.nil _ _) _ hx11) (fun ⟨A12, c13, A15, c16, A18, c19, A21, c22⟩ ⟨hc13, hc16, hc19, hc22⟩ => ?_)
 refine g_abs (fun φ24 q24' => ?_)
 have q24 : ∀ W, φ24 W → φ W := fun W h => (q24' W h).1
 have f14 := fun (W : World) (h : φ24 W) => (q24' W h).2.1
 have f17 := fun (W : World) (h : φ24 W) => (q24' W h).2.2.1
 have f20 := fun (W : World) (h : φ24 W) => (q24' W h).2.2.2.1
 have f23 := fun (W : World) (h : φ24 W) => (q24' W h).2.2.2.2
 refine g_v rfl r_move <| g_v rfl (r_extract rfl rfl) <| g_v rfl (r_extract rfl rfl) ?_
 refine g_e rfl (e_alloc 100050 Try.zeroValue29) (fun g26 _ => ?_)
 refine g_storeL (tag := 100050) rfl rfl rfl rfl Try.sizeOf29 rfl rfl <| g_v rfl r_assign <| g_nil <| d_then ?_
 refine c_flat [(1, .string x1), (2, .int .i64 x2), (3, .string x5), (4, .int .i64 x6), (5, .pointer (some ⟨g26, 0, none⟩)), (6, .int .i64 x10)] ⟨rfl, rfl, rfl, rfl, rfl, rfl, trivial⟩ (fun u => ?_)
 refine c_sta ⟨w0, M, (100050, g26, .cells #[.slice A12 x9.fRing.length c13, .slice A15 x9.fHints.length c16, .slice A18 x9.fAnchors.length c19, .int .i64 x9.fEpoch, .slice A21 x9.fFlushes.length c22] 29 (0, 0)) :: H, R, φ24⟩ (fun _ h => h) <| c_seq <| c_region <| g_v rfl (r_loadA (tag := 100050) rfl rfl Try.isAgg29 Try.sizeOf29 rfl rfl) <| g_v rfl (r_build _ rfl (bld35_5 _ _)) ?_
 replace hm := bnd hm
 obtain ⟨⟨x27, x28⟩, hx29, hm⟩ := hm
 refine g_cn ⟨w0, M, _, _, φ24⟩ (fun _ h => h) Try.call10 rfl rfl (c_conf_Apply_k5 x9 A12 c13 hc13 (fun W h => f14 W h) A15 c16 hc16 (fun W h => f17 W h) A18 c19 hc19 (fun W h => f20 W h) A21 c22 hc22 (fun W h => f23 W h) 0 (⟨#[]⟩ : ByteArray) (⟨#[]⟩ : ByteArray) (⟨#[0]⟩ : ByteArray) ([] : List ByteArray) none 0 (Nat.le_refl 0) (fun W _ => Cl.nil _ _) _ hx29) (fun ⟨A30, c31, A33, c34, A36, c37, A39, c40⟩ ⟨hc31, hc34, hc37, hc40⟩ => ?_)
 refine g_abs (fun φ42 q42' => ?_)
 have q42 : ∀ W, φ42 W → φ24 W := fun W h => (q42' W h).1
 have f32 := fun (W : World) (h : φ42 W) => (q42' W h).2.1
 have f35 := fun (W : World) (h : φ42 W) => (q42' W h).2.2.1
 have f38 := fun (W : World) (h : φ42 W) => (q42' W h).2.2.2.1
 have f41 := fun (W : World) (h : φ42 W) => (q42' W h).2.2.2.2
 refine g_v rfl r_move <| g_v rfl (r_extract rfl rfl) <| g_v rfl (r_extract rfl rfl) ?_
 refine g_e rfl (e_alloc 100070 Try.zeroValue29) (fun g44 _ => ?_)
 refine g_storeL (tag := 100070) rfl rfl rfl rfl Try.sizeOf29 rfl rfl <| g_v rfl r_assign <| g_nil <| d_then ?_
 refine c_flat [(1, .string x1), (2, .int .i64 x2), (3, .string x5), (4, .int .i64 x6), (5, .pointer (some ⟨g26, 0, none⟩)), (6, .int .i64 x10), (7, .pointer (some ⟨g44, 0, none⟩)), (8, .int .i64 x28)] ⟨rfl, rfl, rfl, rfl, rfl, rfl, rfl, rfl, trivial⟩ (fun u => ?_)
 refine c_sta ⟨w0, M, (100070, g44, .cells #[.slice A30 x27.fRing.length c31, .slice A33 x27.fHints.length c34, .slice A36 x27.fAnchors.length c37, .int .i64 x27.fEpoch, .slice A39 x27.fFlushes.length c40] 29 (0, 0)) :: (100050, g26, .cells #[.slice A12 x9.fRing.length c13, .slice A15 x9.fHints.length c16, .slice A18 x9.fAnchors.length c19, .int .i64 x9.fEpoch, .slice A21 x9.fFlushes.length c22] 29 (0, 0)) :: H, R, φ42⟩ (fun _ h => h) <| c_seq <| c_region <| g_v rfl r_move <| g_v rfl (r_eqlT rfl rfl) <| g_v rfl r_move ?_
 refine g_if rfl rfl rfl rfl rfl (fun h45 => ?_) (fun h45 => ?_)
 ·
  replace hm := ite_t hm (of_decide_eq_true h45)
  refine g_v rfl r_move <| g_do rfl rfl rfl rfl rfl h45 <| g_v rfl (r_eql rfl rfl) <| g_v rfl (r_pick1 rfl h45) <| g_v rfl r_move ?_
  refine g_if rfl rfl rfl rfl rfl (fun h46 => ?_) (fun h46 => ?_)
  ·
   replace hm := ite_t hm (of_decide_eq_true h46)
   refine g_v rfl r_move <| g_do rfl rfl rfl rfl rfl h46 <| g_v rfl (r_eqlT rfl rfl) <| g_v rfl (r_pick1 rfl h46) <| g_v rfl r_move ?_
   refine g_if rfl rfl rfl rfl rfl (fun h47 => ?_) (fun h47 => ?_)
   ·
    replace hm := ite_t hm (of_decide_eq_true h47)
    refine g_v rfl r_move <| g_do rfl rfl rfl rfl rfl h47 <| g_v rfl (r_eql rfl rfl) <| g_v rfl (r_pick1 rfl h47) <| g_v rfl r_move ?_
    refine g_if rfl rfl rfl rfl rfl (fun h48 => ?_) (fun h48 => ?_)
    ·
     replace hm := ite_t hm (of_decide_eq_true h48)
     refine g_v rfl r_move <| g_do rfl rfl rfl rfl rfl h48 <| g_v rfl (r_eql rfl rfl) <| g_v rfl (r_pick1 rfl h48) <| g_v rfl r_move ?_
     refine g_if rfl rfl rfl rfl rfl (fun h49 => ?_) (fun h49 => ?_)
     ·
      replace hm := ite_t hm (of_decide_eq_true h49)
      refine g_v rfl r_move <| g_do rfl rfl rfl rfl rfl h49 <| g_v rfl (r_eql rfl rfl) <| g_v rfl (r_pick1 rfl h49) <| g_v rfl r_move ?_
      refine g_if rfl rfl rfl rfl rfl (fun h50 => ?_) (fun h50 => ?_)
      ·
       replace hm := ite_t hm (of_decide_eq_true h50)
       refine g_v rfl (r_field (n := 3) Try.underlying29 rfl Try.sizeOf3 rfl rfl) <| g_do rfl rfl rfl rfl rfl h50 <| g_v rfl (r_load (tag := 100070) rfl rfl rfl Try.isAgg3) <| g_do rfl rfl rfl rfl rfl h50 <| g_v rfl (r_eql rfl rfl) <| g_v rfl (r_pick1 rfl h50) <| g_v rfl r_move ?_
       refine g_if rfl rfl rfl rfl rfl (fun h51 => ?_) (fun h51 => ?_)
       ·
        replace hm := ite_t hm (of_decide_eq_true h51)
        refine g_v rfl (r_field (n := 4) Try.underlying29 rfl Try.sizeOf27 rfl rfl) <| g_do rfl rfl rfl rfl rfl h51 <| g_v rfl (r_load (tag := 100070) rfl rfl rfl Try.isAgg27) <| g_do rfl rfl rfl rfl rfl h51 <| g_v rfl (r_lenL Try.underlying27 rfl) <| g_do rfl rfl rfl rfl rfl h51 <| g_v rfl (r_eql rfl rfl) <| g_v rfl (r_pick1 rfl h51) <| g_v rfl r_move ?_
        refine g_if rfl rfl rfl rfl rfl (fun h52 => ?_) (fun h52 => ?_)
        ·
         replace hm := ite_t hm (of_decide_eq_true h52)
         refine g_v rfl (r_loadA (tag := 100050) rfl rfl Try.isAgg29 Try.sizeOf29 rfl rfl) <| g_do rfl rfl rfl rfl rfl h52 ?_
         replace hm := bnd hm
         obtain ⟨x53, hx54, hm⟩ := hm
         refine g_cn ⟨w0, M, _, _, φ42⟩ (fun _ h => h) Try.call9 rfl rfl (c_conf_Floor x9 A12 c13 hc13 (fun W hS => f14 W (q42 _ hS.now)) A15 c16 hc16 (fun W hS => f17 W (q42 _ hS.now)) A18 c19 hc19 (fun W hS => f20 W (q42 _ hS.now)) A21 c22 hc22 (fun W hS => f23 W (q42 _ hS.now)) (⟨#[1, 120, 1, 97, 0]⟩ : ByteArray) _ hx54) (fun _ _ => ?_)
         refine g_do rfl rfl rfl rfl rfl h52 <| g_v rfl (r_eql rfl rfl) <| g_v rfl (r_pick1 rfl h52) <| g_v rfl r_move ?_
         refine g_if rfl rfl rfl rfl rfl (fun h55 => ?_) (fun h55 => ?_)
         ·
          replace hm := ite_t hm (of_decide_eq_true h55)
          refine g_v rfl (r_loadA (tag := 100050) rfl rfl Try.isAgg29 Try.sizeOf29 rfl rfl) <| g_do rfl rfl rfl rfl rfl h55 ?_
          replace hm := bnd hm
          obtain ⟨x56, hx57, hm⟩ := hm
          refine g_cn ⟨w0, M, _, _, φ42⟩ (fun _ h => h) Try.call9 rfl rfl (c_conf_Floor x9 A12 c13 hc13 (fun W hS => f14 W (q42 _ hS.now)) A15 c16 hc16 (fun W hS => f17 W (q42 _ hS.now)) A18 c19 hc19 (fun W hS => f20 W (q42 _ hS.now)) A21 c22 hc22 (fun W hS => f23 W (q42 _ hS.now)) (⟨#[1, 98, 0]⟩ : ByteArray) _ hx57) (fun _ _ => ?_)
          refine g_do rfl rfl rfl rfl rfl h55 <| g_v rfl (r_eql rfl rfl) <| g_v rfl (r_pick1 rfl h55) <| g_v rfl r_assign <| g_nil <| d_then ?_
          refine c_flat [(0, .bool (decide (x56 = 0)))] ⟨rfl, trivial⟩ (fun u => ?_)
          refine c_ret ?_
          replace hm := Option.some.inj hm
          subst hm
          refine d_retC () Try.results7 ?_ trivial (fun W h => ok_pre (H1 := [_, _]) (R1 := []) h (fun W hφ => (q24 _ (q42 _ hφ)))) (.inr rfl)
          refine res_tmp <| res_nil ?_
          exact rfl
         ·
          replace hm := ite_f hm (of_decide_eq_false h55)
          refine g_no rfl rfl rfl rfl rfl h55 <| g_no rfl rfl rfl rfl rfl h55 <| g_v rfl (r_pick0 rfl h55) <| g_v rfl r_assign <| g_nil <| d_then ?_
          refine c_flat [(0, .bool false)] ⟨rfl, trivial⟩ (fun u => ?_)
          refine c_ret ?_
          replace hm := Option.some.inj hm
          subst hm
          refine d_retC () Try.results7 ?_ trivial (fun W h => ok_pre (H1 := [_, _]) (R1 := []) h (fun W hφ => (q24 _ (q42 _ hφ)))) (.inr rfl)
          refine res_tmp <| res_nil ?_
          exact rfl
        ·
         replace hm := ite_f hm (of_decide_eq_false h52)
         refine g_no rfl rfl rfl rfl rfl h52 <| g_no rfl rfl rfl rfl rfl h52 <| g_v rfl (r_pick0 rfl h52) <| g_v rfl r_move <| g_no rfl rfl rfl rfl rfl rfl <| g_no rfl rfl rfl rfl rfl rfl <| g_no rfl rfl rfl rfl rfl rfl <| g_v rfl (r_pick0 rfl rfl) <| g_v rfl r_assign <| g_nil ?_
         refine d_then ?_
         refine c_flat [(0, .bool false)] ⟨rfl, trivial⟩ (fun u => ?_)
         refine c_ret ?_
         replace hm := Option.some.inj hm
         subst hm
         refine d_retC () Try.results7 ?_ trivial (fun W h => ok_pre (H1 := [_, _]) (R1 := []) h (fun W hφ => (q24 _ (q42 _ hφ)))) (.inr rfl)
         refine res_tmp <| res_nil ?_
         exact rfl
       ·
        replace hm := ite_f hm (of_decide_eq_false h51)
        refine g_no rfl rfl rfl rfl rfl h51 <| g_no rfl rfl rfl rfl rfl h51 <| g_no rfl rfl rfl rfl rfl h51 <| g_v rfl (r_pick0 rfl h51) <| g_v rfl r_move <| g_no rfl rfl rfl rfl rfl rfl <| g_no rfl rfl rfl rfl rfl rfl <| g_no rfl rfl rfl rfl rfl rfl <| g_v rfl (r_pick0 rfl rfl) <| g_v rfl r_move ?_
        refine g_no rfl rfl rfl rfl rfl rfl <| g_no rfl rfl rfl rfl rfl rfl <| g_no rfl rfl rfl rfl rfl rfl <| g_v rfl (r_pick0 rfl rfl) <| g_v rfl r_assign <| g_nil <| d_then ?_
        refine c_flat [(0, .bool false)] ⟨rfl, trivial⟩ (fun u => ?_)
        refine c_ret ?_
        replace hm := Option.some.inj hm
        subst hm
        refine d_retC () Try.results7 ?_ trivial (fun W h => ok_pre (H1 := [_, _]) (R1 := []) h (fun W hφ => (q24 _ (q42 _ hφ)))) (.inr rfl)
        refine res_tmp <| res_nil ?_
        exact rfl
      ·
       replace hm := ite_f hm (of_decide_eq_false h50)
       refine g_no rfl rfl rfl rfl rfl h50 <| g_no rfl rfl rfl rfl rfl h50 <| g_v rfl (r_pick0 rfl h50) <| g_v rfl r_move <| g_no rfl rfl rfl rfl rfl rfl <| g_no rfl rfl rfl rfl rfl rfl <| g_no rfl rfl rfl rfl rfl rfl <| g_no rfl rfl rfl rfl rfl rfl <| g_v rfl (r_pick0 rfl rfl) <| g_v rfl r_move ?_
       refine g_no rfl rfl rfl rfl rfl rfl <| g_no rfl rfl rfl rfl rfl rfl <| g_no rfl rfl rfl rfl rfl rfl <| g_v rfl (r_pick0 rfl rfl) <| g_v rfl r_move <| g_no rfl rfl rfl rfl rfl rfl <| g_no rfl rfl rfl rfl rfl rfl <| g_no rfl rfl rfl rfl rfl rfl <| g_v rfl (r_pick0 rfl rfl) <| g_v rfl r_assign ?_
       refine g_nil <| d_then ?_
       refine c_flat [(0, .bool false)] ⟨rfl, trivial⟩ (fun u => ?_)
       refine c_ret ?_
       replace hm := Option.some.inj hm
       subst hm
       refine d_retC () Try.results7 ?_ trivial (fun W h => ok_pre (H1 := [_, _]) (R1 := []) h (fun W hφ => (q24 _ (q42 _ hφ)))) (.inr rfl)
       refine res_tmp <| res_nil ?_
       exact rfl
     ·
      replace hm := ite_f hm (of_decide_eq_false h49)
      refine g_no rfl rfl rfl rfl rfl h49 <| g_v rfl (r_pick0 rfl h49) <| g_v rfl r_move <| g_no rfl rfl rfl rfl rfl rfl <| g_no rfl rfl rfl rfl rfl rfl <| g_no rfl rfl rfl rfl rfl rfl <| g_v rfl (r_pick0 rfl rfl) <| g_v rfl r_move <| g_no rfl rfl rfl rfl rfl rfl <| g_no rfl rfl rfl rfl rfl rfl ?_
      refine g_no rfl rfl rfl rfl rfl rfl <| g_no rfl rfl rfl rfl rfl rfl <| g_v rfl (r_pick0 rfl rfl) <| g_v rfl r_move <| g_no rfl rfl rfl rfl rfl rfl <| g_no rfl rfl rfl rfl rfl rfl <| g_no rfl rfl rfl rfl rfl rfl <| g_v rfl (r_pick0 rfl rfl) <| g_v rfl r_move <| g_no rfl rfl rfl rfl rfl rfl ?_
      refine g_no rfl rfl rfl rfl rfl rfl <| g_no rfl rfl rfl rfl rfl rfl <| g_v rfl (r_pick0 rfl rfl) <| g_v rfl r_assign <| g_nil <| d_then ?_
      refine c_flat [(0, .bool false)] ⟨rfl, trivial⟩ (fun u => ?_)
      refine c_ret ?_
      replace hm := Option.some.inj hm
      subst hm
      refine d_retC () Try.results7 ?_ trivial (fun W h => ok_pre (H1 := [_, _]) (R1 := []) h (fun W hφ => (q24 _ (q42 _ hφ)))) (.inr rfl)
      refine res_tmp <| res_nil ?_
      exact rfl
    ·
     replace hm := ite_f hm (of_decide_eq_false h48)
     refine g_no rfl rfl rfl rfl rfl h48 <| g_v rfl (r_pick0 rfl h48) <| g_v rfl r_move <| g_no rfl rfl rfl rfl rfl rfl <| g_no rfl rfl rfl rfl rfl rfl <| g_v rfl (r_pick0 rfl rfl) <| g_v rfl r_move <| g_no rfl rfl rfl rfl rfl rfl <| g_no rfl rfl rfl rfl rfl rfl <| g_no rfl rfl rfl rfl rfl rfl ?_
     refine g_v rfl (r_pick0 rfl rfl) <| g_v rfl r_move <| g_no rfl rfl rfl rfl rfl rfl <| g_no rfl rfl rfl rfl rfl rfl <| g_no rfl rfl rfl rfl rfl rfl <| g_no rfl rfl rfl rfl rfl rfl <| g_v rfl (r_pick0 rfl rfl) <| g_v rfl r_move <| g_no rfl rfl rfl rfl rfl rfl <| g_no rfl rfl rfl rfl rfl rfl ?_
     refine g_no rfl rfl rfl rfl rfl rfl <| g_v rfl (r_pick0 rfl rfl) <| g_v rfl r_move <| g_no rfl rfl rfl rfl rfl rfl <| g_no rfl rfl rfl rfl rfl rfl <| g_no rfl rfl rfl rfl rfl rfl <| g_v rfl (r_pick0 rfl rfl) <| g_v rfl r_assign <| g_nil <| d_then ?_
     refine c_flat [(0, .bool false)] ⟨rfl, trivial⟩ (fun u => ?_)
     refine c_ret ?_
     replace hm := Option.some.inj hm
     subst hm
     refine d_retC () Try.results7 ?_ trivial (fun W h => ok_pre (H1 := [_, _]) (R1 := []) h (fun W hφ => (q24 _ (q42 _ hφ)))) (.inr rfl)
     refine res_tmp <| res_nil ?_
     exact rfl
   ·
    replace hm := ite_f hm (of_decide_eq_false h47)
    refine g_no rfl rfl rfl rfl rfl h47 <| g_v rfl (r_pick0 rfl h47) <| g_v rfl r_move <| g_no rfl rfl rfl rfl rfl rfl <| g_no rfl rfl rfl rfl rfl rfl <| g_v rfl (r_pick0 rfl rfl) <| g_v rfl r_move <| g_no rfl rfl rfl rfl rfl rfl <| g_no rfl rfl rfl rfl rfl rfl <| g_v rfl (r_pick0 rfl rfl) ?_
    refine g_v rfl r_move <| g_no rfl rfl rfl rfl rfl rfl <| g_no rfl rfl rfl rfl rfl rfl <| g_no rfl rfl rfl rfl rfl rfl <| g_v rfl (r_pick0 rfl rfl) <| g_v rfl r_move <| g_no rfl rfl rfl rfl rfl rfl <| g_no rfl rfl rfl rfl rfl rfl <| g_no rfl rfl rfl rfl rfl rfl <| g_no rfl rfl rfl rfl rfl rfl ?_
    refine g_v rfl (r_pick0 rfl rfl) <| g_v rfl r_move <| g_no rfl rfl rfl rfl rfl rfl <| g_no rfl rfl rfl rfl rfl rfl <| g_no rfl rfl rfl rfl rfl rfl <| g_v rfl (r_pick0 rfl rfl) <| g_v rfl r_move <| g_no rfl rfl rfl rfl rfl rfl <| g_no rfl rfl rfl rfl rfl rfl <| g_no rfl rfl rfl rfl rfl rfl ?_
    refine g_v rfl (r_pick0 rfl rfl) <| g_v rfl r_assign <| g_nil <| d_then ?_
    refine c_flat [(0, .bool false)] ⟨rfl, trivial⟩ (fun u => ?_)
    refine c_ret ?_
    replace hm := Option.some.inj hm
    subst hm
    refine d_retC () Try.results7 ?_ trivial (fun W h => ok_pre (H1 := [_, _]) (R1 := []) h (fun W hφ => (q24 _ (q42 _ hφ)))) (.inr rfl)
    refine res_tmp <| res_nil ?_
    exact rfl
  ·
   replace hm := ite_f hm (of_decide_eq_false h46)
   refine g_no rfl rfl rfl rfl rfl h46 <| g_v rfl (r_pick0 rfl h46) <| g_v rfl r_move <| g_no rfl rfl rfl rfl rfl rfl <| g_no rfl rfl rfl rfl rfl rfl <| g_v rfl (r_pick0 rfl rfl) <| g_v rfl r_move <| g_no rfl rfl rfl rfl rfl rfl <| g_no rfl rfl rfl rfl rfl rfl <| g_v rfl (r_pick0 rfl rfl) ?_
   refine g_v rfl r_move <| g_no rfl rfl rfl rfl rfl rfl <| g_no rfl rfl rfl rfl rfl rfl <| g_v rfl (r_pick0 rfl rfl) <| g_v rfl r_move <| g_no rfl rfl rfl rfl rfl rfl <| g_no rfl rfl rfl rfl rfl rfl <| g_no rfl rfl rfl rfl rfl rfl <| g_v rfl (r_pick0 rfl rfl) <| g_v rfl r_move ?_
   refine g_no rfl rfl rfl rfl rfl rfl <| g_no rfl rfl rfl rfl rfl rfl <| g_no rfl rfl rfl rfl rfl rfl <| g_no rfl rfl rfl rfl rfl rfl <| g_v rfl (r_pick0 rfl rfl) <| g_v rfl r_move <| g_no rfl rfl rfl rfl rfl rfl <| g_no rfl rfl rfl rfl rfl rfl <| g_no rfl rfl rfl rfl rfl rfl <| g_v rfl (r_pick0 rfl rfl) ?_
   refine g_v rfl r_move <| g_no rfl rfl rfl rfl rfl rfl <| g_no rfl rfl rfl rfl rfl rfl <| g_no rfl rfl rfl rfl rfl rfl <| g_v rfl (r_pick0 rfl rfl) <| g_v rfl r_assign <| g_nil <| d_then ?_
   refine c_flat [(0, .bool false)] ⟨rfl, trivial⟩ (fun u => ?_)
   refine c_ret ?_
   replace hm := Option.some.inj hm
   subst hm
   refine d_retC () Try.results7 ?_ trivial (fun W h => ok_pre (H1 := [_, _]) (R1 := []) h (fun W hφ => (q24 _ (q42 _ hφ)))) (.inr rfl)
   refine res_tmp <| res_nil ?_
   exact rfl
 ·
  replace hm := ite_f hm (of_decide_eq_false h45)
  refine g_no rfl rfl rfl rfl rfl h45 <| g_v rfl (r_pick0 rfl h45) <| g_v rfl r_move <| g_no rfl rfl rfl rfl rfl rfl <| g_no rfl rfl rfl rfl rfl rfl <| g_v rfl (r_pick0 rfl rfl) <| g_v rfl r_move <| g_no rfl rfl rfl rfl rfl rfl <| g_no rfl rfl rfl rfl rfl rfl <| g_v rfl (r_pick0 rfl rfl) ?_
  refine g_v rfl r_move <| g_no rfl rfl rfl rfl rfl rfl <| g_no rfl rfl rfl rfl rfl rfl <| g_v rfl (r_pick0 rfl rfl) <| g_v rfl r_move <| g_no rfl rfl rfl rfl rfl rfl <| g_no rfl rfl rfl rfl rfl rfl <| g_v rfl (r_pick0 rfl rfl) <| g_v rfl r_move <| g_no rfl rfl rfl rfl rfl rfl ?_
  refine g_no rfl rfl rfl rfl rfl rfl <| g_no rfl rfl rfl rfl rfl rfl <| g_v rfl (r_pick0 rfl rfl) <| g_v rfl r_move <| g_no rfl rfl rfl rfl rfl rfl <| g_no rfl rfl rfl rfl rfl rfl <| g_no rfl rfl rfl rfl rfl rfl <| g_no rfl rfl rfl rfl rfl rfl <| g_v rfl (r_pick0 rfl rfl) <| g_v rfl r_move ?_
  refine g_no rfl rfl rfl rfl rfl rfl <| g_no rfl rfl rfl rfl rfl rfl <| g_no rfl rfl rfl rfl rfl rfl <| g_v rfl (r_pick0 rfl rfl) <| g_v rfl r_move <| g_no rfl rfl rfl rfl rfl rfl <| g_no rfl rfl rfl rfl rfl rfl <| g_no rfl rfl rfl rfl rfl rfl <| g_v rfl (r_pick0 rfl rfl) <| g_v rfl r_assign ?_
  refine g_nil <| d_then ?_
  refine c_flat [(0, .bool false)] ⟨rfl, trivial⟩ (fun u => ?_)
  refine c_ret ?_
  replace hm := Option.some.inj hm
  subst hm
  refine d_retC () Try.results7 ?_ trivial (fun W h => ok_pre (H1 := [_, _]) (R1 := []) h (fun W hφ => (q24 _ (q42 _ hφ)))) (.inr rfl)
  refine res_tmp <| res_nil ?_
  exact rfl
noncomputable def m_law13_short (p0 : ByteArray) (p1 : Int) : Option ByteArray :=
  if p1 < (p0.size : Int) then
    (scutHi p0 p1).bind fun s2 =>
    some s2
  else
    some p0
theorem c_law13_short {w0 : World} {M : Nat → Prop} {H : List (Nat × Nat × Obj)} {R : List (Nat × Row)} {φ : World → Prop} (p0 : ByteArray) (p1 : Int) (r : ByteArray) (hm : m_law13_short p0 p1 = some r) :
    Cn Try.prog 8 #[.string p0, .int .i64 p1] ⟨w0, M, H, R, φ⟩ (fun x : Unit => .string r) (fun x => True) (fun x => ⟨w0, M, H, R, φ⟩) := by
 unfold m_law13_short at hm
 refine cn_intro (fn := Try.f8) (N := 13) Try.func8 rfl Try.ntmps8 rfl <| c_seq <| c_region <| g_v rfl r_assign <| g_nil <| d_then <| c_seq <| c_seq <| c_region <| g_v rfl r_move ?_
 refine g_v rfl (r_len Try.underlying9 rfl) <| g_v rfl r_move <| g_v rfl (r_gtr rfl rfl) <| g_nil <| d_then ?_
 refine c_cond rfl (fun h1 => ?_) (fun h1 => ?_)
 ·
  replace hm := ite_t hm (of_decide_eq_true h1)
  refine c_seq <| c_region <| g_v rfl r_move <| g_v rfl r_move ?_
  replace hm := bnd hm
  obtain ⟨s2, hs2, hm⟩ := hm
  refine g_v rfl (r_scutHi Try.underlying9 rfl rfl hs2) <| g_v rfl r_assign <| g_nil <| d_then ?_
  refine c_flat [(4, .string s2)] ⟨rfl, trivial⟩ (fun u => ?_)
  refine c_sta ⟨w0, M, H, R, φ⟩ (fun _ h => h) <| c_ret <| d_ret_then ?_
  replace hm := Option.some.inj hm
  subst hm
  refine d_retC () Try.results8 ?_ trivial (fun W h => ok_pre (H1 := []) (R1 := []) h (fun W hφ => hφ)) (.inr rfl)
  refine res_tmp <| res_nil ?_
  exact rfl
 ·
  replace hm := ite_f hm (of_decide_eq_false h1)
  refine c_skip <| d_then <| c_seq <| c_region <| g_v rfl r_move <| g_v rfl r_assign <| g_nil <| d_then <| c_ret ?_
  replace hm := Option.some.inj hm
  subst hm
  refine d_retC () Try.results8 ?_ trivial (fun W h => ok_pre (H1 := []) (R1 := []) h (fun W hφ => hφ)) (.inr rfl)
  refine res_tmp <| res_nil ?_
  exact rfl
noncomputable def m_ref03_row_j1 (p0 : ByteArray) (l82 : List ByteArray) (i85 : Int) : Option ((List ByteArray) × Bool) :=
  some (l82, decide (i85 = w64 ((p0.size : Int) - 1)))
noncomputable def m_ref03_row_s2 (p0 : ByteArray) (l101 : List ByteArray) (i104 : Int) : Option (((List ByteArray) × Int) ⊕ (((List ByteArray) × Int) ⊕ ((List ByteArray) × Bool))) :=
  if i104 < (p0.size : Int) then
    (sat_ p0 i104).bind fun b122 =>
    if b122 ≠ 0 then
      (sat_ p0 i104).bind fun b124 =>
      if 63 < w64 b124 then
        some (.inr (.inr (([] : List ByteArray), false)))
      else
        if (p0.size : Int) < w64 ((w64 (i104 + 1)) + (w64 b124)) then
          some (.inr (.inr (([] : List ByteArray), false)))
        else
          (scutMid p0 (w64 (i104 + 1)) (w64 ((w64 (i104 + 1)) + (w64 b124)))).bind fun s127 =>
          (app 16 l101 [s127]).bind fun l129 =>
          some (.inl (l129, w64 ((w64 (i104 + 1)) + (w64 b124))))
    else
      some (.inr (.inl (l101, i104)))
  else
    some (.inr (.inl (l101, i104)))
noncomputable def m_ref03_row (p0 : ByteArray) : Option ((List ByteArray) × Bool) :=
  (loop (fun s => m_ref03_row_s2 p0 s.1 s.2) (([] : List ByteArray), 0)).bind fun e => Sum.elim (fun e => m_ref03_row_j1 p0 e.1 e.2) (fun x => some x) e
theorem c_ref03_row {w0 : World} {M : Nat → Prop} {H : List (Nat × Nat × Obj)} {R : List (Nat × Row)} {φ : World → Prop} (p0 : ByteArray) (r : (List ByteArray) × Bool) (hm : m_ref03_row p0 = some r) :
    Cn Try.prog 39 #[.string p0] ⟨w0, M, H, R, φ⟩ (fun x : Option Addr × Nat => .tuple #[.slice x.1 r.1.length x.2, .bool r.2]) (fun x => r.1.length ≤ x.2) (fun x => ⟨w0, M, H, (2000, ⟨.slice x.1 r.1.length x.2, 9, 1, r.1.length, r.1.flatMap (fun x : ByteArray => [Value.string x])⟩) :: R, φ⟩) := by
 unfold m_ref03_row at hm
 refine cn_intro (fn := Try.f39) (N := 53) Try.func39 rfl Try.ntmps39 rfl <| c_seq <| c_region <| g_v rfl r_assign <| g_v rfl r_assign <| g_nil <| d_then <| c_seq <| c_region <| g_v rfl r_assign ?_
 refine g_nil <| d_then <| c_seq <| c_region <| g_v rfl r_assign <| g_nil <| d_then <| c_seq <| c_sta _ (fun W h => nilR h 19 9 1) ?_
 refine c_cut (ι := (List ByteArray) × Int × Option Addr × Nat) [0, 4, 5] (fun ⟨l82, i85, A83, c84⟩ => [(4, .slice A83 l82.length c84), (5, .int .i64 i85)]) (fun ⟨l82, i85, A83, c84⟩ => ⟨w0, M, H, (19, ⟨.slice A83 l82.length c84, 9, 1, l82.length, l82.flatMap (fun x : ByteArray => [Value.string x])⟩) :: R, φ⟩) (fun ⟨l82, i85, A83, c84⟩ => m_ref03_row_j1 p0 l82 i85 = some r ∧ l82.length ≤ c84) ?_ (fun ⟨l82, i85, A83, c84⟩ u ⟨hm, hc84⟩ => ?_)
 ·
  refine c_block ?_
  replace hm := bnd hm
  obtain ⟨out2, hl2, hr2⟩ := hm
  obtain ⟨n120', hl2⟩ := loop_lp hl2
  refine c_loopU (ι := Nat × (List ByteArray) × Int × Option Addr × Nat) [0, 4, 5] (fun ⟨n120, l101, i104, A102, c103⟩ => [(4, .slice A102 l101.length c103), (5, .int .i64 i104)]) (fun ⟨n120, l101, i104, A102, c103⟩ => ⟨w0, M, H, (19, ⟨.slice A102 l101.length c103, 9, 1, l101.length, l101.flatMap (fun x : ByteArray => [Value.string x])⟩) :: R, φ⟩) (fun ⟨n120, l101, i104, A102, c103⟩ => Lp (fun s => m_ref03_row_s2 p0 s.1 s.2) n120 (l101, i104) out2 ∧ l101.length ≤ c103) (fun ⟨n120, l101, i104, A102, c103⟩ => n120) (n120', ([] : List ByteArray), 0, none, 0) ⟨hl2, (Nat.le_refl 0)⟩ ⟨rfl, rfl, rfl, trivial⟩ (fun W h => h.phi (fun W hφ => hφ)) (fun ⟨n120, l101, i104, A102, c103⟩ u ⟨hlp, hc103⟩ => ?_)
  obtain ⟨o2, hm, hnx2⟩ := lp_step hlp
  clear hlp
  replace hm : m_ref03_row_s2 p0 l101 i104 = some o2 := hm
  unfold m_ref03_row_s2 at hm
  refine c_flat [(0, .string p0), (4, .slice A102 l101.length c103), (5, .int .i64 i104)] ⟨rfl, rfl, rfl, trivial⟩ (fun u => ?_)
  refine c_sta ⟨w0, M, H, (19, ⟨.slice A102 l101.length c103, 9, 1, l101.length, l101.flatMap (fun x : ByteArray => [Value.string x])⟩) :: R, φ⟩ (fun _ h => h) <| c_seq <| c_seq <| c_region <| g_v rfl r_move <| g_v rfl r_move <| g_v rfl (r_len Try.underlying9 rfl) <| g_v rfl (r_lss rfl rfl) <| g_v rfl r_move ?_
  refine g_if rfl rfl rfl rfl rfl (fun h121 => ?_) (fun h121 => ?_)
  ·
   replace hm := ite_t hm (of_decide_eq_true h121)
   refine g_v rfl r_move <| g_do rfl rfl rfl rfl rfl h121 <| g_v rfl r_move <| g_do rfl rfl rfl rfl rfl h121 ?_
   replace hm := bnd hm
   obtain ⟨b122, hb122, hm⟩ := hm
   refine g_v rfl (r_sat Try.underlying9 rfl rfl hb122) <| g_do rfl rfl rfl rfl rfl h121 <| g_v rfl (r_neq rfl rfl) <| g_v rfl (r_pick1 rfl h121) <| g_nil <| d_then ?_
   refine c_flat [(0, .string p0), (4, .slice A102 l101.length c103), (5, .int .i64 i104), (16, .bool (decide (b122 ≠ 0)))] ⟨rfl, rfl, rfl, rfl, trivial⟩ (fun u => ?_)
   refine c_cond rfl (fun h123 => ?_) (fun h123 => ?_)
   ·
    replace hm := ite_t hm (of_decide_eq_true h123)
    refine c_skip <| d_then <| c_block <| c_seq <| c_region <| g_v rfl r_move <| g_v rfl r_move ?_
    replace hm := bnd hm
    obtain ⟨b124, hb124, hm⟩ := hm
    refine g_v rfl (r_sat Try.underlying9 rfl rfl hb124) <| g_v rfl (r_conv Try.underlying5 Try.underlying3 rfl rfl) <| g_v rfl r_assign <| g_nil <| d_then <| c_seq <| c_seq <| c_region <| g_v rfl r_move <| g_v rfl (r_gtr rfl rfl) ?_
    refine g_v rfl r_move ?_
    refine g_if rfl rfl rfl rfl rfl (fun h125 => ?_) (fun h125 => ?_)
    ·
     replace hm := ite_f hm (of_decide_eq_false h125)
     refine g_v rfl r_move <| g_do rfl rfl rfl rfl rfl h125 <| g_v rfl (r_add rfl rfl rfl) <| g_do rfl rfl rfl rfl rfl h125 <| g_v rfl r_move <| g_do rfl rfl rfl rfl rfl h125 <| g_v rfl (r_add rfl rfl rfl) <| g_do rfl rfl rfl rfl rfl h125 <| g_v rfl r_move <| g_do rfl rfl rfl rfl rfl h125 ?_
     refine g_v rfl (r_len Try.underlying9 rfl) <| g_do rfl rfl rfl rfl rfl h125 <| g_v rfl (r_gtr rfl rfl) <| g_v rfl (r_pick0 rfl h125) <| g_nil <| d_then ?_
     refine c_flat [(0, .string p0), (4, .slice A102 l101.length c103), (5, .int .i64 i104), (6, .int .i64 (w64 b124)), (31, .bool (decide ((p0.size : Int) < w64 ((w64 (i104 + 1)) + (w64 b124)))))] ⟨rfl, rfl, rfl, rfl, rfl, trivial⟩ (fun u => ?_)
     refine c_cond rfl (fun h126 => ?_) (fun h126 => ?_)
     ·
      replace hm := ite_t hm (of_decide_eq_true h126)
      refine c_seq <| c_region <| g_v rfl r_assign <| g_v rfl r_assign <| g_nil <| d_then <| c_ret <| d_ret_then <| d_ret_block <| d_ret_then ?_
      refine d_ret_block <| d_ret_then <| d_ret_then ?_
      replace hm := nx_out (C := (fun e : ((List ByteArray) × Int) ⊕ ((List ByteArray) × Bool) => Sum.elim (fun e => m_ref03_row_j1 p0 e.1 e.2) (fun x => some x) e = some r)) hm hnx2 hr2
      replace hm : some (([] : List ByteArray), false) = some r := hm
      replace hm := Option.some.inj hm
      subst hm
      refine d_sta _ (fun W h => nilR h 28 9 1) <| d_sta _ (fun W h => ok_frontR (t := 28) (t' := 2000) h rfl) ?_
      refine d_retC (none, 0) Try.results39 ?_ (Nat.le_refl 0) (fun W h => (h.dropR (t := 19) rfl).phi (fun W hφ => hφ)) (.inr rfl)
      refine res_tmp <| res_tmp <| res_nil ?_
      exact rfl
     ·
      replace hm := ite_f hm (of_decide_eq_false h126)
      refine c_skip <| d_then <| c_seq <| c_region <| g_v rfl r_move <| g_v rfl r_move <| g_v rfl r_move <| g_v rfl (r_add rfl rfl rfl) <| g_v rfl r_move <| g_v rfl (r_add rfl rfl rfl) ?_
      refine g_v rfl r_move <| g_v rfl (r_add rfl rfl rfl) ?_
      replace hm := bnd hm
      obtain ⟨s127, hs127, hm⟩ := hm
      refine g_v rfl (r_scutMid Try.underlying9 rfl rfl rfl hs127) ?_
      refine g_e rfl (e_lit (tag := 100410) (l := [s127]) (enc := (fun x : ByteArray => [Value.string x])) (sz := 1) rfl Try.underlying22 (lit9_6 _) rfl rfl (fun _ => rfl)) (fun g128 _ => ?_)
      replace hm := bnd hm
      obtain ⟨l129, hl129, hm⟩ := hm
      refine g_e rfl (e_appR (enc := (fun x : ByteArray => [Value.string x])) (l := l101) (l1 := [s127]) (l2 := l129) (tag := 19) Try.underlying22 inf9_7 rfl (by decide) (by decide) (fun _ => rfl) (fun _ => rfl) rfl hc103 rfl rfl (fun W hS => rowCl (tag := 100410) rfl W hS) hl129) (fun ⟨A130, c131⟩ hc131 => ?_)
      refine g_v rfl r_assign <| g_nil <| d_then ?_
      refine c_flat [(0, .string p0), (4, .slice A130 l129.length c131), (5, .int .i64 i104), (6, .int .i64 (w64 b124))] ⟨rfl, rfl, rfl, rfl, trivial⟩ (fun u => ?_)
      refine c_sta ⟨w0, M, H, (100410, ⟨.slice (some ⟨g128, 0, none⟩) [s127].length 1, 9, 1, [s127].length, [s127].flatMap (fun x : ByteArray => [Value.string x])⟩) :: (19, ⟨.slice A130 l129.length c131, 9, 1, l129.length, l129.flatMap (fun x : ByteArray => [Value.string x])⟩) :: R, φ⟩ (fun _ h => h) <| c_region <| g_v rfl r_move <| g_v rfl (r_add rfl rfl rfl) <| g_v rfl r_move <| g_v rfl (r_add rfl rfl rfl) <| g_v rfl r_assign <| g_nil <| d_normal_block ?_
      obtain ⟨n132, hn132, hlp⟩ := nx_inl hm hnx2
      exact d_round (n132, l129, w64 ((w64 (i104 + 1)) + (w64 b124)), A130, c131) ⟨hlp, hc131⟩ hn132 ⟨rfl, rfl, rfl, trivial⟩ (fun W h => (h.dropR (t := 100410) rfl).phi (fun W hφ => hφ))
    ·
     replace hm := ite_t hm (of_decide_eq_true h125)
     refine g_no rfl rfl rfl rfl rfl h125 <| g_no rfl rfl rfl rfl rfl h125 <| g_no rfl rfl rfl rfl rfl h125 <| g_no rfl rfl rfl rfl rfl h125 <| g_no rfl rfl rfl rfl rfl h125 <| g_no rfl rfl rfl rfl rfl h125 <| g_v rfl (r_pick1 rfl h125) <| g_nil <| d_then ?_
     refine c_flat [(0, .string p0), (4, .slice A102 l101.length c103), (5, .int .i64 i104), (6, .int .i64 (w64 b124)), (31, .bool true)] ⟨rfl, rfl, rfl, rfl, rfl, trivial⟩ (fun u => ?_)
     refine c_cond1 rfl rfl <| c_seq <| c_region <| g_v rfl r_assign <| g_v rfl r_assign <| g_nil <| d_then <| c_ret <| d_ret_then <| d_ret_block ?_
     refine d_ret_then <| d_ret_block <| d_ret_then <| d_ret_then ?_
     replace hm := nx_out (C := (fun e : ((List ByteArray) × Int) ⊕ ((List ByteArray) × Bool) => Sum.elim (fun e => m_ref03_row_j1 p0 e.1 e.2) (fun x => some x) e = some r)) hm hnx2 hr2
     replace hm : some (([] : List ByteArray), false) = some r := hm
     replace hm := Option.some.inj hm
     subst hm
     refine d_sta _ (fun W h => nilR h 29 9 1) <| d_sta _ (fun W h => ok_frontR (t := 29) (t' := 2000) h rfl) ?_
     refine d_retC (none, 0) Try.results39 ?_ (Nat.le_refl 0) (fun W h => (h.dropR (t := 19) rfl).phi (fun W hφ => hφ)) (.inr rfl)
     refine res_tmp <| res_tmp <| res_nil ?_
     exact rfl
   ·
    replace hm := ite_f hm (of_decide_eq_false h123)
    refine c_exit <| d_exit_then <| d_exit_then <| d_exit_block ?_
    replace hm := nx_out (C := (fun e : ((List ByteArray) × Int) ⊕ ((List ByteArray) × Bool) => Sum.elim (fun e => m_ref03_row_j1 p0 e.1 e.2) (fun x => some x) e = some r)) hm hnx2 hr2
    exact d_round (l101, i104, A102, c103) ⟨hm, hc103⟩ Nat.zero_lt_one ⟨rfl, rfl, rfl, trivial⟩ (fun W h => h.phi (fun W hφ => hφ))
  ·
   replace hm := ite_f hm (of_decide_eq_false h121)
   refine g_no rfl rfl rfl rfl rfl h121 <| g_no rfl rfl rfl rfl rfl h121 <| g_no rfl rfl rfl rfl rfl h121 <| g_v rfl (r_pick0 rfl h121) <| g_nil <| d_then <| c_cond0 rfl rfl <| c_exit <| d_exit_then <| d_exit_then ?_
   refine d_exit_block ?_
   replace hm := nx_out (C := (fun e : ((List ByteArray) × Int) ⊕ ((List ByteArray) × Bool) => Sum.elim (fun e => m_ref03_row_j1 p0 e.1 e.2) (fun x => some x) e = some r)) hm hnx2 hr2
   exact d_round (l101, i104, A102, c103) ⟨hm, hc103⟩ Nat.zero_lt_one ⟨rfl, rfl, rfl, trivial⟩ (fun W h => h.phi (fun W hφ => hφ))
 ·
  unfold m_ref03_row_j1 at hm
  refine d_flat [(0, .string p0), (4, .slice A83 l82.length c84), (5, .int .i64 i85)] ⟨rfl, rfl, rfl, trivial⟩ (fun u => ?_)
  refine d_sta ⟨w0, M, H, (19, ⟨.slice A83 l82.length c84, 9, 1, l82.length, l82.flatMap (fun x : ByteArray => [Value.string x])⟩) :: R, φ⟩ (fun _ h => h) <| d_then <| c_seq <| c_region <| g_v rfl r_move <| g_v rfl r_move <| g_v rfl r_move <| g_v rfl (r_len Try.underlying9 rfl) <| g_v rfl (r_sub rfl rfl rfl) <| g_v rfl (r_eql rfl rfl) ?_
  refine g_v rfl r_assign <| g_v rfl r_assign <| g_nil <| d_then <| c_ret ?_
  replace hm := Option.some.inj hm
  subst hm
  refine d_sta _ (fun W h => ok_frontR (t := 19) (t' := 2000) h rfl) ?_
  refine d_retC (A83, c84) Try.results39 ?_ hc84 (fun W h => h.phi (fun W hφ => hφ)) (.inr rfl)
  refine res_tmp <| res_tmp <| res_nil ?_
  exact rfl
noncomputable def m_ref03_Check (p0 : ByteArray) : Option Int :=
  (m_ref03_row p0).bind fun (z7 : (List ByteArray) × Bool) =>
  if z7.2 = true then
    if 255 < (p0.size : Int) then
      some 11
    else
      some 0
  else
    some 10
theorem c_ref03_Check {w0 : World} {M : Nat → Prop} {H : List (Nat × Nat × Obj)} {R : List (Nat × Row)} {φ : World → Prop} (p0 : ByteArray) (r : Int) (hm : m_ref03_Check p0 = some r) :
    Cn Try.prog 11 #[.string p0] ⟨w0, M, H, R, φ⟩ (fun x : Unit => .int .i64 r) (fun x => True) (fun x => ⟨w0, M, H, R, φ⟩) := by
 unfold m_ref03_Check at hm
 refine cn_intro (fn := Try.f11) (N := 15) Try.func11 rfl Try.ntmps11 rfl <| c_seq <| c_region <| g_v rfl r_assign <| g_nil <| d_then <| c_seq <| c_region <| g_v rfl r_move ?_
 replace hm := bnd hm
 obtain ⟨⟨x1, x2⟩, hx3, hm⟩ := hm
 refine g_cn ⟨w0, M, _, _, φ⟩ (fun _ h => h) Try.call39 rfl rfl (c_ref03_row p0 _ hx3) (fun ⟨A4, c5⟩ hc5 => ?_)
 refine g_sta _ (fun W h => (ok_frontR (t := 2000) (t' := 100070) h rfl)) <| g_v rfl r_move <| g_v rfl (r_extract rfl rfl) <| g_v rfl (r_extract rfl rfl) <| g_v rfl r_assign <| g_v rfl r_assign <| g_nil <| d_then <| c_seq <| c_seq ?_
 refine c_region <| g_v rfl r_move <| g_v rfl (r_not rfl) <| g_nil <| d_then ?_
 refine c_flat [(0, .string p0), (11, .bool (!x2))] ⟨rfl, rfl, trivial⟩ (fun u => ?_)
 refine c_sta ⟨w0, M, H, (100070, ⟨.slice A4 x1.length c5, 9, 1, x1.length, x1.flatMap (fun x : ByteArray => [Value.string x])⟩) :: R, φ⟩ (fun _ h => h) ?_
 refine c_cond rfl (fun h8 => ?_) (fun h8 => ?_)
 ·
  have h8' : x2 = false := by revert h8; cases x2 <;> simp
  replace hm := ite_f hm (bool_nt h8')
  refine c_seq <| c_region <| g_v rfl r_assign <| g_nil <| d_then <| c_ret <| d_ret_then ?_
  replace hm := Option.some.inj hm
  subst hm
  refine d_retC () Try.results11 ?_ trivial (fun W h => ok_pre (H1 := []) (R1 := [_]) h (fun W hφ => hφ)) (.inr rfl)
  refine res_tmp <| res_nil ?_
  exact rfl
 ·
  have h8' : x2 = true := by revert h8; cases x2 <;> simp
  replace hm := ite_t hm h8'
  refine c_skip <| d_then <| c_seq <| c_seq <| c_region <| g_v rfl r_move <| g_v rfl (r_len Try.underlying9 rfl) <| g_v rfl (r_gtr rfl rfl) <| g_nil <| d_then ?_
  refine c_cond rfl (fun h9 => ?_) (fun h9 => ?_)
  ·
   replace hm := ite_t hm (of_decide_eq_true h9)
   refine c_seq <| c_region <| g_v rfl r_assign <| g_nil <| d_then <| c_ret <| d_ret_then ?_
   replace hm := Option.some.inj hm
   subst hm
   refine d_retC () Try.results11 ?_ trivial (fun W h => ok_pre (H1 := []) (R1 := [_]) h (fun W hφ => hφ)) (.inr rfl)
   refine res_tmp <| res_nil ?_
   exact rfl
  ·
   replace hm := ite_f hm (of_decide_eq_false h9)
   refine c_skip <| d_then <| c_seq <| c_region <| g_v rfl r_assign <| g_nil <| d_then <| c_ret ?_
   replace hm := Option.some.inj hm
   subst hm
   refine d_retC () Try.results11 ?_ trivial (fun W h => ok_pre (H1 := []) (R1 := [_]) h (fun W hφ => hφ)) (.inr rfl)
   refine res_tmp <| res_nil ?_
   exact rfl
noncomputable def m_ref03_Labels (p0 : ByteArray) : Option ((List ByteArray) × Int) :=
  (m_ref03_Check p0).bind fun x1 =>
  if x1 ≠ 0 then
    some (([] : List ByteArray), x1)
  else
    (m_ref03_row p0).bind fun (z10 : (List ByteArray) × Bool) =>
    some (z10.1, 0)
theorem c_ref03_Labels {w0 : World} {M : Nat → Prop} {H : List (Nat × Nat × Obj)} {R : List (Nat × Row)} {φ : World → Prop} (p0 : ByteArray) (r : (List ByteArray) × Int) (hm : m_ref03_Labels p0 = some r) :
    Cn Try.prog 71 #[.string p0] ⟨w0, M, H, R, φ⟩ (fun x : Option Addr × Nat => .tuple #[.slice x.1 r.1.length x.2, .int .i64 r.2]) (fun x => r.1.length ≤ x.2) (fun x => ⟨w0, M, H, (2000, ⟨.slice x.1 r.1.length x.2, 9, 1, r.1.length, r.1.flatMap (fun x : ByteArray => [Value.string x])⟩) :: R, φ⟩) := by
 unfold m_ref03_Labels at hm
 refine cn_intro (fn := Try.f71) (N := 18) Try.func71 rfl Try.ntmps71 rfl <| c_seq <| c_region <| g_v rfl r_assign <| g_v rfl r_assign <| g_nil <| d_then <| c_seq <| c_region <| g_v rfl r_move ?_
 replace hm := bnd hm
 obtain ⟨x1, hx2, hm⟩ := hm
 refine g_cn ⟨w0, M, _, _, φ⟩ (fun _ h => h) Try.call11 rfl rfl (c_ref03_Check p0 _ hx2) (fun _ _ => ?_)
 refine g_v rfl r_assign <| g_nil <| d_then <| c_seq <| c_seq <| c_region <| g_v rfl r_move <| g_v rfl (r_neq rfl rfl) <| g_nil <| d_then ?_
 refine c_cond rfl (fun h3 => ?_) (fun h3 => ?_)
 ·
  replace hm := ite_t hm (of_decide_eq_true h3)
  refine c_seq <| c_region <| g_v rfl r_move <| g_v rfl r_assign <| g_v rfl r_assign <| g_nil <| d_then ?_
  refine c_flat [(2, .slice none 0 0), (3, .int .i64 x1)] ⟨rfl, rfl, trivial⟩ (fun u => ?_)
  refine c_sta ⟨w0, M, H, R, φ⟩ (fun _ h => h) <| c_ret <| d_ret_then ?_
  replace hm := Option.some.inj hm
  subst hm
  refine d_sta _ (fun W h => nilR h 11 9 1) <| d_sta _ (fun W h => ok_frontR (t := 11) (t' := 2000) h rfl) ?_
  refine d_retC (none, 0) Try.results71 ?_ (Nat.le_refl 0) (fun W h => h.phi (fun W hφ => hφ)) (.inr rfl)
  refine res_tmp <| res_tmp <| res_nil ?_
  exact rfl
 ·
  replace hm := ite_f hm (of_decide_eq_false h3)
  refine c_skip <| d_then <| c_seq <| c_region <| g_v rfl r_move ?_
  replace hm := bnd hm
  obtain ⟨⟨x4, x5⟩, hx6, hm⟩ := hm
  refine g_cn ⟨w0, M, _, _, φ⟩ (fun _ h => h) Try.call39 rfl rfl (c_ref03_row p0 _ hx6) (fun ⟨A7, c8⟩ hc8 => ?_)
  refine g_sta _ (fun W h => (ok_frontR (t := 2000) (t' := 100140) h rfl)) <| g_v rfl r_move <| g_v rfl (r_extract rfl rfl) <| g_v rfl (r_extract rfl rfl) <| g_v rfl r_assign <| g_v rfl r_assign <| g_nil <| d_then ?_
  refine c_flat [(5, .slice A7 x4.length c8)] ⟨rfl, trivial⟩ (fun u => ?_)
  refine c_sta ⟨w0, M, H, (100140, ⟨.slice A7 x4.length c8, 9, 1, x4.length, x4.flatMap (fun x : ByteArray => [Value.string x])⟩) :: R, φ⟩ (fun _ h => h) <| c_seq <| c_region <| g_v rfl r_move <| g_v rfl r_assign <| g_v rfl r_assign <| g_nil <| d_then <| c_ret ?_
  replace hm := Option.some.inj hm
  subst hm
  refine d_sta _ (fun W h => ok_frontR (t := 100140) (t' := 2000) h rfl) ?_
  refine d_retC (A7, c8) Try.results71 ?_ hc8 (fun W h => h.phi (fun W hφ => hφ)) (.inr rfl)
  refine res_tmp <| res_tmp <| res_nil ?_
  exact rfl
noncomputable def m_ref03_Lower_j1  (l55 : List Int) : Option ByteArray :=
  some (strOfNums l55)
noncomputable def m_ref03_Lower_s2 (p0 : ByteArray) (l78 : List Int) (i79 : Int) : Option (((List Int) × Int) ⊕ (List Int)) :=
  if i79 < (((bytesI p0).length) : Int) then
    (at_ l78 i79).bind fun x104 =>
    if 65 ≤ x104 then
      (at_ l78 i79).bind fun x109 =>
      if x109 ≤ 90 then
        (at_ l78 i79).bind fun x114 =>
        (at_ l78 i79).bind fun x118 =>
        (setAt l78 i79 (IntKind.u8.wrap (x114 + 32))).bind fun l122 =>
        some (.inl (l122, w64 (i79 + 1)))
      else
        some (.inl (l78, w64 (i79 + 1)))
    else
      some (.inl (l78, w64 (i79 + 1)))
  else
    some (.inr l78)
noncomputable def m_ref03_Lower (p0 : ByteArray) : Option ByteArray :=
  (loop (fun s => m_ref03_Lower_s2 p0 s.1 s.2) ((bytesI p0), 0)).bind fun e => m_ref03_Lower_j1 e
theorem c_ref03_Lower {w0 : World} {M : Nat → Prop} {H : List (Nat × Nat × Obj)} {R : List (Nat × Row)} {φ : World → Prop} (p0 : ByteArray) (r : ByteArray) (hm : m_ref03_Lower p0 = some r) :
    Cn Try.prog 72 #[.string p0] ⟨w0, M, H, R, φ⟩ (fun x : Unit => .string r) (fun x => True) (fun x => ⟨w0, M, H, R, φ⟩) := by
 unfold m_ref03_Lower at hm
 refine cn_intro (fn := Try.f72) (N := 35) Try.func72 rfl Try.ntmps72 rfl <| c_seq <| c_region <| g_v rfl r_assign <| g_nil <| d_then <| c_seq <| c_region <| g_v rfl r_move ?_
 refine g_e rfl (e_bytesH 100060 Try.underlying9 Try.underlying79 Try.underlying5 rfl) (fun ⟨g5, c6, T7⟩ hc6 => ?_)
 refine g_v rfl r_assign <| g_nil <| d_then <| c_seq <| c_seq <| c_region <| g_v rfl r_assign <| g_nil <| d_then ?_
 refine c_cut (ι := (List Int)) [3] (fun l55 => [(3, .slice (some ⟨g5, 0, none⟩) ((bytesI p0).length) c6)]) (fun l55 => ⟨w0, M, (100060, g5, rowO l55 T7 5) :: H, R, φ⟩) (fun l55 => m_ref03_Lower_j1 l55 = some r ∧ l55.length = (bytesI p0).length) ?_ (fun l55 u ⟨hm, hl55⟩ => ?_)
 ·
  refine c_block ?_
  replace hm := bnd hm
  obtain ⟨out2, hl2, hr2⟩ := hm
  obtain ⟨n102', hl2⟩ := loop_lp hl2
  refine c_loopU (ι := Nat × (List Int) × Int) [3, 4] (fun ⟨n102, l78, i79⟩ => [(3, .slice (some ⟨g5, 0, none⟩) ((bytesI p0).length) c6), (4, .int .i64 i79)]) (fun ⟨n102, l78, i79⟩ => ⟨w0, M, (100060, g5, rowO l78 T7 5) :: H, R, φ⟩) (fun ⟨n102, l78, i79⟩ => Lp (fun s => m_ref03_Lower_s2 p0 s.1 s.2) n102 (l78, i79) out2 ∧ l78.length = (bytesI p0).length) (fun ⟨n102, l78, i79⟩ => n102) (n102', (bytesI p0), 0) ⟨hl2, rfl⟩ ⟨rfl, rfl, trivial⟩ (fun W h => h.phi (fun W hφ => hφ)) (fun ⟨n102, l78, i79⟩ u ⟨hlp, hl78⟩ => ?_)
  obtain ⟨o2, hm, hnx2⟩ := lp_step hlp
  clear hlp
  replace hm : m_ref03_Lower_s2 p0 l78 i79 = some o2 := hm
  unfold m_ref03_Lower_s2 at hm
  refine c_flat [(3, .slice (some ⟨g5, 0, none⟩) ((bytesI p0).length) c6), (4, .int .i64 i79)] ⟨rfl, rfl, trivial⟩ (fun u => ?_)
  refine c_sta ⟨w0, M, (100060, g5, rowO l78 T7 5) :: H, R, φ⟩ (fun _ h => h) <| c_seq <| c_seq <| c_region <| g_v rfl r_move <| g_v rfl r_move <| g_v rfl (r_lenL Try.underlying79 rfl) <| g_v rfl (r_lss rfl rfl) <| g_nil <| d_then ?_
  refine c_cond rfl (fun h103 => ?_) (fun h103 => ?_)
  ·
   replace hm := ite_t hm (of_decide_eq_true h103)
   refine c_skip <| d_then <| c_seq <| c_block <| c_seq <| c_region <| g_v rfl r_move <| g_v rfl r_move ?_
   replace hm := bnd hm
   obtain ⟨x104, hx104, hm⟩ := hm
   refine g_know _ (fun W hS => cl_at (p := (Sta.ok ⟨w0, M, (100060, g5, rowO l78 T7 5) :: H, R, φ⟩)) (sz := 1) (fun _ => rfl) (by decide) hS (hrowCl (S := ⟨w0, M, (100060, g5, rowO l78 T7 5) :: H, R, φ⟩) (tag := 100060) rfl) hx104) ?_
   rintro ⟨ad105, hA107, f106⟩
   refine g_v rfl (r_ixN hl78 Try.underlying79 Try.sizeOf5 rfl hA107 rfl hx104) <| g_v rfl (r_ld rfl Try.isAgg5 (fun W hS => Cl.head (f106 W hS))) <| g_v rfl (r_geq rfl rfl) <| g_v rfl r_move ?_
   refine g_if rfl rfl rfl rfl rfl (fun h108 => ?_) (fun h108 => ?_)
   ·
    replace hm := ite_t hm (of_decide_eq_true h108)
    refine g_v rfl r_move <| g_do rfl rfl rfl rfl rfl h108 <| g_v rfl r_move <| g_do rfl rfl rfl rfl rfl h108 ?_
    replace hm := bnd hm
    obtain ⟨x109, hx109, hm⟩ := hm
    refine g_know _ (fun W hS => cl_at (p := (Sta.ok ⟨w0, M, (100060, g5, rowO l78 T7 5) :: H, R, φ⟩)) (sz := 1) (fun _ => rfl) (by decide) hS (hrowCl (S := ⟨w0, M, (100060, g5, rowO l78 T7 5) :: H, R, φ⟩) (tag := 100060) rfl) hx109) ?_
    rintro ⟨ad110, hA112, f111⟩
    refine g_v rfl (r_ixN hl78 Try.underlying79 Try.sizeOf5 rfl hA112 rfl hx109) <| g_do rfl rfl rfl rfl rfl h108 <| g_v rfl (r_ld rfl Try.isAgg5 (fun W hS => Cl.head (f111 W hS))) <| g_do rfl rfl rfl rfl rfl h108 <| g_v rfl (r_leq rfl rfl) <| g_v rfl (r_pick1 rfl h108) <| g_nil <| d_then ?_
    refine c_flat [(3, .slice (some ⟨g5, 0, none⟩) ((bytesI p0).length) c6), (4, .int .i64 i79), (24, .bool (decide (x109 ≤ 90)))] ⟨rfl, rfl, rfl, trivial⟩ (fun u => ?_)
    refine c_cond rfl (fun h113 => ?_) (fun h113 => ?_)
    ·
     replace hm := ite_t hm (of_decide_eq_true h113)
     refine c_region <| g_v rfl r_move <| g_v rfl r_move <| g_v rfl r_move <| g_v rfl r_move ?_
     replace hm := bnd hm
     obtain ⟨x114, hx114, hm⟩ := hm
     refine g_know _ (fun W hS => cl_at (p := (Sta.ok ⟨w0, M, (100060, g5, rowO l78 T7 5) :: H, R, φ⟩)) (sz := 1) (fun _ => rfl) (by decide) hS (hrowCl (S := ⟨w0, M, (100060, g5, rowO l78 T7 5) :: H, R, φ⟩) (tag := 100060) rfl) hx114) ?_
     rintro ⟨ad115, hA117, f116⟩
     refine g_v rfl (r_ixN hl78 Try.underlying79 Try.sizeOf5 rfl hA117 rfl hx114) <| g_v rfl (r_ld rfl Try.isAgg5 (fun W hS => Cl.head (f116 W hS))) <| g_v rfl (r_add rfl rfl rfl) ?_
     replace hm := bnd hm
     obtain ⟨x118, hx118, hm⟩ := hm
     refine g_know _ (fun W hS => cl_at (p := (Sta.ok ⟨w0, M, (100060, g5, rowO l78 T7 5) :: H, R, φ⟩)) (sz := 1) (fun _ => rfl) (by decide) hS (hrowCl (S := ⟨w0, M, (100060, g5, rowO l78 T7 5) :: H, R, φ⟩) (tag := 100060) rfl) hx118) ?_
     rintro ⟨ad119, hA121, f120⟩
     refine g_v rfl (r_ixN hl78 Try.underlying79 Try.sizeOf5 rfl hA121 rfl hx118) ?_
     replace hm := bnd hm
     obtain ⟨l122, hl122, hm⟩ := hm
     refine g_stH (tag := 100060) (l := l78) rfl rfl hA121 rfl hl122 rfl Try.sizeOf5 <| g_nil <| d_normal_block <| d_then ?_
     refine c_flat [(3, .slice (some ⟨g5, 0, none⟩) ((bytesI p0).length) c6), (4, .int .i64 i79)] ⟨rfl, rfl, trivial⟩ (fun u => ?_)
     refine c_sta ⟨w0, M, (100060, g5, rowO l122 T7 5) :: H, R, φ⟩ (fun _ h => h) <| c_region <| g_v rfl r_move <| g_v rfl (r_add rfl rfl rfl) <| g_v rfl r_assign <| g_nil ?_
     obtain ⟨n123, hn123, hlp⟩ := nx_inl hm hnx2
     exact d_round (n123, l122, w64 (i79 + 1)) ⟨hlp, ((setAt_lenE hl122).trans hl78)⟩ hn123 ⟨rfl, rfl, trivial⟩ (fun W h => h.phi (fun W hφ => hφ))
    ·
     replace hm := ite_f hm (of_decide_eq_false h113)
     refine c_skip <| d_normal_block <| d_then <| c_region <| g_v rfl r_move <| g_v rfl (r_add rfl rfl rfl) <| g_v rfl r_assign <| g_nil ?_
     obtain ⟨n124, hn124, hlp⟩ := nx_inl hm hnx2
     exact d_round (n124, l78, w64 (i79 + 1)) ⟨hlp, hl78⟩ hn124 ⟨rfl, rfl, trivial⟩ (fun W h => h.phi (fun W hφ => hφ))
   ·
    replace hm := ite_f hm (of_decide_eq_false h108)
    refine g_no rfl rfl rfl rfl rfl h108 <| g_no rfl rfl rfl rfl rfl h108 <| g_no rfl rfl rfl rfl rfl h108 <| g_no rfl rfl rfl rfl rfl h108 <| g_v rfl (r_pick0 rfl h108) <| g_nil <| d_then ?_
    refine c_flat [(3, .slice (some ⟨g5, 0, none⟩) ((bytesI p0).length) c6), (4, .int .i64 i79), (24, .bool false)] ⟨rfl, rfl, rfl, trivial⟩ (fun u => ?_)
    refine c_cond0 rfl rfl <| c_skip <| d_normal_block <| d_then <| c_region <| g_v rfl r_move <| g_v rfl (r_add rfl rfl rfl) <| g_v rfl r_assign <| g_nil ?_
    obtain ⟨n125, hn125, hlp⟩ := nx_inl hm hnx2
    exact d_round (n125, l78, w64 (i79 + 1)) ⟨hlp, hl78⟩ hn125 ⟨rfl, rfl, trivial⟩ (fun W h => h.phi (fun W hφ => hφ))
  ·
   replace hm := ite_f hm (of_decide_eq_false h103)
   refine c_exit <| d_exit_then <| d_exit_then <| d_exit_block ?_
   replace hm := nx_out (C := (fun e : (List Int) => m_ref03_Lower_j1 e = some r)) hm hnx2 hr2
   exact d_round l78 ⟨hm, hl78⟩ Nat.zero_lt_one ⟨rfl, trivial⟩ (fun W h => h.phi (fun W hφ => hφ))
 ·
  unfold m_ref03_Lower_j1 at hm
  refine d_flat [(3, .slice (some ⟨g5, 0, none⟩) ((bytesI p0).length) c6)] ⟨rfl, trivial⟩ (fun u => ?_)
  refine d_sta ⟨w0, M, (100060, g5, rowO l55 T7 5) :: H, R, φ⟩ (fun _ h => h) <| d_then <| c_seq <| c_region <| g_v rfl r_move <| g_v rfl (r_textN hl55 Try.underlying79 Try.underlying5 Try.underlying9 rfl (hrowCl (tag := 100060) rfl)) <| g_v rfl r_assign <| g_nil <| d_then <| c_ret ?_
  replace hm := Option.some.inj hm
  subst hm
  refine d_retC () Try.results72 ?_ trivial (fun W h => ok_pre (H1 := [_]) (R1 := []) h (fun W hφ => hφ)) (.inr rfl)
  refine res_tmp <| res_nil ?_
  exact rfl
noncomputable def m_ref03_Shared_j1  (i107 : Int) : Option Int :=
  some i107
noncomputable def m_ref03_Shared_s2 (x1 : List ByteArray) (x8 : List ByteArray) (i152 : Int) : Option (Int ⊕ Int) :=
  if i152 < (x1.length : Int) then
    if i152 < (x8.length : Int) then
      (at_ x1 (w64 ((w64 ((x1.length : Int) - 1)) - i152))).bind fun x228 =>
      (at_ x8 (w64 ((w64 ((x8.length : Int) - 1)) - i152))).bind fun x232 =>
      (m_ref03_Lower x228).bind fun x236 =>
      (m_ref03_Lower x232).bind fun x238 =>
      if x236 = x238 then
        some (.inl (w64 (i152 + 1)))
      else
        some (.inr i152)
    else
      some (.inr i152)
  else
    some (.inr i152)
noncomputable def m_ref03_Shared (p0 : ByteArray) (p1 : ByteArray) : Option Int :=
  (m_ref03_Labels p0).bind fun (z7 : (List ByteArray) × Int) =>
  (m_ref03_Labels p1).bind fun (z14 : (List ByteArray) × Int) =>
  if z7.2 ≠ 0 then
    some (-1)
  else
    if z14.2 ≠ 0 then
      some (-1)
    else
      (loop (fun s => m_ref03_Shared_s2 z7.1 z14.1 s) 0).bind fun e => m_ref03_Shared_j1 e
theorem c_ref03_Shared {w0 : World} {M : Nat → Prop} {H : List (Nat × Nat × Obj)} {R : List (Nat × Row)} {φ : World → Prop} (p0 : ByteArray) (p1 : ByteArray) (r : Int) (hm : m_ref03_Shared p0 p1 = some r) :
    Cn Try.prog 40 #[.string p0, .string p1] ⟨w0, M, H, R, φ⟩ (fun x : Unit => .int .i64 r) (fun x => True) (fun x => ⟨w0, M, H, R, φ⟩) := by
 unfold m_ref03_Shared at hm
 refine cn_intro (fn := Try.f40) (N := 60) Try.func40 rfl Try.ntmps40 rfl <| c_seq <| c_region <| g_v rfl r_assign <| g_nil <| d_then <| c_seq <| c_region <| g_v rfl r_move ?_
 replace hm := bnd hm
 obtain ⟨⟨x1, x2⟩, hx3, hm⟩ := hm
 refine g_cn ⟨w0, M, _, _, φ⟩ (fun _ h => h) Try.call71 rfl rfl (c_ref03_Labels p0 _ hx3) (fun ⟨A4, c5⟩ hc5 => ?_)
 refine g_sta _ (fun W h => (ok_frontR (t := 2000) (t' := 100120) h rfl)) <| g_v rfl r_move <| g_v rfl (r_extract rfl rfl) <| g_v rfl (r_extract rfl rfl) <| g_v rfl r_assign <| g_v rfl r_assign <| g_nil <| d_then <| c_seq <| c_region ?_
 refine g_v rfl r_move ?_
 replace hm := bnd hm
 obtain ⟨⟨x8, x9⟩, hx10, hm⟩ := hm
 refine g_cn ⟨w0, M, _, _, φ⟩ (fun _ h => h) Try.call71 rfl rfl (c_ref03_Labels p1 _ hx10) (fun ⟨A11, c12⟩ hc12 => ?_)
 refine g_sta _ (fun W h => (ok_frontR (t := 2000) (t' := 100170) h rfl)) <| g_v rfl r_move <| g_v rfl (r_extract rfl rfl) <| g_v rfl (r_extract rfl rfl) <| g_v rfl r_assign <| g_v rfl r_assign <| g_nil <| d_then ?_
 refine c_flat [(5, .slice A4 x1.length c5), (6, .int .i64 x2), (7, .slice A11 x8.length c12), (8, .int .i64 x9)] ⟨rfl, rfl, rfl, rfl, trivial⟩ (fun u => ?_)
 refine c_sta ⟨w0, M, H, (100170, ⟨.slice A11 x8.length c12, 9, 1, x8.length, x8.flatMap (fun x : ByteArray => [Value.string x])⟩) :: (100120, ⟨.slice A4 x1.length c5, 9, 1, x1.length, x1.flatMap (fun x : ByteArray => [Value.string x])⟩) :: R, φ⟩ (fun _ h => h) <| c_seq <| c_seq <| c_region <| g_v rfl r_move <| g_v rfl (r_neq rfl rfl) <| g_v rfl r_move ?_
 refine g_if rfl rfl rfl rfl rfl (fun h15 => ?_) (fun h15 => ?_)
 ·
  replace hm := ite_f hm (of_decide_eq_false h15)
  refine g_v rfl r_move <| g_do rfl rfl rfl rfl rfl h15 <| g_v rfl (r_neq rfl rfl) <| g_v rfl (r_pick0 rfl h15) <| g_nil <| d_then ?_
  refine c_cond rfl (fun h16 => ?_) (fun h16 => ?_)
  ·
   replace hm := ite_t hm (of_decide_eq_true h16)
   refine c_seq <| c_region <| g_v rfl r_assign <| g_nil <| d_then <| c_ret <| d_ret_then ?_
   replace hm := Option.some.inj hm
   subst hm
   refine d_retC () Try.results40 ?_ trivial (fun W h => ok_pre (H1 := []) (R1 := [_, _]) h (fun W hφ => hφ)) (.inr rfl)
   refine res_tmp <| res_nil ?_
   exact rfl
  ·
   replace hm := ite_f hm (of_decide_eq_false h16)
   refine c_skip <| d_then <| c_seq <| c_region <| g_v rfl r_assign <| g_nil <| d_then <| c_seq ?_
   refine c_cut (ι := Int) [9] (fun i107 => [(9, .int .i64 i107)]) (fun i107 => ⟨w0, M, H, R, φ⟩) (fun i107 => m_ref03_Shared_j1 i107 = some r) ?_ (fun i107 u hm => ?_)
   ·
    refine c_block ?_
    replace hm := bnd hm
    obtain ⟨out2, hl2, hr2⟩ := hm
    obtain ⟨n197', hl2⟩ := loop_lp hl2
    refine c_loopU (ι := Nat × Int) [5, 7, 9] (fun ⟨n197, i152⟩ => [(9, .int .i64 i152)]) (fun ⟨n197, i152⟩ => ⟨w0, M, H, (100170, ⟨.slice A11 x8.length c12, 9, 1, x8.length, x8.flatMap (fun x : ByteArray => [Value.string x])⟩) :: (100120, ⟨.slice A4 x1.length c5, 9, 1, x1.length, x1.flatMap (fun x : ByteArray => [Value.string x])⟩) :: R, φ⟩) (fun ⟨n197, i152⟩ => Lp (fun s => m_ref03_Shared_s2 x1 x8 s) n197 i152 out2) (fun ⟨n197, i152⟩ => n197) (n197', 0) hl2 ⟨rfl, rfl, rfl, trivial⟩ (fun W h => h.phi (fun W hφ => hφ)) (fun ⟨n197, i152⟩ u hlp => ?_)
    obtain ⟨o2, hm, hnx2⟩ := lp_step hlp
    clear hlp
    replace hm : m_ref03_Shared_s2 x1 x8 i152 = some o2 := hm
    unfold m_ref03_Shared_s2 at hm
    refine c_flat [(5, .slice A4 x1.length c5), (7, .slice A11 x8.length c12), (9, .int .i64 i152)] ⟨rfl, rfl, rfl, trivial⟩ (fun u => ?_)
    refine c_seq <| c_seq <| ga_start (n := 31) ⟨w0, M, H, (100170, ⟨.slice A11 x8.length c12, 9, 1, x8.length, x8.flatMap (fun x : ByteArray => [Value.string x])⟩) :: (100120, ⟨.slice A4 x1.length c5, 9, 1, x1.length, x1.flatMap (fun x : ByteArray => [Value.string x])⟩) :: R, φ⟩ [] #[false, false, false, false, false, false, false, false, false, false, false, false, false, false, false, false, false, false, false, false, false, false, false, false, false, false, false, false, false, false, false] (fun W h => h.phi (fun W hφ => hφ)) mixed rfl rfl <| ga_v (i := 0) (bz 31 1) rfl (by kernel_rfl) (fun _ _ _ _ h => h) rfl (r_move) <| ga_r (i := 1) (bz 31 3) rfl (by kernel_rfl) (by decide) rfl (r_move) <| ga_r (i := 2) (bz 31 7) rfl (by kernel_rfl) (by decide) rfl (r_lenL Try.underlying22 rfl) <| ga_r (i := 3) (bz 31 15) rfl (by kernel_rfl) (by decide) rfl (r_lss rfl rfl) <| ga_r (i := 4) (bz 31 31) rfl (by kernel_rfl) (by decide) rfl (r_move) ?_
    refine ga_if (t := 30) rfl (fun h226 => ?_) (fun h226 => ?_)
    ·
     replace hm := ite_t hm (of_decide_eq_true h226)
     refine ga_do (i := 5) (bz 31 63) rfl (by kernel_rfl) (fun _ _ _ _ h => h) rfl rfl rfl rfl rfl h226 (r_move) <| ga_rG (i := 6) (bz 31 127) rfl (by kernel_rfl) (by decide) rfl rfl rfl rfl rfl h226 (r_move) <| ga_rG (i := 7) (bz 31 255) rfl (by kernel_rfl) (by decide) rfl rfl rfl rfl rfl h226 (r_lenL Try.underlying22 rfl) <| ga_rG (i := 8) (bz 31 511) rfl (by kernel_rfl) (by decide) rfl rfl rfl rfl rfl h226 (r_lss rfl rfl) <| ga_r (i := 9) (bz 31 1023) rfl (by kernel_rfl) (by decide) rfl (r_pick1 rfl h226) <| ga_r (i := 10) (bz 31 2047) rfl (by kernel_rfl) (by decide) rfl (r_move) ?_
     refine ga_if (t := 36) rfl (fun h227 => ?_) (fun h227 => ?_)
     ·
      replace hm := ite_t hm (of_decide_eq_true h227)
      refine ga_do (i := 11) (bz 31 4095) rfl (by kernel_rfl) (fun _ _ _ _ h => h) rfl rfl rfl rfl rfl h227 (r_move) <| ga_do (i := 12) (bz 31 8191) rfl (by kernel_rfl) (fun _ _ _ _ h => h) rfl rfl rfl rfl rfl h227 (r_move) <| ga_do (i := 13) (bz 31 16383) rfl (by kernel_rfl) (fun _ _ _ _ h => h) rfl rfl rfl rfl rfl h227 (r_lenL Try.underlying22 rfl) <| ga_do (i := 14) (bz 31 32767) rfl (by kernel_rfl) (fun _ _ _ _ h => h) rfl rfl rfl rfl rfl h227 (r_sub rfl rfl rfl) <| ga_do (i := 15) (bz 31 65535) rfl (by kernel_rfl) (fun _ _ _ _ h => h) rfl rfl rfl rfl rfl h227 (r_move) <| ga_do (i := 16) (bz 31 131071) rfl (by kernel_rfl) (fun _ _ _ _ h => h) rfl rfl rfl rfl rfl h227 (r_sub rfl rfl rfl) ?_
      replace hm := bnd hm
      obtain ⟨x228, hx228, hm⟩ := hm
      refine ga_know _ (fun W hS => cl_at (p := (Sta.ok ⟨w0, M, H, (100170, ⟨.slice A11 x8.length c12, 9, 1, x8.length, x8.flatMap (fun x : ByteArray => [Value.string x])⟩) :: (100120, ⟨.slice A4 x1.length c5, 9, 1, x1.length, x1.flatMap (fun x : ByteArray => [Value.string x])⟩) :: R, φ⟩)) (sz := 1) (fun _ => rfl) (by decide) (hS.phi (fun W hφ => hφ)) (fun W hS => rowCl (S := ⟨w0, M, H, (100170, ⟨.slice A11 x8.length c12, 9, 1, x8.length, x8.flatMap (fun x : ByteArray => [Value.string x])⟩) :: (100120, ⟨.slice A4 x1.length c5, 9, 1, x1.length, x1.flatMap (fun x : ByteArray => [Value.string x])⟩) :: R, φ⟩) (tag := 100120) rfl W hS) hx228) ?_
      rintro ⟨ad229, hA231, f230⟩
      refine ga_do (i := 17) (bz 31 262143) rfl (by kernel_rfl) (fun _ _ _ _ h => h) rfl rfl rfl rfl rfl h227 (r_ix Try.underlying22 Try.sizeOf9 rfl hA231 rfl hx228) <| ga_do (i := 18) (bz 31 524287) rfl (by kernel_rfl) (fun _ _ _ _ h => h) rfl rfl rfl rfl rfl h227 (r_ld rfl Try.isAgg9 (fun W hS => Cl.head (f230 W hS))) <| ga_do (i := 20) (bz 31 1572863) rfl (by kernel_rfl) (fun _ _ _ _ h => h) rfl rfl rfl rfl rfl h227 (r_move) <| ga_do (i := 21) (bz 31 3670015) rfl (by kernel_rfl) (fun _ _ _ _ h => h) rfl rfl rfl rfl rfl h227 (r_move) <| ga_do (i := 22) (bz 31 7864319) rfl (by kernel_rfl) (fun _ _ _ _ h => h) rfl rfl rfl rfl rfl h227 (r_lenL Try.underlying22 rfl) <| ga_do (i := 23) (bz 31 16252927) rfl (by kernel_rfl) (fun _ _ _ _ h => h) rfl rfl rfl rfl rfl h227 (r_sub rfl rfl rfl) <| ga_do (i := 24) (bz 31 33030143) rfl (by kernel_rfl) (fun _ _ _ _ h => h) rfl rfl rfl rfl rfl h227 (r_move) <| ga_do (i := 25) (bz 31 66584575) rfl (by kernel_rfl) (fun _ _ _ _ h => h) rfl rfl rfl rfl rfl h227 (r_sub rfl rfl rfl) ?_
      replace hm := bnd hm
      obtain ⟨x232, hx232, hm⟩ := hm
      refine ga_know _ (fun W hS => cl_at (p := (Sta.ok ⟨w0, M, H, (100170, ⟨.slice A11 x8.length c12, 9, 1, x8.length, x8.flatMap (fun x : ByteArray => [Value.string x])⟩) :: (100120, ⟨.slice A4 x1.length c5, 9, 1, x1.length, x1.flatMap (fun x : ByteArray => [Value.string x])⟩) :: R, φ⟩)) (sz := 1) (fun _ => rfl) (by decide) (hS.phi (fun W hφ => hφ)) (fun W hS => rowCl (S := ⟨w0, M, H, (100170, ⟨.slice A11 x8.length c12, 9, 1, x8.length, x8.flatMap (fun x : ByteArray => [Value.string x])⟩) :: (100120, ⟨.slice A4 x1.length c5, 9, 1, x1.length, x1.flatMap (fun x : ByteArray => [Value.string x])⟩) :: R, φ⟩) (tag := 100170) rfl W hS) hx232) ?_
      rintro ⟨ad233, hA235, f234⟩
      refine ga_do (i := 26) (bz 31 133693439) rfl (by kernel_rfl) (fun _ _ _ _ h => h) rfl rfl rfl rfl rfl h227 (r_ix Try.underlying22 Try.sizeOf9 rfl hA235 rfl hx232) <| ga_do (i := 27) (bz 31 267911167) rfl (by kernel_rfl) (fun _ _ _ _ h => h) rfl rfl rfl rfl rfl h227 (r_ld rfl Try.isAgg9 (fun W hS => Cl.head (f234 W hS))) ?_
      replace hm := bnd hm
      obtain ⟨x236, hx237, hm⟩ := hm
      refine ga_cnG (first := #[]) (i := 19) (bz 31 268435455) rfl (by kernel_rfl) (by decide) rfl rfl rfl rfl h227  ⟨w0, M, _, _, φ⟩ (fun _ h => h) Try.call72 rfl rfl rfl (c_ref03_Lower x228 _ hx237) (fun _ W _ h => h.phi (fun W hφ => hφ)) (fun _ _ => ?_)
      replace hm := bnd hm
      obtain ⟨x238, hx239, hm⟩ := hm
      refine ga_cnG (first := #[]) (i := 28) (bz 31 536870911) rfl (by kernel_rfl) (by decide) rfl rfl rfl rfl h227  ⟨w0, M, _, _, φ⟩ (fun _ h => h) Try.call72 rfl rfl rfl (c_ref03_Lower x232 _ hx239) (fun _ W _ h => h.phi (fun W hφ => hφ)) (fun _ _ => ?_)
      refine ga_rG (i := 29) (bz 31 1073741823) rfl (by kernel_rfl) (by decide) rfl rfl rfl rfl rfl h227 (r_eqlT rfl rfl) <| ga_r (i := 30) (bz 31 2147483647) rfl (by kernel_rfl) (by decide) rfl (r_pick1 rfl h227) <| ga_done (by kernel_rfl) <| d_then ?_
      refine c_flat [(5, .slice A4 x1.length c5), (7, .slice A11 x8.length c12), (9, .int .i64 i152), (56, .bool (decide (x236 = x238)))] ⟨rfl, rfl, rfl, rfl, trivial⟩ (fun u => ?_)
      refine c_cond rfl (fun h240 => ?_) (fun h240 => ?_)
      ·
       replace hm := ite_t hm (of_decide_eq_true h240)
       refine c_skip <| d_then <| c_block <| c_region <| g_v rfl r_move <| g_v rfl (r_add rfl rfl rfl) <| g_v rfl r_assign <| g_nil <| d_normal_block ?_
       obtain ⟨n241, hn241, hlp⟩ := nx_inl hm hnx2
       exact d_round (n241, w64 (i152 + 1)) hlp hn241 ⟨rfl, rfl, rfl, trivial⟩ (fun W h => h.phi (fun W hφ => hφ))
      ·
       replace hm := ite_f hm (of_decide_eq_false h240)
       refine c_exit <| d_exit_then <| d_exit_then <| d_exit_block ?_
       replace hm := nx_out (C := (fun e : Int => m_ref03_Shared_j1 e = some r)) hm hnx2 hr2
       exact d_round i152 hm Nat.zero_lt_one ⟨rfl, trivial⟩ (fun W h => ((h.dropR (t := 100170) rfl).dropR (t := 100120) rfl).phi (fun W hφ => hφ))
     ·
      replace hm := ite_f hm (of_decide_eq_false h227)
      refine ga_no (i := 11) (bz 31 4095) rfl (by kernel_rfl) (fun _ _ _ _ h => h) rfl rfl rfl rfl rfl h227 <| ga_no (i := 12) (bz 31 8191) rfl (by kernel_rfl) (fun _ _ _ _ h => h) rfl rfl rfl rfl rfl h227 <| ga_no (i := 13) (bz 31 16383) rfl (by kernel_rfl) (fun _ _ _ _ h => h) rfl rfl rfl rfl rfl h227 <| ga_no (i := 14) (bz 31 32767) rfl (by kernel_rfl) (fun _ _ _ _ h => h) rfl rfl rfl rfl rfl h227 <| ga_no (i := 15) (bz 31 65535) rfl (by kernel_rfl) (fun _ _ _ _ h => h) rfl rfl rfl rfl rfl h227 <| ga_no (i := 16) (bz 31 131071) rfl (by kernel_rfl) (fun _ _ _ _ h => h) rfl rfl rfl rfl rfl h227 <| ga_no (i := 17) (bz 31 262143) rfl (by kernel_rfl) (fun _ _ _ _ h => h) rfl rfl rfl rfl rfl h227 <| ga_no (i := 18) (bz 31 524287) rfl (by kernel_rfl) (fun _ _ _ _ h => h) rfl rfl rfl rfl rfl h227 <| ga_no (i := 19) (bz 31 1048575) rfl (by kernel_rfl) (fun _ _ _ _ h => h) rfl rfl rfl rfl rfl h227 <| ga_no (i := 20) (bz 31 2097151) rfl (by kernel_rfl) (fun _ _ _ _ h => h) rfl rfl rfl rfl rfl h227 ?_
      refine ga_no (i := 21) (bz 31 4194303) rfl (by kernel_rfl) (fun _ _ _ _ h => h) rfl rfl rfl rfl rfl h227 <| ga_no (i := 22) (bz 31 8388607) rfl (by kernel_rfl) (fun _ _ _ _ h => h) rfl rfl rfl rfl rfl h227 <| ga_no (i := 23) (bz 31 16777215) rfl (by kernel_rfl) (fun _ _ _ _ h => h) rfl rfl rfl rfl rfl h227 <| ga_no (i := 24) (bz 31 33554431) rfl (by kernel_rfl) (fun _ _ _ _ h => h) rfl rfl rfl rfl rfl h227 <| ga_no (i := 25) (bz 31 67108863) rfl (by kernel_rfl) (fun _ _ _ _ h => h) rfl rfl rfl rfl rfl h227 <| ga_no (i := 26) (bz 31 134217727) rfl (by kernel_rfl) (fun _ _ _ _ h => h) rfl rfl rfl rfl rfl h227 <| ga_no (i := 27) (bz 31 268435455) rfl (by kernel_rfl) (fun _ _ _ _ h => h) rfl rfl rfl rfl rfl h227 <| ga_no (i := 28) (bz 31 536870911) rfl (by kernel_rfl) (fun _ _ _ _ h => h) rfl rfl rfl rfl rfl h227 <| ga_no (i := 29) (bz 31 1073741823) rfl (by kernel_rfl) (fun _ _ _ _ h => h) rfl rfl rfl rfl rfl h227 <| ga_r (i := 30) (bz 31 2147483647) rfl (by kernel_rfl) (by decide) rfl (r_pick0 rfl h227) ?_
      refine ga_done (by kernel_rfl) <| d_then ?_
      refine c_flat [(5, .slice A4 x1.length c5), (7, .slice A11 x8.length c12), (9, .int .i64 i152), (56, .bool false)] ⟨rfl, rfl, rfl, rfl, trivial⟩ (fun u => ?_)
      refine c_cond0 rfl rfl <| c_exit <| d_exit_then <| d_exit_then <| d_exit_block ?_
      replace hm := nx_out (C := (fun e : Int => m_ref03_Shared_j1 e = some r)) hm hnx2 hr2
      exact d_round i152 hm Nat.zero_lt_one ⟨rfl, trivial⟩ (fun W h => ((h.dropR (t := 100170) rfl).dropR (t := 100120) rfl).phi (fun W hφ => hφ))
    ·
     replace hm := ite_f hm (of_decide_eq_false h226)
     refine ga_no (i := 5) (bz 31 63) rfl (by kernel_rfl) (fun _ _ _ _ h => h) rfl rfl rfl rfl rfl h226 <| ga_no (i := 6) (bz 31 127) rfl (by kernel_rfl) (fun _ _ _ _ h => h) rfl rfl rfl rfl rfl h226 <| ga_no (i := 7) (bz 31 255) rfl (by kernel_rfl) (fun _ _ _ _ h => h) rfl rfl rfl rfl rfl h226 <| ga_no (i := 8) (bz 31 511) rfl (by kernel_rfl) (fun _ _ _ _ h => h) rfl rfl rfl rfl rfl h226 <| ga_r (i := 9) (bz 31 1023) rfl (by kernel_rfl) (by decide) rfl (r_pick0 rfl h226) <| ga_r (i := 10) (bz 31 2047) rfl (by kernel_rfl) (by decide) rfl (r_move) <| ga_no (i := 11) (bz 31 4095) rfl (by kernel_rfl) (fun _ _ _ _ h => h) rfl rfl rfl rfl rfl rfl <| ga_no (i := 12) (bz 31 8191) rfl (by kernel_rfl) (fun _ _ _ _ h => h) rfl rfl rfl rfl rfl rfl <| ga_no (i := 13) (bz 31 16383) rfl (by kernel_rfl) (fun _ _ _ _ h => h) rfl rfl rfl rfl rfl rfl <| ga_no (i := 14) (bz 31 32767) rfl (by kernel_rfl) (fun _ _ _ _ h => h) rfl rfl rfl rfl rfl rfl ?_
     refine ga_no (i := 15) (bz 31 65535) rfl (by kernel_rfl) (fun _ _ _ _ h => h) rfl rfl rfl rfl rfl rfl <| ga_no (i := 16) (bz 31 131071) rfl (by kernel_rfl) (fun _ _ _ _ h => h) rfl rfl rfl rfl rfl rfl <| ga_no (i := 17) (bz 31 262143) rfl (by kernel_rfl) (fun _ _ _ _ h => h) rfl rfl rfl rfl rfl rfl <| ga_no (i := 18) (bz 31 524287) rfl (by kernel_rfl) (fun _ _ _ _ h => h) rfl rfl rfl rfl rfl rfl <| ga_no (i := 19) (bz 31 1048575) rfl (by kernel_rfl) (fun _ _ _ _ h => h) rfl rfl rfl rfl rfl rfl <| ga_no (i := 20) (bz 31 2097151) rfl (by kernel_rfl) (fun _ _ _ _ h => h) rfl rfl rfl rfl rfl rfl <| ga_no (i := 21) (bz 31 4194303) rfl (by kernel_rfl) (fun _ _ _ _ h => h) rfl rfl rfl rfl rfl rfl <| ga_no (i := 22) (bz 31 8388607) rfl (by kernel_rfl) (fun _ _ _ _ h => h) rfl rfl rfl rfl rfl rfl <| ga_no (i := 23) (bz 31 16777215) rfl (by kernel_rfl) (fun _ _ _ _ h => h) rfl rfl rfl rfl rfl rfl <| ga_no (i := 24) (bz 31 33554431) rfl (by kernel_rfl) (fun _ _ _ _ h => h) rfl rfl rfl rfl rfl rfl ?_
     refine ga_no (i := 25) (bz 31 67108863) rfl (by kernel_rfl) (fun _ _ _ _ h => h) rfl rfl rfl rfl rfl rfl <| ga_no (i := 26) (bz 31 134217727) rfl (by kernel_rfl) (fun _ _ _ _ h => h) rfl rfl rfl rfl rfl rfl <| ga_no (i := 27) (bz 31 268435455) rfl (by kernel_rfl) (fun _ _ _ _ h => h) rfl rfl rfl rfl rfl rfl <| ga_no (i := 28) (bz 31 536870911) rfl (by kernel_rfl) (fun _ _ _ _ h => h) rfl rfl rfl rfl rfl rfl <| ga_no (i := 29) (bz 31 1073741823) rfl (by kernel_rfl) (fun _ _ _ _ h => h) rfl rfl rfl rfl rfl rfl <| ga_r (i := 30) (bz 31 2147483647) rfl (by kernel_rfl) (by decide) rfl (r_pick0 rfl rfl) <| ga_done (by kernel_rfl) <| d_then <| c_cond0 rfl rfl <| c_exit ?_
     refine d_exit_then <| d_exit_then <| d_exit_block ?_
     replace hm := nx_out (C := (fun e : Int => m_ref03_Shared_j1 e = some r)) hm hnx2 hr2
     exact d_round i152 hm Nat.zero_lt_one ⟨rfl, trivial⟩ (fun W h => ((h.dropR (t := 100170) rfl).dropR (t := 100120) rfl).phi (fun W hφ => hφ))
   ·
    unfold m_ref03_Shared_j1 at hm
    refine d_flat [(9, .int .i64 i107)] ⟨rfl, trivial⟩ (fun u => ?_)
    refine d_sta ⟨w0, M, H, R, φ⟩ (fun _ h => h) <| d_then <| c_seq <| c_region <| g_v rfl r_move <| g_v rfl r_assign <| g_nil <| d_then <| c_ret ?_
    replace hm := Option.some.inj hm
    subst hm
    refine d_retC () Try.results40 ?_ trivial (fun W h => ok_pre (H1 := []) (R1 := []) h (fun W hφ => hφ)) (.inr rfl)
    refine res_tmp <| res_nil ?_
    exact rfl
 ·
  replace hm := ite_t hm (of_decide_eq_true h15)
  refine g_no rfl rfl rfl rfl rfl h15 <| g_v rfl (r_pick1 rfl h15) <| g_nil <| d_then <| c_cond1 rfl rfl <| c_seq <| c_region <| g_v rfl r_assign <| g_nil <| d_then ?_
  refine c_ret <| d_ret_then ?_
  replace hm := Option.some.inj hm
  subst hm
  refine d_retC () Try.results40 ?_ trivial (fun W h => ok_pre (H1 := []) (R1 := [_, _]) h (fun W hφ => hφ)) (.inr rfl)
  refine res_tmp <| res_nil ?_
  exact rfl
noncomputable def m_ref03_Depth (p0 : ByteArray) : Option Int :=
  (m_ref03_Labels p0).bind fun (z7 : (List ByteArray) × Int) =>
  if z7.2 ≠ 0 then
    some (-1)
  else
    some (z7.1.length : Int)
theorem c_ref03_Depth {w0 : World} {M : Nat → Prop} {H : List (Nat × Nat × Obj)} {R : List (Nat × Row)} {φ : World → Prop} (p0 : ByteArray) (r : Int) (hm : m_ref03_Depth p0 = some r) :
    Cn Try.prog 41 #[.string p0] ⟨w0, M, H, R, φ⟩ (fun x : Unit => .int .i64 r) (fun x => True) (fun x => ⟨w0, M, H, R, φ⟩) := by
 unfold m_ref03_Depth at hm
 refine cn_intro (fn := Try.f41) (N := 14) Try.func41 rfl Try.ntmps41 rfl <| c_seq <| c_region <| g_v rfl r_assign <| g_nil <| d_then <| c_seq <| c_region <| g_v rfl r_move ?_
 replace hm := bnd hm
 obtain ⟨⟨x1, x2⟩, hx3, hm⟩ := hm
 refine g_cn ⟨w0, M, _, _, φ⟩ (fun _ h => h) Try.call71 rfl rfl (c_ref03_Labels p0 _ hx3) (fun ⟨A4, c5⟩ hc5 => ?_)
 refine g_sta _ (fun W h => (ok_frontR (t := 2000) (t' := 100070) h rfl)) <| g_v rfl r_move <| g_v rfl (r_extract rfl rfl) <| g_v rfl (r_extract rfl rfl) <| g_v rfl r_assign <| g_v rfl r_assign <| g_nil <| d_then <| c_seq <| c_seq ?_
 refine c_region <| g_v rfl r_move <| g_v rfl (r_neq rfl rfl) <| g_nil <| d_then ?_
 refine c_flat [(3, .slice A4 x1.length c5), (11, .bool (decide (x2 ≠ 0)))] ⟨rfl, rfl, trivial⟩ (fun u => ?_)
 refine c_sta ⟨w0, M, H, (100070, ⟨.slice A4 x1.length c5, 9, 1, x1.length, x1.flatMap (fun x : ByteArray => [Value.string x])⟩) :: R, φ⟩ (fun _ h => h) ?_
 refine c_cond rfl (fun h8 => ?_) (fun h8 => ?_)
 ·
  replace hm := ite_t hm (of_decide_eq_true h8)
  refine c_seq <| c_region <| g_v rfl r_assign <| g_nil <| d_then <| c_ret <| d_ret_then ?_
  replace hm := Option.some.inj hm
  subst hm
  refine d_retC () Try.results41 ?_ trivial (fun W h => ok_pre (H1 := []) (R1 := [_]) h (fun W hφ => hφ)) (.inr rfl)
  refine res_tmp <| res_nil ?_
  exact rfl
 ·
  replace hm := ite_f hm (of_decide_eq_false h8)
  refine c_skip <| d_then <| c_seq <| c_region <| g_v rfl r_move <| g_v rfl (r_lenL Try.underlying22 rfl) <| g_v rfl r_assign <| g_nil <| d_then <| c_ret ?_
  replace hm := Option.some.inj hm
  subst hm
  refine d_retC () Try.results41 ?_ trivial (fun W h => ok_pre (H1 := []) (R1 := [_]) h (fun W hφ => hφ)) (.inr rfl)
  refine res_tmp <| res_nil ?_
  exact rfl
noncomputable def m_ref03_Under (p0 : ByteArray) (p1 : ByteArray) : Option Bool :=
  (m_ref03_Shared p0 p1).bind fun x1 =>
  if 0 ≤ x1 then
    (m_ref03_Depth p1).bind fun x4 =>
    some (decide (x1 = x4))
  else
    some false
theorem c_ref03_Under {w0 : World} {M : Nat → Prop} {H : List (Nat × Nat × Obj)} {R : List (Nat × Row)} {φ : World → Prop} (p0 : ByteArray) (p1 : ByteArray) (r : Bool) (hm : m_ref03_Under p0 p1 = some r) :
    Cn Try.prog 12 #[.string p0, .string p1] ⟨w0, M, H, R, φ⟩ (fun x : Unit => .bool r) (fun x => True) (fun x => ⟨w0, M, H, R, φ⟩) := by
 unfold m_ref03_Under at hm
 refine cn_intro (fn := Try.f12) (N := 17) Try.func12 rfl Try.ntmps12 rfl <| c_seq <| c_region <| g_v rfl r_assign <| g_nil <| d_then <| c_seq <| c_region <| g_v rfl r_move <| g_v rfl r_move ?_
 replace hm := bnd hm
 obtain ⟨x1, hx2, hm⟩ := hm
 refine g_cn ⟨w0, M, _, _, φ⟩ (fun _ h => h) Try.call40 rfl rfl (c_ref03_Shared p0 p1 _ hx2) (fun _ _ => ?_)
 refine g_v rfl r_assign <| g_nil <| d_then <| c_seq <| c_region <| g_v rfl r_move <| g_v rfl (r_geq rfl rfl) <| g_v rfl r_move ?_
 refine g_if rfl rfl rfl rfl rfl (fun h3 => ?_) (fun h3 => ?_)
 ·
  replace hm := ite_t hm (of_decide_eq_true h3)
  refine g_v rfl r_move <| g_do rfl rfl rfl rfl rfl h3 <| g_v rfl r_move <| g_do rfl rfl rfl rfl rfl h3 ?_
  replace hm := bnd hm
  obtain ⟨x4, hx5, hm⟩ := hm
  refine g_cn ⟨w0, M, _, _, φ⟩ (fun _ h => h) Try.call41 rfl rfl (c_ref03_Depth p1 _ hx5) (fun _ _ => ?_)
  refine g_do rfl rfl rfl rfl rfl h3 <| g_v rfl (r_eql rfl rfl) <| g_v rfl (r_pick1 rfl h3) <| g_v rfl r_assign <| g_nil <| d_then ?_
  refine c_flat [(4, .bool (decide (x1 = x4)))] ⟨rfl, trivial⟩ (fun u => ?_)
  refine c_sta ⟨w0, M, H, R, φ⟩ (fun _ h => h) <| c_ret ?_
  replace hm := Option.some.inj hm
  subst hm
  refine d_retC () Try.results12 ?_ trivial (fun W h => ok_pre (H1 := []) (R1 := []) h (fun W hφ => hφ)) (.inr rfl)
  refine res_tmp <| res_nil ?_
  exact rfl
 ·
  replace hm := ite_f hm (of_decide_eq_false h3)
  refine g_no rfl rfl rfl rfl rfl h3 <| g_no rfl rfl rfl rfl rfl h3 <| g_no rfl rfl rfl rfl rfl h3 <| g_v rfl (r_pick0 rfl h3) <| g_v rfl r_assign <| g_nil <| d_then ?_
  refine c_flat [(4, .bool false)] ⟨rfl, trivial⟩ (fun u => ?_)
  refine c_sta ⟨w0, M, H, R, φ⟩ (fun _ h => h) <| c_ret ?_
  replace hm := Option.some.inj hm
  subst hm
  refine d_retC () Try.results12 ?_ trivial (fun W h => ok_pre (H1 := []) (R1 := []) h (fun W hφ => hφ)) (.inr rfl)
  refine res_tmp <| res_nil ?_
  exact rfl
noncomputable def m_law13_ConfFlushes_j1 (x1 : Bool) : Option Bool :=
  some x1
noncomputable def m_law13_ConfFlushes_s2 (p0 : List ByteArray) (x3 : ByteArray) (x5 : ByteArray) (i278 : Int) (i279 : Int) (l280 : List Int) (l284 : List ByteArray) (l288 : List GAnchor) (i292 : Int) (l293 : List GFlush) : Option ((Int × Int × (List Int) × (List ByteArray) × (List GAnchor) × Int × (List GFlush)) ⊕ (Unit ⊕ Bool)) :=
  if i279 < (p0.length : Int) then
    if i279 < 60 then
      (at_ p0 i279).bind fun x385 =>
      (m_law13_short x385 60).bind fun x389 =>
      (m_conf_Floor (⟨l280, l284, l288, i292, l293⟩ : GConf) x3).bind fun x391 =>
      (m_conf_Floor (⟨l280, l284, l288, i292, l293⟩ : GConf) x5).bind fun x393 =>
      (m_conf_Apply_k5 (⟨l280, l284, l288, i292, l293⟩ : GConf) 0 (⟨#[]⟩ : ByteArray) (⟨#[]⟩ : ByteArray) x389 ([] : List ByteArray)).bind fun (z411 : GConf × Int) =>
      (m_ref03_Check x389).bind fun x413 =>
      if x413 ≠ 0 then
        if z411.2 ≠ 1 then
          some (.inr (.inr false))
        else
          some (.inl (i278, w64 (i279 + 1), l280, l284, l288, i292, l293))
      else
        (m_conf_Floor z411.1 x3).bind fun x418 =>
        (m_conf_Floor z411.1 x5).bind fun x420 =>
        (m_ref03_Under x3 x389).bind fun x422 =>
        (m_ref03_Under x5 x389).bind fun x424 =>
        if z411.2 ≠ 0 then
          some (.inr (.inr false))
        else
          if z411.1.fEpoch ≠ w64 (i278 + 1) then
            some (.inr (.inr false))
          else
            if 32 < (z411.1.fFlushes.length : Int) then
              some (.inr (.inr false))
            else
              if x422 = true then
                if x418 ≠ w64 (i278 + 1) then
                  some (.inr (.inr false))
                else
                  if x424 = true then
                    if x420 ≠ w64 (i278 + 1) then
                      some (.inr (.inr false))
                    else
                      some (.inl (w64 (i278 + 1), w64 (i279 + 1), z411.1.fRing, z411.1.fHints, z411.1.fAnchors, z411.1.fEpoch, z411.1.fFlushes))
                  else
                    if x420 ≠ x393 then
                      if (z411.1.fFlushes.length : Int) = 1 then
                        if x420 = w64 (i278 + 1) then
                          some (.inl (w64 (i278 + 1), w64 (i279 + 1), z411.1.fRing, z411.1.fHints, z411.1.fAnchors, z411.1.fEpoch, z411.1.fFlushes))
                        else
                          some (.inr (.inr false))
                      else
                        some (.inr (.inr false))
                    else
                      some (.inl (w64 (i278 + 1), w64 (i279 + 1), z411.1.fRing, z411.1.fHints, z411.1.fAnchors, z411.1.fEpoch, z411.1.fFlushes))
              else
                if x424 = true then
                  if x420 ≠ w64 (i278 + 1) then
                    some (.inr (.inr false))
                  else
                    if x418 ≠ x391 then
                      if (z411.1.fFlushes.length : Int) = 1 then
                        if x418 = w64 (i278 + 1) then
                          some (.inl (w64 (i278 + 1), w64 (i279 + 1), z411.1.fRing, z411.1.fHints, z411.1.fAnchors, z411.1.fEpoch, z411.1.fFlushes))
                        else
                          some (.inr (.inr false))
                      else
                        some (.inr (.inr false))
                    else
                      some (.inl (w64 (i278 + 1), w64 (i279 + 1), z411.1.fRing, z411.1.fHints, z411.1.fAnchors, z411.1.fEpoch, z411.1.fFlushes))
                else
                  if x418 ≠ x391 then
                    if (z411.1.fFlushes.length : Int) = 1 then
                      if x418 = w64 (i278 + 1) then
                        if x420 ≠ x393 then
                          if x420 = w64 (i278 + 1) then
                            some (.inl (w64 (i278 + 1), w64 (i279 + 1), z411.1.fRing, z411.1.fHints, z411.1.fAnchors, z411.1.fEpoch, z411.1.fFlushes))
                          else
                            some (.inr (.inr false))
                        else
                          some (.inl (w64 (i278 + 1), w64 (i279 + 1), z411.1.fRing, z411.1.fHints, z411.1.fAnchors, z411.1.fEpoch, z411.1.fFlushes))
                      else
                        some (.inr (.inr false))
                    else
                      some (.inr (.inr false))
                  else
                    if x420 ≠ x393 then
                      if (z411.1.fFlushes.length : Int) = 1 then
                        if x420 = w64 (i278 + 1) then
                          some (.inl (w64 (i278 + 1), w64 (i279 + 1), z411.1.fRing, z411.1.fHints, z411.1.fAnchors, z411.1.fEpoch, z411.1.fFlushes))
                        else
                          some (.inr (.inr false))
                      else
                        some (.inr (.inr false))
                    else
                      some (.inl (w64 (i278 + 1), w64 (i279 + 1), z411.1.fRing, z411.1.fHints, z411.1.fAnchors, z411.1.fEpoch, z411.1.fFlushes))
    else
      some (.inr (.inl ()))
  else
    some (.inr (.inl ()))
noncomputable def m_law13_ConfFlushes (p0 : List ByteArray) (p1 : ByteArray) (p2 : ByteArray) : Option Bool :=
  (m_law13_awake).bind fun x1 =>
  (m_law13_short p1 300).bind fun x3 =>
  (m_law13_short p2 300).bind fun x5 =>
  (loop (fun s => m_law13_ConfFlushes_s2 p0 x3 x5 s.1 s.2.1 s.2.2.1 s.2.2.2.1 s.2.2.2.2.1 s.2.2.2.2.2.1 s.2.2.2.2.2.2) (0, 0, ([] : List Int), ([] : List ByteArray), ([] : List GAnchor), 0, ([] : List GFlush))).bind fun e => Sum.elim (fun e => m_law13_ConfFlushes_j1 x1) (fun x => some x) e
theorem c_law13_ConfFlushes {w0 : World} {M : Nat → Prop} {H : List (Nat × Nat × Obj)} {R : List (Nat × Row)} {φ : World → Prop} (p0 : List ByteArray) (Ap0_0 : Option Addr) (cp0_0 : Nat) (hcp0_0 : p0.length ≤ cp0_0) (fp0_0 : ∀ W, (Sta.mk w0 M H R φ).ok W → Cl W Ap0_0 (p0.flatMap (fun x : ByteArray => [Value.string x]))) (p1 : ByteArray) (p2 : ByteArray) (r : Bool) (hm : m_law13_ConfFlushes p0 p1 p2 = some r) :
    Cn Try.prog 3 #[.slice Ap0_0 p0.length cp0_0, .string p1, .string p2] ⟨w0, M, H, R, φ⟩ (fun x : Unit => .bool r) (fun x => True) (fun x => ⟨w0, M, H, R, φ⟩) := by
 unfold m_law13_ConfFlushes at hm
 refine cn_intro (fn := Try.f3) (N := 145) Try.func3 rfl Try.ntmps3 rfl <| c_seq <| c_region <| g_v rfl r_assign <| g_nil <| d_then <| c_seq <| c_region ?_
 replace hm := bnd hm
 obtain ⟨x1, hx2, hm⟩ := hm
 refine g_cn ⟨w0, M, _, _, φ⟩ (fun _ h => h) Try.call7 rfl rfl (c_law13_awake  _ hx2) (fun _ _ => ?_)
 refine g_v rfl r_assign <| g_nil <| d_then <| c_seq <| c_region <| g_v rfl r_move ?_
 replace hm := bnd hm
 obtain ⟨x3, hx4, hm⟩ := hm
 refine g_cn ⟨w0, M, _, _, φ⟩ (fun _ h => h) Try.call8 rfl rfl (c_law13_short p1 300 _ hx4) (fun _ _ => ?_)
 refine g_v rfl r_assign <| g_nil <| d_then <| c_seq <| c_region <| g_v rfl r_move ?_
 replace hm := bnd hm
 obtain ⟨x5, hx6, hm⟩ := hm
 refine g_cn ⟨w0, M, _, _, φ⟩ (fun _ h => h) Try.call8 rfl rfl (c_law13_short p2 300 _ hx6) (fun _ _ => ?_)
 refine g_v rfl r_assign <| g_nil <| d_then ?_
 refine c_flat [(0, .slice Ap0_0 p0.length cp0_0), (1, .string x3), (2, .string x5), (7, .bool x1)] ⟨rfl, rfl, rfl, rfl, trivial⟩ (fun u => ?_)
 refine c_sta ⟨w0, M, H, R, φ⟩ (fun _ h => h) <| c_seq <| c_region ?_
 refine g_e rfl (e_alloc 100080 Try.zeroValue29) (fun g7 _ => ?_)
 refine g_nil <| d_then <| c_seq <| c_region <| g_v rfl r_assign <| g_nil <| d_then <| c_seq ?_
 refine c_cut (ι := Unit) [7] (fun _ => []) (fun _ => ⟨w0, M, H, R, φ⟩) (fun _ => m_law13_ConfFlushes_j1 x1 = some r) ?_ (fun _ u hm => ?_)
 ·
  refine c_seq <| c_region <| g_v rfl r_assign <| g_nil <| d_then <| c_block ?_
  replace hm := bnd hm
  obtain ⟨out2, hl2, hr2⟩ := hm
  obtain ⟨n381', hl2⟩ := loop_lp hl2
  refine c_loopU (ι := Nat × Int × Int × (List Int) × (List ByteArray) × (List GAnchor) × Int × (List GFlush) × Option Addr × Nat × Option Addr × Nat × Option Addr × Nat × Option Addr × Nat) [0, 1, 2, 7, 8, 9, 10] (fun ⟨n381, i278, i279, l280, l284, l288, i292, l293, A281, c282, A285, c286, A289, c290, A294, c295⟩ => [(9, .int .i64 i278), (10, .int .i64 i279)]) (fun ⟨n381, i278, i279, l280, l284, l288, i292, l293, A281, c282, A285, c286, A289, c290, A294, c295⟩ => ⟨w0, M, (100080, g7, .cells #[.slice A281 l280.length c282, .slice A285 l284.length c286, .slice A289 l288.length c290, .int .i64 i292, .slice A294 l293.length c295] 29 (0, 0)) :: H, R, fun W => φ W ∧ Cl W A281 (l280.flatMap (fun x : Int => [Value.int .i64 x])) ∧ Cl W A285 (l284.flatMap (fun x : ByteArray => [Value.string x])) ∧ Cl W A289 (l288.flatMap GAnchor.enc) ∧ Cl W A294 (l293.flatMap GFlush.enc)⟩) (fun ⟨n381, i278, i279, l280, l284, l288, i292, l293, A281, c282, A285, c286, A289, c290, A294, c295⟩ => Lp (fun s => m_law13_ConfFlushes_s2 p0 x3 x5 s.1 s.2.1 s.2.2.1 s.2.2.2.1 s.2.2.2.2.1 s.2.2.2.2.2.1 s.2.2.2.2.2.2) n381 (i278, i279, l280, l284, l288, i292, l293) out2 ∧ l280.length ≤ c282 ∧ l284.length ≤ c286 ∧ l288.length ≤ c290 ∧ l293.length ≤ c295) (fun ⟨n381, i278, i279, l280, l284, l288, i292, l293, A281, c282, A285, c286, A289, c290, A294, c295⟩ => n381) (n381', 0, 0, ([] : List Int), ([] : List ByteArray), ([] : List GAnchor), 0, ([] : List GFlush), none, 0, none, 0, none, 0, none, 0) ⟨hl2, (Nat.le_refl 0), (Nat.le_refl 0), (Nat.le_refl 0), (Nat.le_refl 0)⟩ ⟨rfl, rfl, rfl, rfl, rfl, rfl, rfl, trivial⟩ (fun W h => h.phi (fun W hφ => ⟨hφ, (fun W _ => Cl.nil _ _) W hφ, (fun W _ => Cl.nil _ _) W hφ, (fun W _ => Cl.nil _ _) W hφ, (fun W _ => Cl.nil _ _) W hφ⟩)) (fun ⟨n381, i278, i279, l280, l284, l288, i292, l293, A281, c282, A285, c286, A289, c290, A294, c295⟩ u ⟨hlp, hc282, hc286, hc290, hc295⟩ => ?_)
  obtain ⟨o2, hm, hnx2⟩ := lp_step hlp
  clear hlp
  replace hm : m_law13_ConfFlushes_s2 p0 x3 x5 i278 i279 l280 l284 l288 i292 l293 = some o2 := hm
  unfold m_law13_ConfFlushes_s2 at hm
  refine c_abs (fun φ382 q382' => ?_)
  have q382 : ∀ W, φ382 W → φ W := fun W h => (q382' W h).1
  have f283 := fun (W : World) (h : φ382 W) => (q382' W h).2.1
  have f287 := fun (W : World) (h : φ382 W) => (q382' W h).2.2.1
  have f291 := fun (W : World) (h : φ382 W) => (q382' W h).2.2.2.1
  have f296 := fun (W : World) (h : φ382 W) => (q382' W h).2.2.2.2
  refine c_flat [(0, .slice Ap0_0 p0.length cp0_0), (1, .string x3), (2, .string x5), (7, .bool x1), (8, .pointer (some ⟨g7, 0, none⟩)), (9, .int .i64 i278), (10, .int .i64 i279)] ⟨rfl, rfl, rfl, rfl, rfl, rfl, rfl, trivial⟩ (fun u => ?_)
  refine c_sta ⟨w0, M, (100080, g7, .cells #[.slice A281 l280.length c282, .slice A285 l284.length c286, .slice A289 l288.length c290, .int .i64 i292, .slice A294 l293.length c295] 29 (0, 0)) :: H, R, φ382⟩ (fun _ h => h) <| c_seq <| c_seq <| c_region <| g_v rfl r_move <| g_v rfl r_move <| g_v rfl (r_lenL Try.underlying22 rfl) <| g_v rfl (r_lss rfl rfl) <| g_v rfl r_move ?_
  refine g_if rfl rfl rfl rfl rfl (fun h383 => ?_) (fun h383 => ?_)
  ·
   replace hm := ite_t hm (of_decide_eq_true h383)
   refine g_v rfl r_move <| g_do rfl rfl rfl rfl rfl h383 <| g_v rfl (r_lss rfl rfl) <| g_v rfl (r_pick1 rfl h383) <| g_nil <| d_then ?_
   refine c_cond rfl (fun h384 => ?_) (fun h384 => ?_)
   ·
    replace hm := ite_t hm (of_decide_eq_true h384)
    refine c_skip <| d_then <| c_seq <| c_block <| c_seq <| c_region <| g_v rfl r_move <| g_v rfl r_move ?_
    replace hm := bnd hm
    obtain ⟨x385, hx385, hm⟩ := hm
    refine g_know _ (fun W hS => cl_at (p := (Sta.mk w0 M H R φ).ok) (sz := 1) (fun _ => rfl) (by decide) (ok_pre (H1 := [_]) (R1 := []) hS (fun W h => (q382 _ h))) fp0_0 hx385) ?_
    rintro ⟨ad386, hA388, f387⟩
    refine g_v rfl (r_ix Try.underlying22 Try.sizeOf9 rfl hA388 rfl hx385) <| g_v rfl (r_ld rfl Try.isAgg9 (fun W hS => Cl.head (f387 W (ok_pre (H1 := [_]) (R1 := []) hS (fun W h => (q382 _ h)))))) ?_
    replace hm := bnd hm
    obtain ⟨x389, hx390, hm⟩ := hm
    refine g_cn ⟨w0, M, _, _, φ382⟩ (fun _ h => h) Try.call8 rfl rfl (c_law13_short x385 60 _ hx390) (fun _ _ => ?_)
    refine g_v rfl r_assign <| g_nil <| d_then ?_
    refine c_flat [(0, .slice Ap0_0 p0.length cp0_0), (1, .string x3), (2, .string x5), (7, .bool x1), (8, .pointer (some ⟨g7, 0, none⟩)), (9, .int .i64 i278), (10, .int .i64 i279), (11, .string x389)] ⟨rfl, rfl, rfl, rfl, rfl, rfl, rfl, rfl, trivial⟩ (fun u => ?_)
    refine c_seq <| c_region <| g_v rfl (r_loadA (tag := 100080) rfl rfl Try.isAgg29 Try.sizeOf29 rfl rfl) <| g_v rfl r_move ?_
    replace hm := bnd hm
    obtain ⟨x391, hx392, hm⟩ := hm
    refine g_cn ⟨w0, M, _, _, φ382⟩ (fun _ h => h) Try.call9 rfl rfl (c_conf_Floor (⟨l280, l284, l288, i292, l293⟩ : GConf) A281 c282 hc282 (fun W hS => f283 W hS.now) A285 c286 hc286 (fun W hS => f287 W hS.now) A289 c290 hc290 (fun W hS => f291 W hS.now) A294 c295 hc295 (fun W hS => f296 W hS.now) x3 _ hx392) (fun _ _ => ?_)
    refine g_v rfl r_assign <| g_nil <| d_then <| c_seq <| c_region <| g_v rfl (r_loadA (tag := 100080) rfl rfl Try.isAgg29 Try.sizeOf29 rfl rfl) <| g_v rfl r_move ?_
    replace hm := bnd hm
    obtain ⟨x393, hx394, hm⟩ := hm
    refine g_cn ⟨w0, M, _, _, φ382⟩ (fun _ h => h) Try.call9 rfl rfl (c_conf_Floor (⟨l280, l284, l288, i292, l293⟩ : GConf) A281 c282 hc282 (fun W hS => f283 W hS.now) A285 c286 hc286 (fun W hS => f287 W hS.now) A289 c290 hc290 (fun W hS => f291 W hS.now) A294 c295 hc295 (fun W hS => f296 W hS.now) x5 _ hx394) (fun _ _ => ?_)
    refine g_v rfl r_assign <| g_nil <| d_then <| c_seq <| c_region <| g_v rfl (r_loadA (tag := 100080) rfl rfl Try.isAgg29 Try.sizeOf29 rfl rfl) <| g_v rfl r_move <| g_v rfl (r_build _ rfl (bld35_5 _ _)) ?_
    replace hm := bnd hm
    obtain ⟨⟨x395, x396⟩, hx397, hm⟩ := hm
    refine g_cn ⟨w0, M, _, _, φ382⟩ (fun _ h => h) Try.call10 rfl rfl (c_conf_Apply_k5 (⟨l280, l284, l288, i292, l293⟩ : GConf) A281 c282 hc282 (fun W h => f283 W h) A285 c286 hc286 (fun W h => f287 W h) A289 c290 hc290 (fun W h => f291 W h) A294 c295 hc295 (fun W h => f296 W h) 0 (⟨#[]⟩ : ByteArray) (⟨#[]⟩ : ByteArray) x389 ([] : List ByteArray) none 0 (Nat.le_refl 0) (fun W _ => Cl.nil _ _) _ hx397) (fun ⟨A398, c399, A401, c402, A404, c405, A407, c408⟩ ⟨hc399, hc402, hc405, hc408⟩ => ?_)
    refine g_abs (fun φ410 q410' => ?_)
    have q410 : ∀ W, φ410 W → φ382 W := fun W h => (q410' W h).1
    have f400 := fun (W : World) (h : φ410 W) => (q410' W h).2.1
    have f403 := fun (W : World) (h : φ410 W) => (q410' W h).2.2.1
    have f406 := fun (W : World) (h : φ410 W) => (q410' W h).2.2.2.1
    have f409 := fun (W : World) (h : φ410 W) => (q410' W h).2.2.2.2
    refine g_v rfl r_move <| g_v rfl (r_extract rfl rfl) <| g_v rfl (r_extract rfl rfl) ?_
    refine g_e rfl (e_alloc 100140 Try.zeroValue29) (fun g412 _ => ?_)
    refine g_storeL (tag := 100140) rfl rfl rfl rfl Try.sizeOf29 rfl rfl <| g_v rfl r_assign <| g_nil <| d_then ?_
    refine c_flat [(0, .slice Ap0_0 p0.length cp0_0), (1, .string x3), (2, .string x5), (7, .bool x1), (8, .pointer (some ⟨g7, 0, none⟩)), (9, .int .i64 i278), (10, .int .i64 i279), (11, .string x389), (12, .int .i64 x391), (13, .int .i64 x393), (14, .pointer (some ⟨g412, 0, none⟩)), (15, .int .i64 x396)] ⟨rfl, rfl, rfl, rfl, rfl, rfl, rfl, rfl, rfl, rfl, rfl, rfl, trivial⟩ (fun u => ?_)
    refine c_sta ⟨w0, M, (100140, g412, .cells #[.slice A398 x395.fRing.length c399, .slice A401 x395.fHints.length c402, .slice A404 x395.fAnchors.length c405, .int .i64 x395.fEpoch, .slice A407 x395.fFlushes.length c408] 29 (0, 0)) :: (100080, g7, .cells #[.slice A281 l280.length c282, .slice A285 l284.length c286, .slice A289 l288.length c290, .int .i64 i292, .slice A294 l293.length c295] 29 (0, 0)) :: H, R, φ410⟩ (fun _ h => h) <| c_seq <| c_seq <| c_region <| g_v rfl r_move ?_
    replace hm := bnd hm
    obtain ⟨x413, hx414, hm⟩ := hm
    refine g_cn ⟨w0, M, _, _, φ410⟩ (fun _ h => h) Try.call11 rfl rfl (c_ref03_Check x389 _ hx414) (fun _ _ => ?_)
    refine g_v rfl (r_neq rfl rfl) <| g_nil <| d_then ?_
    refine c_cond rfl (fun h415 => ?_) (fun h415 => ?_)
    ·
     replace hm := ite_t hm (of_decide_eq_true h415)
     refine c_seq <| c_seq <| c_region <| g_v rfl r_move <| g_v rfl (r_neq rfl rfl) <| g_nil <| d_then ?_
     refine c_cond rfl (fun h416 => ?_) (fun h416 => ?_)
     ·
      replace hm := ite_t hm (of_decide_eq_true h416)
      refine c_seq <| c_region <| g_v rfl r_assign <| g_nil <| d_then <| c_ret <| d_ret_then <| d_ret_then <| d_ret_block <| d_ret_then ?_
      refine d_ret_then <| d_ret_block <| d_ret_then <| d_ret_then ?_
      replace hm := nx_out (C := (fun e : Unit ⊕ Bool => Sum.elim (fun e => m_law13_ConfFlushes_j1 x1) (fun x => some x) e = some r)) hm hnx2 hr2
      replace hm : some false = some r := hm
      replace hm := Option.some.inj hm
      subst hm
      refine d_retC () Try.results3 ?_ trivial (fun W h => ok_pre (H1 := [_, _]) (R1 := []) h (fun W hφ => (q382 _ (q410 _ hφ)))) (.inr rfl)
      refine res_tmp <| res_nil ?_
      exact rfl
     ·
      replace hm := ite_f hm (of_decide_eq_false h416)
      refine c_skip <| d_then <| c_exit <| d_exit_then <| d_exit_block <| d_then <| c_region <| g_v rfl r_move <| g_v rfl (r_add rfl rfl rfl) <| g_v rfl r_assign ?_
      refine g_nil ?_
      obtain ⟨n417, hn417, hlp⟩ := nx_inl hm hnx2
      exact d_round (n417, i278, w64 (i279 + 1), l280, l284, l288, i292, l293, A281, c282, A285, c286, A289, c290, A294, c295) ⟨hlp, hc282, hc286, hc290, hc295⟩ hn417 ⟨rfl, rfl, rfl, rfl, rfl, rfl, rfl, trivial⟩ (fun W h => (h.dropH (t := 100140) rfl).phi (fun W hφ => ⟨(q382 _ (q410 _ hφ)), (fun W h => f283 W (q410 _ h)) W hφ, (fun W h => f287 W (q410 _ h)) W hφ, (fun W h => f291 W (q410 _ h)) W hφ, (fun W h => f296 W (q410 _ h)) W hφ⟩))
    ·
     replace hm := ite_f hm (of_decide_eq_false h415)
     refine c_skip <| d_then <| c_seq <| c_region <| g_v rfl r_move <| g_v rfl (r_add rfl rfl rfl) <| g_v rfl r_assign <| g_nil <| d_then <| c_seq ?_
     refine c_region <| g_v rfl (r_field (n := 4) Try.underlying29 rfl Try.sizeOf27 rfl rfl) <| g_v rfl (r_load (tag := 100140) rfl rfl rfl Try.isAgg27) <| g_v rfl (r_lenL Try.underlying27 rfl) <| g_v rfl (r_eql rfl rfl) <| g_v rfl r_assign <| g_nil <| d_then ?_
     refine c_flat [(0, .slice Ap0_0 p0.length cp0_0), (1, .string x3), (2, .string x5), (7, .bool x1), (8, .pointer (some ⟨g7, 0, none⟩)), (9, .int .i64 (w64 (i278 + 1))), (10, .int .i64 i279), (11, .string x389), (12, .int .i64 x391), (13, .int .i64 x393), (14, .pointer (some ⟨g412, 0, none⟩)), (15, .int .i64 x396), (16, .bool (decide ((x395.fFlushes.length : Int) = 1)))] ⟨rfl, rfl, rfl, rfl, rfl, rfl, rfl, rfl, rfl, rfl, rfl, rfl, rfl, trivial⟩ (fun u => ?_)
     refine c_seq <| c_region <| g_v rfl (r_loadA (tag := 100140) rfl rfl Try.isAgg29 Try.sizeOf29 rfl rfl) <| g_v rfl r_move ?_
     replace hm := bnd hm
     obtain ⟨x418, hx419, hm⟩ := hm
     refine g_cn ⟨w0, M, _, _, φ410⟩ (fun _ h => h) Try.call9 rfl rfl (c_conf_Floor x395 A398 c399 hc399 (fun W hS => f400 W hS.now) A401 c402 hc402 (fun W hS => f403 W hS.now) A404 c405 hc405 (fun W hS => f406 W hS.now) A407 c408 hc408 (fun W hS => f409 W hS.now) x3 _ hx419) (fun _ _ => ?_)
     refine g_v rfl r_assign <| g_nil <| d_then <| c_seq <| c_region <| g_v rfl (r_loadA (tag := 100140) rfl rfl Try.isAgg29 Try.sizeOf29 rfl rfl) <| g_v rfl r_move ?_
     replace hm := bnd hm
     obtain ⟨x420, hx421, hm⟩ := hm
     refine g_cn ⟨w0, M, _, _, φ410⟩ (fun _ h => h) Try.call9 rfl rfl (c_conf_Floor x395 A398 c399 hc399 (fun W hS => f400 W hS.now) A401 c402 hc402 (fun W hS => f403 W hS.now) A404 c405 hc405 (fun W hS => f406 W hS.now) A407 c408 hc408 (fun W hS => f409 W hS.now) x5 _ hx421) (fun _ _ => ?_)
     refine g_v rfl r_assign <| g_nil <| d_then <| c_seq <| c_region <| g_v rfl r_move <| g_v rfl r_move ?_
     replace hm := bnd hm
     obtain ⟨x422, hx423, hm⟩ := hm
     refine g_cn ⟨w0, M, _, _, φ410⟩ (fun _ h => h) Try.call12 rfl rfl (c_ref03_Under x3 x389 _ hx423) (fun _ _ => ?_)
     refine g_v rfl r_assign <| g_nil <| d_then ?_
     refine c_flat [(0, .slice Ap0_0 p0.length cp0_0), (1, .string x3), (2, .string x5), (7, .bool x1), (8, .pointer (some ⟨g7, 0, none⟩)), (9, .int .i64 (w64 (i278 + 1))), (10, .int .i64 i279), (11, .string x389), (12, .int .i64 x391), (13, .int .i64 x393), (14, .pointer (some ⟨g412, 0, none⟩)), (15, .int .i64 x396), (16, .bool (decide ((x395.fFlushes.length : Int) = 1))), (17, .int .i64 x418), (18, .int .i64 x420), (19, .bool x422)] ⟨rfl, rfl, rfl, rfl, rfl, rfl, rfl, rfl, rfl, rfl, rfl, rfl, rfl, rfl, rfl, rfl, trivial⟩ (fun u => ?_)
     refine c_seq <| c_region <| g_v rfl r_move <| g_v rfl r_move ?_
     replace hm := bnd hm
     obtain ⟨x424, hx425, hm⟩ := hm
     refine g_cn ⟨w0, M, _, _, φ410⟩ (fun _ h => h) Try.call12 rfl rfl (c_ref03_Under x5 x389 _ hx425) (fun _ _ => ?_)
     refine g_v rfl r_assign <| g_nil <| d_then <| c_seq <| c_seq <| c_region <| g_v rfl r_move <| g_v rfl (r_neq rfl rfl) <| g_v rfl r_move ?_
     refine g_if rfl rfl rfl rfl rfl (fun h426 => ?_) (fun h426 => ?_)
     ·
      replace hm := ite_f hm (of_decide_eq_false h426)
      refine g_v rfl (r_field (n := 3) Try.underlying29 rfl Try.sizeOf3 rfl rfl) <| g_do rfl rfl rfl rfl rfl h426 <| g_v rfl (r_load (tag := 100140) rfl rfl rfl Try.isAgg3) <| g_do rfl rfl rfl rfl rfl h426 <| g_v rfl r_move <| g_do rfl rfl rfl rfl rfl h426 <| g_v rfl (r_neq rfl rfl) <| g_v rfl (r_pick0 rfl h426) <| g_v rfl r_move ?_
      refine g_if rfl rfl rfl rfl rfl (fun h427 => ?_) (fun h427 => ?_)
      ·
       replace hm := ite_f hm (of_decide_eq_false h427)
       refine g_v rfl (r_field (n := 4) Try.underlying29 rfl Try.sizeOf27 rfl rfl) <| g_do rfl rfl rfl rfl rfl h427 <| g_v rfl (r_load (tag := 100140) rfl rfl rfl Try.isAgg27) <| g_do rfl rfl rfl rfl rfl h427 <| g_v rfl (r_lenL Try.underlying27 rfl) <| g_do rfl rfl rfl rfl rfl h427 <| g_v rfl (r_gtr rfl rfl) <| g_v rfl (r_pick0 rfl h427) <| g_v rfl r_move ?_
       refine g_if rfl rfl rfl rfl rfl (fun h428 => ?_) (fun h428 => ?_)
       ·
        replace hm := ite_f hm (of_decide_eq_false h428)
        refine g_v rfl r_move <| g_do rfl rfl rfl rfl rfl h428 <| g_v rfl r_move ?_
        refine g_if rfl rfl rfl rfl rfl (fun h429 => ?_) (fun h429 => ?_)
        ·
         replace hm := ite_t hm h429
         refine g_v rfl r_move <| g_do rfl rfl rfl rfl rfl h429 <| g_v rfl r_move <| g_do rfl rfl rfl rfl rfl h429 <| g_v rfl (r_neq rfl rfl) <| g_do rfl rfl rfl rfl rfl h428 <| g_v rfl (r_pick1 rfl h429) <| g_v rfl (r_pick0 rfl h428) <| g_v rfl r_move ?_
         refine g_if rfl rfl rfl rfl rfl (fun h430 => ?_) (fun h430 => ?_)
         ·
          replace hm := ite_f hm (of_decide_eq_false h430)
          refine g_v rfl r_move <| g_do rfl rfl rfl rfl rfl h430 <| g_v rfl r_move ?_
          refine g_if rfl rfl rfl rfl rfl (fun h431 => ?_) (fun h431 => ?_)
          ·
           replace hm := ite_t hm h431
           refine g_v rfl r_move <| g_do rfl rfl rfl rfl rfl h431 <| g_v rfl r_move <| g_do rfl rfl rfl rfl rfl h431 <| g_v rfl (r_neq rfl rfl) <| g_do rfl rfl rfl rfl rfl h430 <| g_v rfl (r_pick1 rfl h431) <| g_v rfl (r_pick0 rfl h430) <| g_v rfl r_move ?_
           refine g_if rfl rfl rfl rfl rfl (fun h432 => ?_) (fun h432 => ?_)
           ·
            replace hm := ite_f hm (of_decide_eq_false h432)
            refine g_v rfl r_move <| g_do rfl rfl rfl rfl rfl h432 <| g_v rfl (r_not rfl) <| g_do rfl rfl rfl rfl rfl h432 <| g_v rfl r_move <| g_no rfl rfl rfl rfl rfl (congrArg (!·) h429) <| g_no rfl rfl rfl rfl rfl (congrArg (!·) h429) <| g_no rfl rfl rfl rfl rfl (congrArg (!·) h429) <| g_do rfl rfl rfl rfl rfl h432 <| g_v rfl (r_pick0 rfl (congrArg (!·) h429)) ?_
            refine g_do rfl rfl rfl rfl rfl h432 <| g_v rfl r_move <| g_no rfl rfl rfl rfl rfl rfl <| g_no rfl rfl rfl rfl rfl rfl <| g_nu rfl rfl rfl rfl rfl <| g_nu rfl rfl rfl rfl rfl <| g_nu rfl rfl rfl rfl rfl <| g_no rfl rfl rfl rfl rfl rfl <| g_no rfl rfl rfl rfl rfl rfl <| g_do rfl rfl rfl rfl rfl h432 ?_
            refine g_v rfl (r_pick0 rfl rfl) <| g_v rfl (r_pick0 rfl h432) <| g_v rfl r_move <| g_do rfl rfl rfl rfl rfl rfl <| g_v rfl r_move <| g_do rfl rfl rfl rfl rfl rfl <| g_v rfl (r_not rfl) <| g_do rfl rfl rfl rfl rfl rfl <| g_v rfl r_move <| g_no rfl rfl rfl rfl rfl (congrArg (!·) h431) ?_
            refine g_no rfl rfl rfl rfl rfl (congrArg (!·) h431) <| g_no rfl rfl rfl rfl rfl (congrArg (!·) h431) <| g_do rfl rfl rfl rfl rfl rfl <| g_v rfl (r_pick0 rfl (congrArg (!·) h431)) <| g_do rfl rfl rfl rfl rfl rfl <| g_v rfl r_move <| g_no rfl rfl rfl rfl rfl rfl <| g_no rfl rfl rfl rfl rfl rfl <| g_nu rfl rfl rfl rfl rfl <| g_nu rfl rfl rfl rfl rfl ?_
            refine g_nu rfl rfl rfl rfl rfl <| g_no rfl rfl rfl rfl rfl rfl <| g_no rfl rfl rfl rfl rfl rfl <| g_do rfl rfl rfl rfl rfl rfl <| g_v rfl (r_pick0 rfl rfl) <| g_v rfl (r_pick0 rfl rfl) <| g_nil <| d_then ?_
            refine c_flat [(0, .slice Ap0_0 p0.length cp0_0), (1, .string x3), (2, .string x5), (7, .bool x1), (8, .pointer (some ⟨g7, 0, none⟩)), (9, .int .i64 (w64 (i278 + 1))), (10, .int .i64 i279), (14, .pointer (some ⟨g412, 0, none⟩)), (142, .bool false)] ⟨rfl, rfl, rfl, rfl, rfl, rfl, rfl, rfl, rfl, trivial⟩ (fun u => ?_)
            refine c_cond0 rfl rfl <| c_skip <| d_then <| c_region <| g_v rfl (r_loadA (tag := 100140) rfl rfl Try.isAgg29 Try.sizeOf29 rfl rfl) <| g_storeL (tag := 100080) rfl rfl rfl rfl Try.sizeOf29 rfl rfl <| g_nil <| d_normal_block <| d_then <| c_region ?_
            refine g_v rfl r_move <| g_v rfl (r_add rfl rfl rfl) <| g_v rfl r_assign <| g_nil ?_
            obtain ⟨n433, hn433, hlp⟩ := nx_inl hm hnx2
            exact d_round (n433, w64 (i278 + 1), w64 (i279 + 1), x395.fRing, x395.fHints, x395.fAnchors, x395.fEpoch, x395.fFlushes, A398, c399, A401, c402, A404, c405, A407, c408) ⟨hlp, hc399, hc402, hc405, hc408⟩ hn433 ⟨rfl, rfl, rfl, rfl, rfl, rfl, rfl, trivial⟩ (fun W h => (h.dropH (t := 100140) rfl).phi (fun W hφ => ⟨(q382 _ (q410 _ hφ)), (fun W h => f400 W h) W hφ, (fun W h => f403 W h) W hφ, (fun W h => f406 W h) W hφ, (fun W h => f409 W h) W hφ⟩))
           ·
            replace hm := ite_t hm (of_decide_eq_true h432)
            refine g_no rfl rfl rfl rfl rfl h432 <| g_no rfl rfl rfl rfl rfl h432 <| g_nu rfl rfl rfl rfl rfl <| g_nu rfl rfl rfl rfl rfl <| g_nu rfl rfl rfl rfl rfl <| g_no rfl rfl rfl rfl rfl h432 <| g_no rfl rfl rfl rfl rfl h432 <| g_nu rfl rfl rfl rfl rfl <| g_nu rfl rfl rfl rfl rfl <| g_nu rfl rfl rfl rfl rfl ?_
            refine g_nu rfl rfl rfl rfl rfl <| g_nu rfl rfl rfl rfl rfl <| g_nu rfl rfl rfl rfl rfl <| g_nu rfl rfl rfl rfl rfl <| g_no rfl rfl rfl rfl rfl h432 <| g_v rfl (r_pick1 rfl h432) <| g_v rfl r_move <| g_no rfl rfl rfl rfl rfl rfl <| g_no rfl rfl rfl rfl rfl rfl <| g_no rfl rfl rfl rfl rfl rfl ?_
            refine g_nu rfl rfl rfl rfl rfl <| g_nu rfl rfl rfl rfl rfl <| g_nu rfl rfl rfl rfl rfl <| g_no rfl rfl rfl rfl rfl rfl <| g_no rfl rfl rfl rfl rfl rfl <| g_nu rfl rfl rfl rfl rfl <| g_nu rfl rfl rfl rfl rfl <| g_nu rfl rfl rfl rfl rfl <| g_nu rfl rfl rfl rfl rfl <| g_nu rfl rfl rfl rfl rfl ?_
            refine g_nu rfl rfl rfl rfl rfl <| g_nu rfl rfl rfl rfl rfl <| g_no rfl rfl rfl rfl rfl rfl <| g_v rfl (r_pick1 rfl rfl) <| g_nil <| d_then ?_
            refine c_flat [(0, .slice Ap0_0 p0.length cp0_0), (1, .string x3), (2, .string x5), (7, .bool x1), (8, .pointer (some ⟨g7, 0, none⟩)), (9, .int .i64 (w64 (i278 + 1))), (10, .int .i64 i279), (14, .pointer (some ⟨g412, 0, none⟩)), (142, .bool true)] ⟨rfl, rfl, rfl, rfl, rfl, rfl, rfl, rfl, rfl, trivial⟩ (fun u => ?_)
            refine c_cond1 rfl rfl <| c_seq <| c_region <| g_v rfl r_assign <| g_nil <| d_then <| c_ret <| d_ret_then <| d_ret_block <| d_ret_then ?_
            refine d_ret_then <| d_ret_block <| d_ret_then <| d_ret_then ?_
            replace hm := nx_out (C := (fun e : Unit ⊕ Bool => Sum.elim (fun e => m_law13_ConfFlushes_j1 x1) (fun x => some x) e = some r)) hm hnx2 hr2
            replace hm : some false = some r := hm
            replace hm := Option.some.inj hm
            subst hm
            refine d_retC () Try.results3 ?_ trivial (fun W h => ok_pre (H1 := [_, _]) (R1 := []) h (fun W hφ => (q382 _ (q410 _ hφ)))) (.inr rfl)
            refine res_tmp <| res_nil ?_
            exact rfl
          ·
           replace hm := ite_f hm (bool_nt h431)
           refine g_no rfl rfl rfl rfl rfl h431 <| g_no rfl rfl rfl rfl rfl h431 <| g_do rfl rfl rfl rfl rfl h430 <| g_v rfl (r_pick0 rfl h431) <| g_v rfl (r_pick0 rfl h430) <| g_v rfl r_move <| g_do rfl rfl rfl rfl rfl rfl <| g_v rfl r_move <| g_do rfl rfl rfl rfl rfl rfl <| g_v rfl (r_not rfl) ?_
           refine g_do rfl rfl rfl rfl rfl rfl <| g_v rfl r_move <| g_no rfl rfl rfl rfl rfl (congrArg (!·) h429) <| g_no rfl rfl rfl rfl rfl (congrArg (!·) h429) <| g_no rfl rfl rfl rfl rfl (congrArg (!·) h429) <| g_do rfl rfl rfl rfl rfl rfl <| g_v rfl (r_pick0 rfl (congrArg (!·) h429)) <| g_do rfl rfl rfl rfl rfl rfl <| g_v rfl r_move <| g_no rfl rfl rfl rfl rfl rfl ?_
           refine g_no rfl rfl rfl rfl rfl rfl <| g_nu rfl rfl rfl rfl rfl <| g_nu rfl rfl rfl rfl rfl <| g_nu rfl rfl rfl rfl rfl <| g_no rfl rfl rfl rfl rfl rfl <| g_no rfl rfl rfl rfl rfl rfl <| g_do rfl rfl rfl rfl rfl rfl <| g_v rfl (r_pick0 rfl rfl) <| g_v rfl (r_pick0 rfl rfl) <| g_v rfl r_move ?_
           refine g_do rfl rfl rfl rfl rfl rfl <| g_v rfl r_move <| g_do rfl rfl rfl rfl rfl rfl <| g_v rfl (r_not rfl) <| g_do rfl rfl rfl rfl rfl rfl <| g_v rfl r_move <| g_do rfl rfl rfl rfl rfl (congrArg (!·) h431) <| g_v rfl r_move <| g_do rfl rfl rfl rfl rfl (congrArg (!·) h431) <| g_v rfl r_move ?_
           refine g_do rfl rfl rfl rfl rfl (congrArg (!·) h431) <| g_v rfl (r_neq rfl rfl) <| g_do rfl rfl rfl rfl rfl rfl <| g_v rfl (r_pick1 rfl (congrArg (!·) h431)) <| g_do rfl rfl rfl rfl rfl rfl <| g_v rfl r_move ?_
           refine g_if rfl rfl rfl rfl rfl (fun h434 => ?_) (fun h434 => ?_)
           ·
            replace hm := ite_t hm (of_decide_eq_true h434)
            refine g_v rfl r_move <| g_do rfl rfl rfl rfl rfl h434 <| g_v rfl r_move ?_
            refine g_if rfl rfl rfl rfl rfl (fun h435 => ?_) (fun h435 => ?_)
            ·
             replace hm := ite_t hm (of_decide_eq_true h435)
             refine g_v rfl r_move <| g_do rfl rfl rfl rfl rfl h435 <| g_v rfl r_move <| g_do rfl rfl rfl rfl rfl h435 <| g_v rfl (r_eql rfl rfl) <| g_do rfl rfl rfl rfl rfl h434 <| g_v rfl (r_pick1 rfl h435) <| g_do rfl rfl rfl rfl rfl h434 <| g_v rfl (r_not rfl) <| g_do rfl rfl rfl rfl rfl rfl ?_
             refine g_v rfl (r_pick1 rfl h434) <| g_v rfl (r_pick0 rfl rfl) <| g_nil <| d_then ?_
             refine c_flat [(0, .slice Ap0_0 p0.length cp0_0), (1, .string x3), (2, .string x5), (7, .bool x1), (8, .pointer (some ⟨g7, 0, none⟩)), (9, .int .i64 (w64 (i278 + 1))), (10, .int .i64 i279), (14, .pointer (some ⟨g412, 0, none⟩)), (142, .bool (!(decide (x420 = w64 (i278 + 1)))))] ⟨rfl, rfl, rfl, rfl, rfl, rfl, rfl, rfl, rfl, trivial⟩ (fun u => ?_)
             refine c_cond rfl (fun h436 => ?_) (fun h436 => ?_)
             ·
              have h436' : (decide (x420 = w64 (i278 + 1))) = false := by revert h436; cases (decide (x420 = w64 (i278 + 1))) <;> simp
              replace hm := ite_f hm (of_decide_eq_false h436')
              refine c_seq <| c_region <| g_v rfl r_assign <| g_nil <| d_then <| c_ret <| d_ret_then <| d_ret_block <| d_ret_then <| d_ret_then ?_
              refine d_ret_block <| d_ret_then <| d_ret_then ?_
              replace hm := nx_out (C := (fun e : Unit ⊕ Bool => Sum.elim (fun e => m_law13_ConfFlushes_j1 x1) (fun x => some x) e = some r)) hm hnx2 hr2
              replace hm : some false = some r := hm
              replace hm := Option.some.inj hm
              subst hm
              refine d_retC () Try.results3 ?_ trivial (fun W h => ok_pre (H1 := [_, _]) (R1 := []) h (fun W hφ => (q382 _ (q410 _ hφ)))) (.inr rfl)
              refine res_tmp <| res_nil ?_
              exact rfl
             ·
              have h436' : (decide (x420 = w64 (i278 + 1))) = true := by revert h436; cases (decide (x420 = w64 (i278 + 1))) <;> simp
              replace hm := ite_t hm (of_decide_eq_true h436')
              refine c_skip <| d_then <| c_region <| g_v rfl (r_loadA (tag := 100140) rfl rfl Try.isAgg29 Try.sizeOf29 rfl rfl) <| g_storeL (tag := 100080) rfl rfl rfl rfl Try.sizeOf29 rfl rfl <| g_nil <| d_normal_block <| d_then <| c_region <| g_v rfl r_move ?_
              refine g_v rfl (r_add rfl rfl rfl) <| g_v rfl r_assign <| g_nil ?_
              obtain ⟨n437, hn437, hlp⟩ := nx_inl hm hnx2
              exact d_round (n437, w64 (i278 + 1), w64 (i279 + 1), x395.fRing, x395.fHints, x395.fAnchors, x395.fEpoch, x395.fFlushes, A398, c399, A401, c402, A404, c405, A407, c408) ⟨hlp, hc399, hc402, hc405, hc408⟩ hn437 ⟨rfl, rfl, rfl, rfl, rfl, rfl, rfl, trivial⟩ (fun W h => (h.dropH (t := 100140) rfl).phi (fun W hφ => ⟨(q382 _ (q410 _ hφ)), (fun W h => f400 W h) W hφ, (fun W h => f403 W h) W hφ, (fun W h => f406 W h) W hφ, (fun W h => f409 W h) W hφ⟩))
            ·
             replace hm := ite_f hm (of_decide_eq_false h435)
             refine g_no rfl rfl rfl rfl rfl h435 <| g_no rfl rfl rfl rfl rfl h435 <| g_do rfl rfl rfl rfl rfl h434 <| g_v rfl (r_pick0 rfl h435) <| g_do rfl rfl rfl rfl rfl h434 <| g_v rfl (r_not rfl) <| g_do rfl rfl rfl rfl rfl rfl <| g_v rfl (r_pick1 rfl h434) <| g_v rfl (r_pick0 rfl rfl) <| g_nil ?_
             refine d_then ?_
             refine c_flat [(0, .slice Ap0_0 p0.length cp0_0), (1, .string x3), (2, .string x5), (7, .bool x1), (8, .pointer (some ⟨g7, 0, none⟩)), (9, .int .i64 (w64 (i278 + 1))), (10, .int .i64 i279), (14, .pointer (some ⟨g412, 0, none⟩)), (142, .bool (!false))] ⟨rfl, rfl, rfl, rfl, rfl, rfl, rfl, rfl, rfl, trivial⟩ (fun u => ?_)
             refine c_cond1 rfl (congrArg (!·) rfl) <| c_seq <| c_region <| g_v rfl r_assign <| g_nil <| d_then <| c_ret <| d_ret_then <| d_ret_block <| d_ret_then ?_
             refine d_ret_then <| d_ret_block <| d_ret_then <| d_ret_then ?_
             replace hm := nx_out (C := (fun e : Unit ⊕ Bool => Sum.elim (fun e => m_law13_ConfFlushes_j1 x1) (fun x => some x) e = some r)) hm hnx2 hr2
             replace hm : some false = some r := hm
             replace hm := Option.some.inj hm
             subst hm
             refine d_retC () Try.results3 ?_ trivial (fun W h => ok_pre (H1 := [_, _]) (R1 := []) h (fun W hφ => (q382 _ (q410 _ hφ)))) (.inr rfl)
             refine res_tmp <| res_nil ?_
             exact rfl
           ·
            replace hm := ite_f hm (of_decide_eq_false h434)
            refine g_no rfl rfl rfl rfl rfl h434 <| g_nu rfl rfl rfl rfl rfl <| g_nu rfl rfl rfl rfl rfl <| g_nu rfl rfl rfl rfl rfl <| g_no rfl rfl rfl rfl rfl h434 <| g_no rfl rfl rfl rfl rfl h434 <| g_do rfl rfl rfl rfl rfl rfl <| g_v rfl (r_pick0 rfl h434) <| g_v rfl (r_pick0 rfl rfl) <| g_nil ?_
            refine d_then ?_
            refine c_flat [(0, .slice Ap0_0 p0.length cp0_0), (1, .string x3), (2, .string x5), (7, .bool x1), (8, .pointer (some ⟨g7, 0, none⟩)), (9, .int .i64 (w64 (i278 + 1))), (10, .int .i64 i279), (14, .pointer (some ⟨g412, 0, none⟩)), (142, .bool false)] ⟨rfl, rfl, rfl, rfl, rfl, rfl, rfl, rfl, rfl, trivial⟩ (fun u => ?_)
            refine c_cond0 rfl rfl <| c_skip <| d_then <| c_region <| g_v rfl (r_loadA (tag := 100140) rfl rfl Try.isAgg29 Try.sizeOf29 rfl rfl) <| g_storeL (tag := 100080) rfl rfl rfl rfl Try.sizeOf29 rfl rfl <| g_nil <| d_normal_block <| d_then <| c_region ?_
            refine g_v rfl r_move <| g_v rfl (r_add rfl rfl rfl) <| g_v rfl r_assign <| g_nil ?_
            obtain ⟨n438, hn438, hlp⟩ := nx_inl hm hnx2
            exact d_round (n438, w64 (i278 + 1), w64 (i279 + 1), x395.fRing, x395.fHints, x395.fAnchors, x395.fEpoch, x395.fFlushes, A398, c399, A401, c402, A404, c405, A407, c408) ⟨hlp, hc399, hc402, hc405, hc408⟩ hn438 ⟨rfl, rfl, rfl, rfl, rfl, rfl, rfl, trivial⟩ (fun W h => (h.dropH (t := 100140) rfl).phi (fun W hφ => ⟨(q382 _ (q410 _ hφ)), (fun W h => f400 W h) W hφ, (fun W h => f403 W h) W hφ, (fun W h => f406 W h) W hφ, (fun W h => f409 W h) W hφ⟩))
         ·
          replace hm := ite_t hm (of_decide_eq_true h430)
          refine g_no rfl rfl rfl rfl rfl h430 <| g_nu rfl rfl rfl rfl rfl <| g_nu rfl rfl rfl rfl rfl <| g_nu rfl rfl rfl rfl rfl <| g_no rfl rfl rfl rfl rfl h430 <| g_v rfl (r_pick1 rfl h430) <| g_v rfl r_move <| g_no rfl rfl rfl rfl rfl rfl <| g_no rfl rfl rfl rfl rfl rfl <| g_no rfl rfl rfl rfl rfl rfl ?_
          refine g_nu rfl rfl rfl rfl rfl <| g_nu rfl rfl rfl rfl rfl <| g_nu rfl rfl rfl rfl rfl <| g_no rfl rfl rfl rfl rfl rfl <| g_no rfl rfl rfl rfl rfl rfl <| g_nu rfl rfl rfl rfl rfl <| g_nu rfl rfl rfl rfl rfl <| g_nu rfl rfl rfl rfl rfl <| g_nu rfl rfl rfl rfl rfl <| g_nu rfl rfl rfl rfl rfl ?_
          refine g_nu rfl rfl rfl rfl rfl <| g_nu rfl rfl rfl rfl rfl <| g_no rfl rfl rfl rfl rfl rfl <| g_v rfl (r_pick1 rfl rfl) <| g_v rfl r_move <| g_no rfl rfl rfl rfl rfl rfl <| g_no rfl rfl rfl rfl rfl rfl <| g_no rfl rfl rfl rfl rfl rfl <| g_nu rfl rfl rfl rfl rfl <| g_nu rfl rfl rfl rfl rfl ?_
          refine g_nu rfl rfl rfl rfl rfl <| g_no rfl rfl rfl rfl rfl rfl <| g_no rfl rfl rfl rfl rfl rfl <| g_nu rfl rfl rfl rfl rfl <| g_nu rfl rfl rfl rfl rfl <| g_nu rfl rfl rfl rfl rfl <| g_nu rfl rfl rfl rfl rfl <| g_nu rfl rfl rfl rfl rfl <| g_nu rfl rfl rfl rfl rfl <| g_nu rfl rfl rfl rfl rfl ?_
          refine g_no rfl rfl rfl rfl rfl rfl <| g_v rfl (r_pick1 rfl rfl) <| g_nil <| d_then ?_
          refine c_flat [(0, .slice Ap0_0 p0.length cp0_0), (1, .string x3), (2, .string x5), (7, .bool x1), (8, .pointer (some ⟨g7, 0, none⟩)), (9, .int .i64 (w64 (i278 + 1))), (10, .int .i64 i279), (14, .pointer (some ⟨g412, 0, none⟩)), (142, .bool true)] ⟨rfl, rfl, rfl, rfl, rfl, rfl, rfl, rfl, rfl, trivial⟩ (fun u => ?_)
          refine c_cond1 rfl rfl <| c_seq <| c_region <| g_v rfl r_assign <| g_nil <| d_then <| c_ret <| d_ret_then <| d_ret_block <| d_ret_then ?_
          refine d_ret_then <| d_ret_block <| d_ret_then <| d_ret_then ?_
          replace hm := nx_out (C := (fun e : Unit ⊕ Bool => Sum.elim (fun e => m_law13_ConfFlushes_j1 x1) (fun x => some x) e = some r)) hm hnx2 hr2
          replace hm : some false = some r := hm
          replace hm := Option.some.inj hm
          subst hm
          refine d_retC () Try.results3 ?_ trivial (fun W h => ok_pre (H1 := [_, _]) (R1 := []) h (fun W hφ => (q382 _ (q410 _ hφ)))) (.inr rfl)
          refine res_tmp <| res_nil ?_
          exact rfl
        ·
         replace hm := ite_f hm (bool_nt h429)
         refine g_no rfl rfl rfl rfl rfl h429 <| g_no rfl rfl rfl rfl rfl h429 <| g_do rfl rfl rfl rfl rfl h428 <| g_v rfl (r_pick0 rfl h429) <| g_v rfl (r_pick0 rfl h428) <| g_v rfl r_move <| g_do rfl rfl rfl rfl rfl rfl <| g_v rfl r_move <| g_do rfl rfl rfl rfl rfl rfl <| g_v rfl r_move ?_
         refine g_if rfl rfl rfl rfl rfl (fun h439 => ?_) (fun h439 => ?_)
         ·
          replace hm := ite_t hm h439
          refine g_v rfl r_move <| g_do rfl rfl rfl rfl rfl h439 <| g_v rfl r_move <| g_do rfl rfl rfl rfl rfl h439 <| g_v rfl (r_neq rfl rfl) <| g_do rfl rfl rfl rfl rfl rfl <| g_v rfl (r_pick1 rfl h439) <| g_v rfl (r_pick0 rfl rfl) <| g_v rfl r_move ?_
          refine g_if rfl rfl rfl rfl rfl (fun h440 => ?_) (fun h440 => ?_)
          ·
           replace hm := ite_f hm (of_decide_eq_false h440)
           refine g_v rfl r_move <| g_do rfl rfl rfl rfl rfl h440 <| g_v rfl (r_not rfl) <| g_do rfl rfl rfl rfl rfl h440 <| g_v rfl r_move <| g_do rfl rfl rfl rfl rfl (congrArg (!·) h429) <| g_v rfl r_move <| g_do rfl rfl rfl rfl rfl (congrArg (!·) h429) <| g_v rfl r_move <| g_do rfl rfl rfl rfl rfl (congrArg (!·) h429) ?_
           refine g_v rfl (r_neq rfl rfl) <| g_do rfl rfl rfl rfl rfl h440 <| g_v rfl (r_pick1 rfl (congrArg (!·) h429)) <| g_do rfl rfl rfl rfl rfl h440 <| g_v rfl r_move ?_
           refine g_if rfl rfl rfl rfl rfl (fun h441 => ?_) (fun h441 => ?_)
           ·
            replace hm := ite_t hm (of_decide_eq_true h441)
            refine g_v rfl r_move <| g_do rfl rfl rfl rfl rfl h441 <| g_v rfl r_move ?_
            refine g_if rfl rfl rfl rfl rfl (fun h442 => ?_) (fun h442 => ?_)
            ·
             replace hm := ite_t hm (of_decide_eq_true h442)
             refine g_v rfl r_move <| g_do rfl rfl rfl rfl rfl h442 <| g_v rfl r_move <| g_do rfl rfl rfl rfl rfl h442 <| g_v rfl (r_eql rfl rfl) <| g_do rfl rfl rfl rfl rfl h441 <| g_v rfl (r_pick1 rfl h442) <| g_do rfl rfl rfl rfl rfl h441 <| g_v rfl (r_not rfl) <| g_do rfl rfl rfl rfl rfl h440 ?_
             refine g_v rfl (r_pick1 rfl h441) <| g_v rfl (r_pick0 rfl h440) <| g_v rfl r_move ?_
             refine g_if rfl rfl rfl rfl rfl (fun h443 => ?_) (fun h443 => ?_)
             ·
              have h443' : (decide (x418 = w64 (i278 + 1))) = true := by revert h443; cases (decide (x418 = w64 (i278 + 1))) <;> simp
              replace hm := ite_t hm (of_decide_eq_true h443')
              refine g_v rfl r_move <| g_do rfl rfl rfl rfl rfl h443 <| g_v rfl (r_not rfl) <| g_do rfl rfl rfl rfl rfl h443 <| g_v rfl r_move <| g_no rfl rfl rfl rfl rfl (congrArg (!·) h439) <| g_no rfl rfl rfl rfl rfl (congrArg (!·) h439) <| g_no rfl rfl rfl rfl rfl (congrArg (!·) h439) <| g_do rfl rfl rfl rfl rfl h443 <| g_v rfl (r_pick0 rfl (congrArg (!·) h439)) ?_
              refine g_do rfl rfl rfl rfl rfl h443 <| g_v rfl r_move <| g_no rfl rfl rfl rfl rfl rfl <| g_no rfl rfl rfl rfl rfl rfl <| g_nu rfl rfl rfl rfl rfl <| g_nu rfl rfl rfl rfl rfl <| g_nu rfl rfl rfl rfl rfl <| g_no rfl rfl rfl rfl rfl rfl <| g_no rfl rfl rfl rfl rfl rfl <| g_do rfl rfl rfl rfl rfl h443 ?_
              refine g_v rfl (r_pick0 rfl rfl) <| g_v rfl (r_pick0 rfl h443) <| g_nil <| d_then ?_
              refine c_flat [(0, .slice Ap0_0 p0.length cp0_0), (1, .string x3), (2, .string x5), (7, .bool x1), (8, .pointer (some ⟨g7, 0, none⟩)), (9, .int .i64 (w64 (i278 + 1))), (10, .int .i64 i279), (14, .pointer (some ⟨g412, 0, none⟩)), (142, .bool false)] ⟨rfl, rfl, rfl, rfl, rfl, rfl, rfl, rfl, rfl, trivial⟩ (fun u => ?_)
              refine c_cond0 rfl rfl <| c_skip <| d_then <| c_region <| g_v rfl (r_loadA (tag := 100140) rfl rfl Try.isAgg29 Try.sizeOf29 rfl rfl) <| g_storeL (tag := 100080) rfl rfl rfl rfl Try.sizeOf29 rfl rfl <| g_nil <| d_normal_block <| d_then <| c_region ?_
              refine g_v rfl r_move <| g_v rfl (r_add rfl rfl rfl) <| g_v rfl r_assign <| g_nil ?_
              obtain ⟨n444, hn444, hlp⟩ := nx_inl hm hnx2
              exact d_round (n444, w64 (i278 + 1), w64 (i279 + 1), x395.fRing, x395.fHints, x395.fAnchors, x395.fEpoch, x395.fFlushes, A398, c399, A401, c402, A404, c405, A407, c408) ⟨hlp, hc399, hc402, hc405, hc408⟩ hn444 ⟨rfl, rfl, rfl, rfl, rfl, rfl, rfl, trivial⟩ (fun W h => (h.dropH (t := 100140) rfl).phi (fun W hφ => ⟨(q382 _ (q410 _ hφ)), (fun W h => f400 W h) W hφ, (fun W h => f403 W h) W hφ, (fun W h => f406 W h) W hφ, (fun W h => f409 W h) W hφ⟩))
             ·
              have h443' : (decide (x418 = w64 (i278 + 1))) = false := by revert h443; cases (decide (x418 = w64 (i278 + 1))) <;> simp
              replace hm := ite_f hm (of_decide_eq_false h443')
              refine g_no rfl rfl rfl rfl rfl h443 <| g_no rfl rfl rfl rfl rfl h443 <| g_nu rfl rfl rfl rfl rfl <| g_nu rfl rfl rfl rfl rfl <| g_nu rfl rfl rfl rfl rfl <| g_no rfl rfl rfl rfl rfl h443 <| g_no rfl rfl rfl rfl rfl h443 <| g_nu rfl rfl rfl rfl rfl <| g_nu rfl rfl rfl rfl rfl <| g_nu rfl rfl rfl rfl rfl ?_
              refine g_nu rfl rfl rfl rfl rfl <| g_nu rfl rfl rfl rfl rfl <| g_nu rfl rfl rfl rfl rfl <| g_nu rfl rfl rfl rfl rfl <| g_no rfl rfl rfl rfl rfl h443 <| g_v rfl (r_pick1 rfl h443) <| g_nil <| d_then ?_
              refine c_flat [(0, .slice Ap0_0 p0.length cp0_0), (1, .string x3), (2, .string x5), (7, .bool x1), (8, .pointer (some ⟨g7, 0, none⟩)), (9, .int .i64 (w64 (i278 + 1))), (10, .int .i64 i279), (14, .pointer (some ⟨g412, 0, none⟩)), (142, .bool true)] ⟨rfl, rfl, rfl, rfl, rfl, rfl, rfl, rfl, rfl, trivial⟩ (fun u => ?_)
              refine c_cond1 rfl rfl <| c_seq <| c_region <| g_v rfl r_assign <| g_nil <| d_then <| c_ret <| d_ret_then <| d_ret_block <| d_ret_then ?_
              refine d_ret_then <| d_ret_block <| d_ret_then <| d_ret_then ?_
              replace hm := nx_out (C := (fun e : Unit ⊕ Bool => Sum.elim (fun e => m_law13_ConfFlushes_j1 x1) (fun x => some x) e = some r)) hm hnx2 hr2
              replace hm : some false = some r := hm
              replace hm := Option.some.inj hm
              subst hm
              refine d_retC () Try.results3 ?_ trivial (fun W h => ok_pre (H1 := [_, _]) (R1 := []) h (fun W hφ => (q382 _ (q410 _ hφ)))) (.inr rfl)
              refine res_tmp <| res_nil ?_
              exact rfl
            ·
             replace hm := ite_f hm (of_decide_eq_false h442)
             refine g_no rfl rfl rfl rfl rfl h442 <| g_no rfl rfl rfl rfl rfl h442 <| g_do rfl rfl rfl rfl rfl h441 <| g_v rfl (r_pick0 rfl h442) <| g_do rfl rfl rfl rfl rfl h441 <| g_v rfl (r_not rfl) <| g_do rfl rfl rfl rfl rfl h440 <| g_v rfl (r_pick1 rfl h441) <| g_v rfl (r_pick0 rfl h440) <| g_v rfl r_move ?_
             refine g_no rfl rfl rfl rfl rfl (congrArg (!·) rfl) <| g_no rfl rfl rfl rfl rfl (congrArg (!·) rfl) <| g_no rfl rfl rfl rfl rfl (congrArg (!·) rfl) <| g_nu rfl rfl rfl rfl rfl <| g_nu rfl rfl rfl rfl rfl <| g_nu rfl rfl rfl rfl rfl <| g_no rfl rfl rfl rfl rfl (congrArg (!·) rfl) <| g_no rfl rfl rfl rfl rfl (congrArg (!·) rfl) <| g_nu rfl rfl rfl rfl rfl <| g_nu rfl rfl rfl rfl rfl ?_
             refine g_nu rfl rfl rfl rfl rfl <| g_nu rfl rfl rfl rfl rfl <| g_nu rfl rfl rfl rfl rfl <| g_nu rfl rfl rfl rfl rfl <| g_nu rfl rfl rfl rfl rfl <| g_no rfl rfl rfl rfl rfl (congrArg (!·) rfl) <| g_v rfl (r_pick1 rfl (congrArg (!·) rfl)) <| g_nil <| d_then ?_
             refine c_flat [(0, .slice Ap0_0 p0.length cp0_0), (1, .string x3), (2, .string x5), (7, .bool x1), (8, .pointer (some ⟨g7, 0, none⟩)), (9, .int .i64 (w64 (i278 + 1))), (10, .int .i64 i279), (14, .pointer (some ⟨g412, 0, none⟩)), (142, .bool true)] ⟨rfl, rfl, rfl, rfl, rfl, rfl, rfl, rfl, rfl, trivial⟩ (fun u => ?_)
             refine c_cond1 rfl rfl <| c_seq <| c_region <| g_v rfl r_assign <| g_nil <| d_then <| c_ret <| d_ret_then <| d_ret_block <| d_ret_then ?_
             refine d_ret_then <| d_ret_block <| d_ret_then <| d_ret_then ?_
             replace hm := nx_out (C := (fun e : Unit ⊕ Bool => Sum.elim (fun e => m_law13_ConfFlushes_j1 x1) (fun x => some x) e = some r)) hm hnx2 hr2
             replace hm : some false = some r := hm
             replace hm := Option.some.inj hm
             subst hm
             refine d_retC () Try.results3 ?_ trivial (fun W h => ok_pre (H1 := [_, _]) (R1 := []) h (fun W hφ => (q382 _ (q410 _ hφ)))) (.inr rfl)
             refine res_tmp <| res_nil ?_
             exact rfl
           ·
            replace hm := ite_f hm (of_decide_eq_false h441)
            refine g_no rfl rfl rfl rfl rfl h441 <| g_nu rfl rfl rfl rfl rfl <| g_nu rfl rfl rfl rfl rfl <| g_nu rfl rfl rfl rfl rfl <| g_no rfl rfl rfl rfl rfl h441 <| g_no rfl rfl rfl rfl rfl h441 <| g_do rfl rfl rfl rfl rfl h440 <| g_v rfl (r_pick0 rfl h441) <| g_v rfl (r_pick0 rfl h440) <| g_v rfl r_move ?_
            refine g_do rfl rfl rfl rfl rfl rfl <| g_v rfl r_move <| g_do rfl rfl rfl rfl rfl rfl <| g_v rfl (r_not rfl) <| g_do rfl rfl rfl rfl rfl rfl <| g_v rfl r_move <| g_no rfl rfl rfl rfl rfl (congrArg (!·) h439) <| g_no rfl rfl rfl rfl rfl (congrArg (!·) h439) <| g_no rfl rfl rfl rfl rfl (congrArg (!·) h439) <| g_do rfl rfl rfl rfl rfl rfl ?_
            refine g_v rfl (r_pick0 rfl (congrArg (!·) h439)) <| g_do rfl rfl rfl rfl rfl rfl <| g_v rfl r_move <| g_no rfl rfl rfl rfl rfl rfl <| g_no rfl rfl rfl rfl rfl rfl <| g_nu rfl rfl rfl rfl rfl <| g_nu rfl rfl rfl rfl rfl <| g_nu rfl rfl rfl rfl rfl <| g_no rfl rfl rfl rfl rfl rfl <| g_no rfl rfl rfl rfl rfl rfl ?_
            refine g_do rfl rfl rfl rfl rfl rfl <| g_v rfl (r_pick0 rfl rfl) <| g_v rfl (r_pick0 rfl rfl) <| g_nil <| d_then ?_
            refine c_flat [(0, .slice Ap0_0 p0.length cp0_0), (1, .string x3), (2, .string x5), (7, .bool x1), (8, .pointer (some ⟨g7, 0, none⟩)), (9, .int .i64 (w64 (i278 + 1))), (10, .int .i64 i279), (14, .pointer (some ⟨g412, 0, none⟩)), (142, .bool false)] ⟨rfl, rfl, rfl, rfl, rfl, rfl, rfl, rfl, rfl, trivial⟩ (fun u => ?_)
            refine c_cond0 rfl rfl <| c_skip <| d_then <| c_region <| g_v rfl (r_loadA (tag := 100140) rfl rfl Try.isAgg29 Try.sizeOf29 rfl rfl) <| g_storeL (tag := 100080) rfl rfl rfl rfl Try.sizeOf29 rfl rfl <| g_nil <| d_normal_block <| d_then <| c_region ?_
            refine g_v rfl r_move <| g_v rfl (r_add rfl rfl rfl) <| g_v rfl r_assign <| g_nil ?_
            obtain ⟨n445, hn445, hlp⟩ := nx_inl hm hnx2
            exact d_round (n445, w64 (i278 + 1), w64 (i279 + 1), x395.fRing, x395.fHints, x395.fAnchors, x395.fEpoch, x395.fFlushes, A398, c399, A401, c402, A404, c405, A407, c408) ⟨hlp, hc399, hc402, hc405, hc408⟩ hn445 ⟨rfl, rfl, rfl, rfl, rfl, rfl, rfl, trivial⟩ (fun W h => (h.dropH (t := 100140) rfl).phi (fun W hφ => ⟨(q382 _ (q410 _ hφ)), (fun W h => f400 W h) W hφ, (fun W h => f403 W h) W hφ, (fun W h => f406 W h) W hφ, (fun W h => f409 W h) W hφ⟩))
          ·
           replace hm := ite_t hm (of_decide_eq_true h440)
           refine g_no rfl rfl rfl rfl rfl h440 <| g_no rfl rfl rfl rfl rfl h440 <| g_nu rfl rfl rfl rfl rfl <| g_nu rfl rfl rfl rfl rfl <| g_nu rfl rfl rfl rfl rfl <| g_no rfl rfl rfl rfl rfl h440 <| g_no rfl rfl rfl rfl rfl h440 <| g_nu rfl rfl rfl rfl rfl <| g_nu rfl rfl rfl rfl rfl <| g_nu rfl rfl rfl rfl rfl ?_
           refine g_nu rfl rfl rfl rfl rfl <| g_nu rfl rfl rfl rfl rfl <| g_nu rfl rfl rfl rfl rfl <| g_nu rfl rfl rfl rfl rfl <| g_no rfl rfl rfl rfl rfl h440 <| g_v rfl (r_pick1 rfl h440) <| g_v rfl r_move <| g_no rfl rfl rfl rfl rfl rfl <| g_no rfl rfl rfl rfl rfl rfl <| g_no rfl rfl rfl rfl rfl rfl ?_
           refine g_nu rfl rfl rfl rfl rfl <| g_nu rfl rfl rfl rfl rfl <| g_nu rfl rfl rfl rfl rfl <| g_no rfl rfl rfl rfl rfl rfl <| g_no rfl rfl rfl rfl rfl rfl <| g_nu rfl rfl rfl rfl rfl <| g_nu rfl rfl rfl rfl rfl <| g_nu rfl rfl rfl rfl rfl <| g_nu rfl rfl rfl rfl rfl <| g_nu rfl rfl rfl rfl rfl ?_
           refine g_nu rfl rfl rfl rfl rfl <| g_nu rfl rfl rfl rfl rfl <| g_no rfl rfl rfl rfl rfl rfl <| g_v rfl (r_pick1 rfl rfl) <| g_nil <| d_then ?_
           refine c_flat [(0, .slice Ap0_0 p0.length cp0_0), (1, .string x3), (2, .string x5), (7, .bool x1), (8, .pointer (some ⟨g7, 0, none⟩)), (9, .int .i64 (w64 (i278 + 1))), (10, .int .i64 i279), (14, .pointer (some ⟨g412, 0, none⟩)), (142, .bool true)] ⟨rfl, rfl, rfl, rfl, rfl, rfl, rfl, rfl, rfl, trivial⟩ (fun u => ?_)
           refine c_cond1 rfl rfl <| c_seq <| c_region <| g_v rfl r_assign <| g_nil <| d_then <| c_ret <| d_ret_then <| d_ret_block <| d_ret_then ?_
           refine d_ret_then <| d_ret_block <| d_ret_then <| d_ret_then ?_
           replace hm := nx_out (C := (fun e : Unit ⊕ Bool => Sum.elim (fun e => m_law13_ConfFlushes_j1 x1) (fun x => some x) e = some r)) hm hnx2 hr2
           replace hm : some false = some r := hm
           replace hm := Option.some.inj hm
           subst hm
           refine d_retC () Try.results3 ?_ trivial (fun W h => ok_pre (H1 := [_, _]) (R1 := []) h (fun W hφ => (q382 _ (q410 _ hφ)))) (.inr rfl)
           refine res_tmp <| res_nil ?_
           exact rfl
         ·
          replace hm := ite_f hm (bool_nt h439)
          refine g_no rfl rfl rfl rfl rfl h439 <| g_no rfl rfl rfl rfl rfl h439 <| g_do rfl rfl rfl rfl rfl rfl <| g_v rfl (r_pick0 rfl h439) <| g_v rfl (r_pick0 rfl rfl) <| g_v rfl r_move <| g_do rfl rfl rfl rfl rfl rfl <| g_v rfl r_move <| g_do rfl rfl rfl rfl rfl rfl <| g_v rfl (r_not rfl) ?_
          refine g_do rfl rfl rfl rfl rfl rfl <| g_v rfl r_move <| g_do rfl rfl rfl rfl rfl (congrArg (!·) h429) <| g_v rfl r_move <| g_do rfl rfl rfl rfl rfl (congrArg (!·) h429) <| g_v rfl r_move <| g_do rfl rfl rfl rfl rfl (congrArg (!·) h429) <| g_v rfl (r_neq rfl rfl) <| g_do rfl rfl rfl rfl rfl rfl <| g_v rfl (r_pick1 rfl (congrArg (!·) h429)) ?_
          refine g_do rfl rfl rfl rfl rfl rfl <| g_v rfl r_move ?_
          refine g_if rfl rfl rfl rfl rfl (fun h446 => ?_) (fun h446 => ?_)
          ·
           replace hm := ite_t hm (of_decide_eq_true h446)
           refine g_v rfl r_move <| g_do rfl rfl rfl rfl rfl h446 <| g_v rfl r_move ?_
           refine g_if rfl rfl rfl rfl rfl (fun h447 => ?_) (fun h447 => ?_)
           ·
            replace hm := ite_t hm (of_decide_eq_true h447)
            refine g_v rfl r_move <| g_do rfl rfl rfl rfl rfl h447 <| g_v rfl r_move <| g_do rfl rfl rfl rfl rfl h447 <| g_v rfl (r_eql rfl rfl) <| g_do rfl rfl rfl rfl rfl h446 <| g_v rfl (r_pick1 rfl h447) <| g_do rfl rfl rfl rfl rfl h446 <| g_v rfl (r_not rfl) <| g_do rfl rfl rfl rfl rfl rfl ?_
            refine g_v rfl (r_pick1 rfl h446) <| g_v rfl (r_pick0 rfl rfl) <| g_v rfl r_move ?_
            refine g_if rfl rfl rfl rfl rfl (fun h448 => ?_) (fun h448 => ?_)
            ·
             have h448' : (decide (x418 = w64 (i278 + 1))) = true := by revert h448; cases (decide (x418 = w64 (i278 + 1))) <;> simp
             replace hm := ite_t hm (of_decide_eq_true h448')
             refine g_v rfl r_move <| g_do rfl rfl rfl rfl rfl h448 <| g_v rfl (r_not rfl) <| g_do rfl rfl rfl rfl rfl h448 <| g_v rfl r_move <| g_do rfl rfl rfl rfl rfl (congrArg (!·) h439) <| g_v rfl r_move <| g_do rfl rfl rfl rfl rfl (congrArg (!·) h439) <| g_v rfl r_move <| g_do rfl rfl rfl rfl rfl (congrArg (!·) h439) ?_
             refine g_v rfl (r_neq rfl rfl) <| g_do rfl rfl rfl rfl rfl h448 <| g_v rfl (r_pick1 rfl (congrArg (!·) h439)) <| g_do rfl rfl rfl rfl rfl h448 <| g_v rfl r_move ?_
             refine g_if rfl rfl rfl rfl rfl (fun h449 => ?_) (fun h449 => ?_)
             ·
              replace hm := ite_t hm (of_decide_eq_true h449)
              refine g_v rfl r_move <| g_do rfl rfl rfl rfl rfl h449 <| g_v rfl r_move <| g_do rfl rfl rfl rfl rfl h447 <| g_v rfl r_move <| g_do rfl rfl rfl rfl rfl h447 <| g_v rfl r_move <| g_do rfl rfl rfl rfl rfl h447 <| g_v rfl (r_eql rfl rfl) <| g_do rfl rfl rfl rfl rfl h449 ?_
              refine g_v rfl (r_pick1 rfl h447) <| g_do rfl rfl rfl rfl rfl h449 <| g_v rfl (r_not rfl) <| g_do rfl rfl rfl rfl rfl h448 <| g_v rfl (r_pick1 rfl h449) <| g_v rfl (r_pick0 rfl h448) <| g_nil <| d_then ?_
              refine c_flat [(0, .slice Ap0_0 p0.length cp0_0), (1, .string x3), (2, .string x5), (7, .bool x1), (8, .pointer (some ⟨g7, 0, none⟩)), (9, .int .i64 (w64 (i278 + 1))), (10, .int .i64 i279), (14, .pointer (some ⟨g412, 0, none⟩)), (142, .bool (!(decide (x420 = w64 (i278 + 1)))))] ⟨rfl, rfl, rfl, rfl, rfl, rfl, rfl, rfl, rfl, trivial⟩ (fun u => ?_)
              refine c_cond rfl (fun h450 => ?_) (fun h450 => ?_)
              ·
               have h450' : (decide (x420 = w64 (i278 + 1))) = false := by revert h450; cases (decide (x420 = w64 (i278 + 1))) <;> simp
               replace hm := ite_f hm (of_decide_eq_false h450')
               refine c_seq <| c_region <| g_v rfl r_assign <| g_nil <| d_then <| c_ret <| d_ret_then <| d_ret_block <| d_ret_then <| d_ret_then ?_
               refine d_ret_block <| d_ret_then <| d_ret_then ?_
               replace hm := nx_out (C := (fun e : Unit ⊕ Bool => Sum.elim (fun e => m_law13_ConfFlushes_j1 x1) (fun x => some x) e = some r)) hm hnx2 hr2
               replace hm : some false = some r := hm
               replace hm := Option.some.inj hm
               subst hm
               refine d_retC () Try.results3 ?_ trivial (fun W h => ok_pre (H1 := [_, _]) (R1 := []) h (fun W hφ => (q382 _ (q410 _ hφ)))) (.inr rfl)
               refine res_tmp <| res_nil ?_
               exact rfl
              ·
               have h450' : (decide (x420 = w64 (i278 + 1))) = true := by revert h450; cases (decide (x420 = w64 (i278 + 1))) <;> simp
               replace hm := ite_t hm (of_decide_eq_true h450')
               refine c_skip <| d_then <| c_region <| g_v rfl (r_loadA (tag := 100140) rfl rfl Try.isAgg29 Try.sizeOf29 rfl rfl) <| g_storeL (tag := 100080) rfl rfl rfl rfl Try.sizeOf29 rfl rfl <| g_nil <| d_normal_block <| d_then <| c_region <| g_v rfl r_move ?_
               refine g_v rfl (r_add rfl rfl rfl) <| g_v rfl r_assign <| g_nil ?_
               obtain ⟨n451, hn451, hlp⟩ := nx_inl hm hnx2
               exact d_round (n451, w64 (i278 + 1), w64 (i279 + 1), x395.fRing, x395.fHints, x395.fAnchors, x395.fEpoch, x395.fFlushes, A398, c399, A401, c402, A404, c405, A407, c408) ⟨hlp, hc399, hc402, hc405, hc408⟩ hn451 ⟨rfl, rfl, rfl, rfl, rfl, rfl, rfl, trivial⟩ (fun W h => (h.dropH (t := 100140) rfl).phi (fun W hφ => ⟨(q382 _ (q410 _ hφ)), (fun W h => f400 W h) W hφ, (fun W h => f403 W h) W hφ, (fun W h => f406 W h) W hφ, (fun W h => f409 W h) W hφ⟩))
             ·
              replace hm := ite_f hm (of_decide_eq_false h449)
              refine g_no rfl rfl rfl rfl rfl h449 <| g_nu rfl rfl rfl rfl rfl <| g_nu rfl rfl rfl rfl rfl <| g_nu rfl rfl rfl rfl rfl <| g_no rfl rfl rfl rfl rfl h449 <| g_no rfl rfl rfl rfl rfl h449 <| g_do rfl rfl rfl rfl rfl h448 <| g_v rfl (r_pick0 rfl h449) <| g_v rfl (r_pick0 rfl h448) <| g_nil ?_
              refine d_then ?_
              refine c_flat [(0, .slice Ap0_0 p0.length cp0_0), (1, .string x3), (2, .string x5), (7, .bool x1), (8, .pointer (some ⟨g7, 0, none⟩)), (9, .int .i64 (w64 (i278 + 1))), (10, .int .i64 i279), (14, .pointer (some ⟨g412, 0, none⟩)), (142, .bool false)] ⟨rfl, rfl, rfl, rfl, rfl, rfl, rfl, rfl, rfl, trivial⟩ (fun u => ?_)
              refine c_cond0 rfl rfl <| c_skip <| d_then <| c_region <| g_v rfl (r_loadA (tag := 100140) rfl rfl Try.isAgg29 Try.sizeOf29 rfl rfl) <| g_storeL (tag := 100080) rfl rfl rfl rfl Try.sizeOf29 rfl rfl <| g_nil <| d_normal_block <| d_then <| c_region ?_
              refine g_v rfl r_move <| g_v rfl (r_add rfl rfl rfl) <| g_v rfl r_assign <| g_nil ?_
              obtain ⟨n452, hn452, hlp⟩ := nx_inl hm hnx2
              exact d_round (n452, w64 (i278 + 1), w64 (i279 + 1), x395.fRing, x395.fHints, x395.fAnchors, x395.fEpoch, x395.fFlushes, A398, c399, A401, c402, A404, c405, A407, c408) ⟨hlp, hc399, hc402, hc405, hc408⟩ hn452 ⟨rfl, rfl, rfl, rfl, rfl, rfl, rfl, trivial⟩ (fun W h => (h.dropH (t := 100140) rfl).phi (fun W hφ => ⟨(q382 _ (q410 _ hφ)), (fun W h => f400 W h) W hφ, (fun W h => f403 W h) W hφ, (fun W h => f406 W h) W hφ, (fun W h => f409 W h) W hφ⟩))
            ·
             have h448' : (decide (x418 = w64 (i278 + 1))) = false := by revert h448; cases (decide (x418 = w64 (i278 + 1))) <;> simp
             replace hm := ite_f hm (of_decide_eq_false h448')
             refine g_no rfl rfl rfl rfl rfl h448 <| g_no rfl rfl rfl rfl rfl h448 <| g_nu rfl rfl rfl rfl rfl <| g_nu rfl rfl rfl rfl rfl <| g_nu rfl rfl rfl rfl rfl <| g_no rfl rfl rfl rfl rfl h448 <| g_no rfl rfl rfl rfl rfl h448 <| g_nu rfl rfl rfl rfl rfl <| g_nu rfl rfl rfl rfl rfl <| g_nu rfl rfl rfl rfl rfl ?_
             refine g_nu rfl rfl rfl rfl rfl <| g_nu rfl rfl rfl rfl rfl <| g_nu rfl rfl rfl rfl rfl <| g_nu rfl rfl rfl rfl rfl <| g_no rfl rfl rfl rfl rfl h448 <| g_v rfl (r_pick1 rfl h448) <| g_nil <| d_then ?_
             refine c_flat [(0, .slice Ap0_0 p0.length cp0_0), (1, .string x3), (2, .string x5), (7, .bool x1), (8, .pointer (some ⟨g7, 0, none⟩)), (9, .int .i64 (w64 (i278 + 1))), (10, .int .i64 i279), (14, .pointer (some ⟨g412, 0, none⟩)), (142, .bool true)] ⟨rfl, rfl, rfl, rfl, rfl, rfl, rfl, rfl, rfl, trivial⟩ (fun u => ?_)
             refine c_cond1 rfl rfl <| c_seq <| c_region <| g_v rfl r_assign <| g_nil <| d_then <| c_ret <| d_ret_then <| d_ret_block <| d_ret_then ?_
             refine d_ret_then <| d_ret_block <| d_ret_then <| d_ret_then ?_
             replace hm := nx_out (C := (fun e : Unit ⊕ Bool => Sum.elim (fun e => m_law13_ConfFlushes_j1 x1) (fun x => some x) e = some r)) hm hnx2 hr2
             replace hm : some false = some r := hm
             replace hm := Option.some.inj hm
             subst hm
             refine d_retC () Try.results3 ?_ trivial (fun W h => ok_pre (H1 := [_, _]) (R1 := []) h (fun W hφ => (q382 _ (q410 _ hφ)))) (.inr rfl)
             refine res_tmp <| res_nil ?_
             exact rfl
           ·
            replace hm := ite_f hm (of_decide_eq_false h447)
            refine g_no rfl rfl rfl rfl rfl h447 <| g_no rfl rfl rfl rfl rfl h447 <| g_do rfl rfl rfl rfl rfl h446 <| g_v rfl (r_pick0 rfl h447) <| g_do rfl rfl rfl rfl rfl h446 <| g_v rfl (r_not rfl) <| g_do rfl rfl rfl rfl rfl rfl <| g_v rfl (r_pick1 rfl h446) <| g_v rfl (r_pick0 rfl rfl) <| g_v rfl r_move ?_
            refine g_no rfl rfl rfl rfl rfl (congrArg (!·) rfl) <| g_no rfl rfl rfl rfl rfl (congrArg (!·) rfl) <| g_no rfl rfl rfl rfl rfl (congrArg (!·) rfl) <| g_nu rfl rfl rfl rfl rfl <| g_nu rfl rfl rfl rfl rfl <| g_nu rfl rfl rfl rfl rfl <| g_no rfl rfl rfl rfl rfl (congrArg (!·) rfl) <| g_no rfl rfl rfl rfl rfl (congrArg (!·) rfl) <| g_nu rfl rfl rfl rfl rfl <| g_nu rfl rfl rfl rfl rfl ?_
            refine g_nu rfl rfl rfl rfl rfl <| g_nu rfl rfl rfl rfl rfl <| g_nu rfl rfl rfl rfl rfl <| g_nu rfl rfl rfl rfl rfl <| g_nu rfl rfl rfl rfl rfl <| g_no rfl rfl rfl rfl rfl (congrArg (!·) rfl) <| g_v rfl (r_pick1 rfl (congrArg (!·) rfl)) <| g_nil <| d_then ?_
            refine c_flat [(0, .slice Ap0_0 p0.length cp0_0), (1, .string x3), (2, .string x5), (7, .bool x1), (8, .pointer (some ⟨g7, 0, none⟩)), (9, .int .i64 (w64 (i278 + 1))), (10, .int .i64 i279), (14, .pointer (some ⟨g412, 0, none⟩)), (142, .bool true)] ⟨rfl, rfl, rfl, rfl, rfl, rfl, rfl, rfl, rfl, trivial⟩ (fun u => ?_)
            refine c_cond1 rfl rfl <| c_seq <| c_region <| g_v rfl r_assign <| g_nil <| d_then <| c_ret <| d_ret_then <| d_ret_block <| d_ret_then ?_
            refine d_ret_then <| d_ret_block <| d_ret_then <| d_ret_then ?_
            replace hm := nx_out (C := (fun e : Unit ⊕ Bool => Sum.elim (fun e => m_law13_ConfFlushes_j1 x1) (fun x => some x) e = some r)) hm hnx2 hr2
            replace hm : some false = some r := hm
            replace hm := Option.some.inj hm
            subst hm
            refine d_retC () Try.results3 ?_ trivial (fun W h => ok_pre (H1 := [_, _]) (R1 := []) h (fun W hφ => (q382 _ (q410 _ hφ)))) (.inr rfl)
            refine res_tmp <| res_nil ?_
            exact rfl
          ·
           replace hm := ite_f hm (of_decide_eq_false h446)
           refine g_no rfl rfl rfl rfl rfl h446 <| g_nu rfl rfl rfl rfl rfl <| g_nu rfl rfl rfl rfl rfl <| g_nu rfl rfl rfl rfl rfl <| g_no rfl rfl rfl rfl rfl h446 <| g_no rfl rfl rfl rfl rfl h446 <| g_do rfl rfl rfl rfl rfl rfl <| g_v rfl (r_pick0 rfl h446) <| g_v rfl (r_pick0 rfl rfl) <| g_v rfl r_move ?_
           refine g_do rfl rfl rfl rfl rfl rfl <| g_v rfl r_move <| g_do rfl rfl rfl rfl rfl rfl <| g_v rfl (r_not rfl) <| g_do rfl rfl rfl rfl rfl rfl <| g_v rfl r_move <| g_do rfl rfl rfl rfl rfl (congrArg (!·) h439) <| g_v rfl r_move <| g_do rfl rfl rfl rfl rfl (congrArg (!·) h439) <| g_v rfl r_move ?_
           refine g_do rfl rfl rfl rfl rfl (congrArg (!·) h439) <| g_v rfl (r_neq rfl rfl) <| g_do rfl rfl rfl rfl rfl rfl <| g_v rfl (r_pick1 rfl (congrArg (!·) h439)) <| g_do rfl rfl rfl rfl rfl rfl <| g_v rfl r_move ?_
           refine g_if rfl rfl rfl rfl rfl (fun h453 => ?_) (fun h453 => ?_)
           ·
            replace hm := ite_t hm (of_decide_eq_true h453)
            refine g_v rfl r_move <| g_do rfl rfl rfl rfl rfl h453 <| g_v rfl r_move ?_
            refine g_if rfl rfl rfl rfl rfl (fun h454 => ?_) (fun h454 => ?_)
            ·
             replace hm := ite_t hm (of_decide_eq_true h454)
             refine g_v rfl r_move <| g_do rfl rfl rfl rfl rfl h454 <| g_v rfl r_move <| g_do rfl rfl rfl rfl rfl h454 <| g_v rfl (r_eql rfl rfl) <| g_do rfl rfl rfl rfl rfl h453 <| g_v rfl (r_pick1 rfl h454) <| g_do rfl rfl rfl rfl rfl h453 <| g_v rfl (r_not rfl) <| g_do rfl rfl rfl rfl rfl rfl ?_
             refine g_v rfl (r_pick1 rfl h453) <| g_v rfl (r_pick0 rfl rfl) <| g_nil <| d_then ?_
             refine c_flat [(0, .slice Ap0_0 p0.length cp0_0), (1, .string x3), (2, .string x5), (7, .bool x1), (8, .pointer (some ⟨g7, 0, none⟩)), (9, .int .i64 (w64 (i278 + 1))), (10, .int .i64 i279), (14, .pointer (some ⟨g412, 0, none⟩)), (142, .bool (!(decide (x420 = w64 (i278 + 1)))))] ⟨rfl, rfl, rfl, rfl, rfl, rfl, rfl, rfl, rfl, trivial⟩ (fun u => ?_)
             refine c_cond rfl (fun h455 => ?_) (fun h455 => ?_)
             ·
              have h455' : (decide (x420 = w64 (i278 + 1))) = false := by revert h455; cases (decide (x420 = w64 (i278 + 1))) <;> simp
              replace hm := ite_f hm (of_decide_eq_false h455')
              refine c_seq <| c_region <| g_v rfl r_assign <| g_nil <| d_then <| c_ret <| d_ret_then <| d_ret_block <| d_ret_then <| d_ret_then ?_
              refine d_ret_block <| d_ret_then <| d_ret_then ?_
              replace hm := nx_out (C := (fun e : Unit ⊕ Bool => Sum.elim (fun e => m_law13_ConfFlushes_j1 x1) (fun x => some x) e = some r)) hm hnx2 hr2
              replace hm : some false = some r := hm
              replace hm := Option.some.inj hm
              subst hm
              refine d_retC () Try.results3 ?_ trivial (fun W h => ok_pre (H1 := [_, _]) (R1 := []) h (fun W hφ => (q382 _ (q410 _ hφ)))) (.inr rfl)
              refine res_tmp <| res_nil ?_
              exact rfl
             ·
              have h455' : (decide (x420 = w64 (i278 + 1))) = true := by revert h455; cases (decide (x420 = w64 (i278 + 1))) <;> simp
              replace hm := ite_t hm (of_decide_eq_true h455')
              refine c_skip <| d_then <| c_region <| g_v rfl (r_loadA (tag := 100140) rfl rfl Try.isAgg29 Try.sizeOf29 rfl rfl) <| g_storeL (tag := 100080) rfl rfl rfl rfl Try.sizeOf29 rfl rfl <| g_nil <| d_normal_block <| d_then <| c_region <| g_v rfl r_move ?_
              refine g_v rfl (r_add rfl rfl rfl) <| g_v rfl r_assign <| g_nil ?_
              obtain ⟨n456, hn456, hlp⟩ := nx_inl hm hnx2
              exact d_round (n456, w64 (i278 + 1), w64 (i279 + 1), x395.fRing, x395.fHints, x395.fAnchors, x395.fEpoch, x395.fFlushes, A398, c399, A401, c402, A404, c405, A407, c408) ⟨hlp, hc399, hc402, hc405, hc408⟩ hn456 ⟨rfl, rfl, rfl, rfl, rfl, rfl, rfl, trivial⟩ (fun W h => (h.dropH (t := 100140) rfl).phi (fun W hφ => ⟨(q382 _ (q410 _ hφ)), (fun W h => f400 W h) W hφ, (fun W h => f403 W h) W hφ, (fun W h => f406 W h) W hφ, (fun W h => f409 W h) W hφ⟩))
            ·
             replace hm := ite_f hm (of_decide_eq_false h454)
             refine g_no rfl rfl rfl rfl rfl h454 <| g_no rfl rfl rfl rfl rfl h454 <| g_do rfl rfl rfl rfl rfl h453 <| g_v rfl (r_pick0 rfl h454) <| g_do rfl rfl rfl rfl rfl h453 <| g_v rfl (r_not rfl) <| g_do rfl rfl rfl rfl rfl rfl <| g_v rfl (r_pick1 rfl h453) <| g_v rfl (r_pick0 rfl rfl) <| g_nil ?_
             refine d_then ?_
             refine c_flat [(0, .slice Ap0_0 p0.length cp0_0), (1, .string x3), (2, .string x5), (7, .bool x1), (8, .pointer (some ⟨g7, 0, none⟩)), (9, .int .i64 (w64 (i278 + 1))), (10, .int .i64 i279), (14, .pointer (some ⟨g412, 0, none⟩)), (142, .bool (!false))] ⟨rfl, rfl, rfl, rfl, rfl, rfl, rfl, rfl, rfl, trivial⟩ (fun u => ?_)
             refine c_cond1 rfl (congrArg (!·) rfl) <| c_seq <| c_region <| g_v rfl r_assign <| g_nil <| d_then <| c_ret <| d_ret_then <| d_ret_block <| d_ret_then ?_
             refine d_ret_then <| d_ret_block <| d_ret_then <| d_ret_then ?_
             replace hm := nx_out (C := (fun e : Unit ⊕ Bool => Sum.elim (fun e => m_law13_ConfFlushes_j1 x1) (fun x => some x) e = some r)) hm hnx2 hr2
             replace hm : some false = some r := hm
             replace hm := Option.some.inj hm
             subst hm
             refine d_retC () Try.results3 ?_ trivial (fun W h => ok_pre (H1 := [_, _]) (R1 := []) h (fun W hφ => (q382 _ (q410 _ hφ)))) (.inr rfl)
             refine res_tmp <| res_nil ?_
             exact rfl
           ·
            replace hm := ite_f hm (of_decide_eq_false h453)
            refine g_no rfl rfl rfl rfl rfl h453 <| g_nu rfl rfl rfl rfl rfl <| g_nu rfl rfl rfl rfl rfl <| g_nu rfl rfl rfl rfl rfl <| g_no rfl rfl rfl rfl rfl h453 <| g_no rfl rfl rfl rfl rfl h453 <| g_do rfl rfl rfl rfl rfl rfl <| g_v rfl (r_pick0 rfl h453) <| g_v rfl (r_pick0 rfl rfl) <| g_nil ?_
            refine d_then ?_
            refine c_flat [(0, .slice Ap0_0 p0.length cp0_0), (1, .string x3), (2, .string x5), (7, .bool x1), (8, .pointer (some ⟨g7, 0, none⟩)), (9, .int .i64 (w64 (i278 + 1))), (10, .int .i64 i279), (14, .pointer (some ⟨g412, 0, none⟩)), (142, .bool false)] ⟨rfl, rfl, rfl, rfl, rfl, rfl, rfl, rfl, rfl, trivial⟩ (fun u => ?_)
            refine c_cond0 rfl rfl <| c_skip <| d_then <| c_region <| g_v rfl (r_loadA (tag := 100140) rfl rfl Try.isAgg29 Try.sizeOf29 rfl rfl) <| g_storeL (tag := 100080) rfl rfl rfl rfl Try.sizeOf29 rfl rfl <| g_nil <| d_normal_block <| d_then <| c_region ?_
            refine g_v rfl r_move <| g_v rfl (r_add rfl rfl rfl) <| g_v rfl r_assign <| g_nil ?_
            obtain ⟨n457, hn457, hlp⟩ := nx_inl hm hnx2
            exact d_round (n457, w64 (i278 + 1), w64 (i279 + 1), x395.fRing, x395.fHints, x395.fAnchors, x395.fEpoch, x395.fFlushes, A398, c399, A401, c402, A404, c405, A407, c408) ⟨hlp, hc399, hc402, hc405, hc408⟩ hn457 ⟨rfl, rfl, rfl, rfl, rfl, rfl, rfl, trivial⟩ (fun W h => (h.dropH (t := 100140) rfl).phi (fun W hφ => ⟨(q382 _ (q410 _ hφ)), (fun W h => f400 W h) W hφ, (fun W h => f403 W h) W hφ, (fun W h => f406 W h) W hφ, (fun W h => f409 W h) W hφ⟩))
       ·
        replace hm := ite_t hm (of_decide_eq_true h428)
        refine g_no rfl rfl rfl rfl rfl h428 <| g_nu rfl rfl rfl rfl rfl <| g_nu rfl rfl rfl rfl rfl <| g_nu rfl rfl rfl rfl rfl <| g_no rfl rfl rfl rfl rfl h428 <| g_v rfl (r_pick1 rfl h428) <| g_v rfl r_move <| g_no rfl rfl rfl rfl rfl rfl <| g_no rfl rfl rfl rfl rfl rfl <| g_nu rfl rfl rfl rfl rfl ?_
        refine g_nu rfl rfl rfl rfl rfl <| g_nu rfl rfl rfl rfl rfl <| g_no rfl rfl rfl rfl rfl rfl <| g_v rfl (r_pick1 rfl rfl) <| g_v rfl r_move <| g_no rfl rfl rfl rfl rfl rfl <| g_no rfl rfl rfl rfl rfl rfl <| g_no rfl rfl rfl rfl rfl rfl <| g_nu rfl rfl rfl rfl rfl <| g_nu rfl rfl rfl rfl rfl ?_
        refine g_nu rfl rfl rfl rfl rfl <| g_no rfl rfl rfl rfl rfl rfl <| g_no rfl rfl rfl rfl rfl rfl <| g_nu rfl rfl rfl rfl rfl <| g_nu rfl rfl rfl rfl rfl <| g_nu rfl rfl rfl rfl rfl <| g_nu rfl rfl rfl rfl rfl <| g_nu rfl rfl rfl rfl rfl <| g_nu rfl rfl rfl rfl rfl <| g_nu rfl rfl rfl rfl rfl ?_
        refine g_no rfl rfl rfl rfl rfl rfl <| g_v rfl (r_pick1 rfl rfl) <| g_v rfl r_move <| g_no rfl rfl rfl rfl rfl rfl <| g_no rfl rfl rfl rfl rfl rfl <| g_no rfl rfl rfl rfl rfl rfl <| g_nu rfl rfl rfl rfl rfl <| g_nu rfl rfl rfl rfl rfl <| g_nu rfl rfl rfl rfl rfl <| g_no rfl rfl rfl rfl rfl rfl ?_
        refine g_no rfl rfl rfl rfl rfl rfl <| g_nu rfl rfl rfl rfl rfl <| g_nu rfl rfl rfl rfl rfl <| g_nu rfl rfl rfl rfl rfl <| g_nu rfl rfl rfl rfl rfl <| g_nu rfl rfl rfl rfl rfl <| g_nu rfl rfl rfl rfl rfl <| g_nu rfl rfl rfl rfl rfl <| g_no rfl rfl rfl rfl rfl rfl <| g_v rfl (r_pick1 rfl rfl) ?_
        refine g_nil <| d_then ?_
        refine c_flat [(0, .slice Ap0_0 p0.length cp0_0), (1, .string x3), (2, .string x5), (7, .bool x1), (8, .pointer (some ⟨g7, 0, none⟩)), (9, .int .i64 (w64 (i278 + 1))), (10, .int .i64 i279), (14, .pointer (some ⟨g412, 0, none⟩)), (142, .bool true)] ⟨rfl, rfl, rfl, rfl, rfl, rfl, rfl, rfl, rfl, trivial⟩ (fun u => ?_)
        refine c_cond1 rfl rfl <| c_seq <| c_region <| g_v rfl r_assign <| g_nil <| d_then <| c_ret <| d_ret_then <| d_ret_block <| d_ret_then ?_
        refine d_ret_then <| d_ret_block <| d_ret_then <| d_ret_then ?_
        replace hm := nx_out (C := (fun e : Unit ⊕ Bool => Sum.elim (fun e => m_law13_ConfFlushes_j1 x1) (fun x => some x) e = some r)) hm hnx2 hr2
        replace hm : some false = some r := hm
        replace hm := Option.some.inj hm
        subst hm
        refine d_retC () Try.results3 ?_ trivial (fun W h => ok_pre (H1 := [_, _]) (R1 := []) h (fun W hφ => (q382 _ (q410 _ hφ)))) (.inr rfl)
        refine res_tmp <| res_nil ?_
        exact rfl
      ·
       replace hm := ite_t hm (of_decide_eq_true h427)
       refine g_no rfl rfl rfl rfl rfl h427 <| g_no rfl rfl rfl rfl rfl h427 <| g_no rfl rfl rfl rfl rfl h427 <| g_v rfl (r_pick1 rfl h427) <| g_v rfl r_move <| g_no rfl rfl rfl rfl rfl rfl <| g_no rfl rfl rfl rfl rfl rfl <| g_nu rfl rfl rfl rfl rfl <| g_nu rfl rfl rfl rfl rfl <| g_nu rfl rfl rfl rfl rfl ?_
       refine g_no rfl rfl rfl rfl rfl rfl <| g_v rfl (r_pick1 rfl rfl) <| g_v rfl r_move <| g_no rfl rfl rfl rfl rfl rfl <| g_no rfl rfl rfl rfl rfl rfl <| g_nu rfl rfl rfl rfl rfl <| g_nu rfl rfl rfl rfl rfl <| g_nu rfl rfl rfl rfl rfl <| g_no rfl rfl rfl rfl rfl rfl <| g_v rfl (r_pick1 rfl rfl) ?_
       refine g_v rfl r_move <| g_no rfl rfl rfl rfl rfl rfl <| g_no rfl rfl rfl rfl rfl rfl <| g_no rfl rfl rfl rfl rfl rfl <| g_nu rfl rfl rfl rfl rfl <| g_nu rfl rfl rfl rfl rfl <| g_nu rfl rfl rfl rfl rfl <| g_no rfl rfl rfl rfl rfl rfl <| g_no rfl rfl rfl rfl rfl rfl <| g_nu rfl rfl rfl rfl rfl ?_
       refine g_nu rfl rfl rfl rfl rfl <| g_nu rfl rfl rfl rfl rfl <| g_nu rfl rfl rfl rfl rfl <| g_nu rfl rfl rfl rfl rfl <| g_nu rfl rfl rfl rfl rfl <| g_nu rfl rfl rfl rfl rfl <| g_no rfl rfl rfl rfl rfl rfl <| g_v rfl (r_pick1 rfl rfl) <| g_v rfl r_move <| g_no rfl rfl rfl rfl rfl rfl ?_
       refine g_no rfl rfl rfl rfl rfl rfl <| g_no rfl rfl rfl rfl rfl rfl <| g_nu rfl rfl rfl rfl rfl <| g_nu rfl rfl rfl rfl rfl <| g_nu rfl rfl rfl rfl rfl <| g_no rfl rfl rfl rfl rfl rfl <| g_no rfl rfl rfl rfl rfl rfl <| g_nu rfl rfl rfl rfl rfl <| g_nu rfl rfl rfl rfl rfl <| g_nu rfl rfl rfl rfl rfl ?_
       refine g_nu rfl rfl rfl rfl rfl <| g_nu rfl rfl rfl rfl rfl <| g_nu rfl rfl rfl rfl rfl <| g_nu rfl rfl rfl rfl rfl <| g_no rfl rfl rfl rfl rfl rfl <| g_v rfl (r_pick1 rfl rfl) <| g_nil <| d_then ?_
       refine c_flat [(0, .slice Ap0_0 p0.length cp0_0), (1, .string x3), (2, .string x5), (7, .bool x1), (8, .pointer (some ⟨g7, 0, none⟩)), (9, .int .i64 (w64 (i278 + 1))), (10, .int .i64 i279), (14, .pointer (some ⟨g412, 0, none⟩)), (142, .bool true)] ⟨rfl, rfl, rfl, rfl, rfl, rfl, rfl, rfl, rfl, trivial⟩ (fun u => ?_)
       refine c_cond1 rfl rfl <| c_seq <| c_region <| g_v rfl r_assign <| g_nil <| d_then <| c_ret <| d_ret_then <| d_ret_block <| d_ret_then ?_
       refine d_ret_then <| d_ret_block <| d_ret_then <| d_ret_then ?_
       replace hm := nx_out (C := (fun e : Unit ⊕ Bool => Sum.elim (fun e => m_law13_ConfFlushes_j1 x1) (fun x => some x) e = some r)) hm hnx2 hr2
       replace hm : some false = some r := hm
       replace hm := Option.some.inj hm
       subst hm
       refine d_retC () Try.results3 ?_ trivial (fun W h => ok_pre (H1 := [_, _]) (R1 := []) h (fun W hφ => (q382 _ (q410 _ hφ)))) (.inr rfl)
       refine res_tmp <| res_nil ?_
       exact rfl
     ·
      replace hm := ite_t hm (of_decide_eq_true h426)
      refine g_no rfl rfl rfl rfl rfl h426 <| g_no rfl rfl rfl rfl rfl h426 <| g_no rfl rfl rfl rfl rfl h426 <| g_v rfl (r_pick1 rfl h426) <| g_v rfl r_move <| g_no rfl rfl rfl rfl rfl rfl <| g_no rfl rfl rfl rfl rfl rfl <| g_no rfl rfl rfl rfl rfl rfl <| g_no rfl rfl rfl rfl rfl rfl <| g_v rfl (r_pick1 rfl rfl) ?_
      refine g_v rfl r_move <| g_no rfl rfl rfl rfl rfl rfl <| g_no rfl rfl rfl rfl rfl rfl <| g_nu rfl rfl rfl rfl rfl <| g_nu rfl rfl rfl rfl rfl <| g_nu rfl rfl rfl rfl rfl <| g_no rfl rfl rfl rfl rfl rfl <| g_v rfl (r_pick1 rfl rfl) <| g_v rfl r_move <| g_no rfl rfl rfl rfl rfl rfl ?_
      refine g_no rfl rfl rfl rfl rfl rfl <| g_nu rfl rfl rfl rfl rfl <| g_nu rfl rfl rfl rfl rfl <| g_nu rfl rfl rfl rfl rfl <| g_no rfl rfl rfl rfl rfl rfl <| g_v rfl (r_pick1 rfl rfl) <| g_v rfl r_move <| g_no rfl rfl rfl rfl rfl rfl <| g_no rfl rfl rfl rfl rfl rfl <| g_no rfl rfl rfl rfl rfl rfl ?_
      refine g_nu rfl rfl rfl rfl rfl <| g_nu rfl rfl rfl rfl rfl <| g_nu rfl rfl rfl rfl rfl <| g_no rfl rfl rfl rfl rfl rfl <| g_no rfl rfl rfl rfl rfl rfl <| g_nu rfl rfl rfl rfl rfl <| g_nu rfl rfl rfl rfl rfl <| g_nu rfl rfl rfl rfl rfl <| g_nu rfl rfl rfl rfl rfl <| g_nu rfl rfl rfl rfl rfl ?_
      refine g_nu rfl rfl rfl rfl rfl <| g_nu rfl rfl rfl rfl rfl <| g_no rfl rfl rfl rfl rfl rfl <| g_v rfl (r_pick1 rfl rfl) <| g_v rfl r_move <| g_no rfl rfl rfl rfl rfl rfl <| g_no rfl rfl rfl rfl rfl rfl <| g_no rfl rfl rfl rfl rfl rfl <| g_nu rfl rfl rfl rfl rfl <| g_nu rfl rfl rfl rfl rfl ?_
      refine g_nu rfl rfl rfl rfl rfl <| g_no rfl rfl rfl rfl rfl rfl <| g_no rfl rfl rfl rfl rfl rfl <| g_nu rfl rfl rfl rfl rfl <| g_nu rfl rfl rfl rfl rfl <| g_nu rfl rfl rfl rfl rfl <| g_nu rfl rfl rfl rfl rfl <| g_nu rfl rfl rfl rfl rfl <| g_nu rfl rfl rfl rfl rfl <| g_nu rfl rfl rfl rfl rfl ?_
      refine g_no rfl rfl rfl rfl rfl rfl <| g_v rfl (r_pick1 rfl rfl) <| g_nil <| d_then ?_
      refine c_flat [(0, .slice Ap0_0 p0.length cp0_0), (1, .string x3), (2, .string x5), (7, .bool x1), (8, .pointer (some ⟨g7, 0, none⟩)), (9, .int .i64 (w64 (i278 + 1))), (10, .int .i64 i279), (14, .pointer (some ⟨g412, 0, none⟩)), (142, .bool true)] ⟨rfl, rfl, rfl, rfl, rfl, rfl, rfl, rfl, rfl, trivial⟩ (fun u => ?_)
      refine c_cond1 rfl rfl <| c_seq <| c_region <| g_v rfl r_assign <| g_nil <| d_then <| c_ret <| d_ret_then <| d_ret_block <| d_ret_then ?_
      refine d_ret_then <| d_ret_block <| d_ret_then <| d_ret_then ?_
      replace hm := nx_out (C := (fun e : Unit ⊕ Bool => Sum.elim (fun e => m_law13_ConfFlushes_j1 x1) (fun x => some x) e = some r)) hm hnx2 hr2
      replace hm : some false = some r := hm
      replace hm := Option.some.inj hm
      subst hm
      refine d_retC () Try.results3 ?_ trivial (fun W h => ok_pre (H1 := [_, _]) (R1 := []) h (fun W hφ => (q382 _ (q410 _ hφ)))) (.inr rfl)
      refine res_tmp <| res_nil ?_
      exact rfl
   ·
    replace hm := ite_f hm (of_decide_eq_false h384)
    refine c_exit <| d_exit_then <| d_exit_then <| d_exit_block ?_
    replace hm := nx_out (C := (fun e : Unit ⊕ Bool => Sum.elim (fun e => m_law13_ConfFlushes_j1 x1) (fun x => some x) e = some r)) hm hnx2 hr2
    exact d_round () hm Nat.zero_lt_one ⟨rfl, trivial⟩ (fun W h => (h.dropH (t := 100080) rfl).phi (fun W hφ => (q382 _ hφ)))
  ·
   replace hm := ite_f hm (of_decide_eq_false h383)
   refine g_no rfl rfl rfl rfl rfl h383 <| g_v rfl (r_pick0 rfl h383) <| g_nil <| d_then <| c_cond0 rfl rfl <| c_exit <| d_exit_then <| d_exit_then <| d_exit_block ?_
   replace hm := nx_out (C := (fun e : Unit ⊕ Bool => Sum.elim (fun e => m_law13_ConfFlushes_j1 x1) (fun x => some x) e = some r)) hm hnx2 hr2
   exact d_round () hm Nat.zero_lt_one ⟨rfl, trivial⟩ (fun W h => (h.dropH (t := 100080) rfl).phi (fun W hφ => (q382 _ hφ)))
 ·
  unfold m_law13_ConfFlushes_j1 at hm
  refine d_flat [(7, .bool x1)] ⟨rfl, trivial⟩ (fun u => ?_)
  refine d_then <| c_seq <| c_region <| g_v rfl r_move <| g_v rfl r_assign <| g_nil <| d_then <| c_ret ?_
  replace hm := Option.some.inj hm
  subst hm
  refine d_retC () Try.results3 ?_ trivial (fun W h => ok_pre (H1 := []) (R1 := []) h (fun W hφ => hφ)) (.inr rfl)
  refine res_tmp <| res_nil ?_
  exact rfl
end Go.Proofs.Ythpjodfjdnnckaa
