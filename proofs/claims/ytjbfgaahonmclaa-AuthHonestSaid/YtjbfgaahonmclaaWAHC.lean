import Derived.Test.YtjbfgaahonmclaaWAHB
set_option maxRecDepth 100000
set_option maxHeartbeats 4000000
set_option linter.unusedVariables false
set_option linter.unusedSimpArgs false
namespace Go.Proofs.Ytjbfgaahonmclaa
open Go.RowKit Go.Proofs.YtjbfgaahonmclaaW.PrintLast
noncomputable def m_law18_AuthHonest_j2 (x2 : Bool) (x32 : GMessage) : Option Bool :=
  if x2 = true then
    if (x32.fAnswers.length : Int) = 0 then
      if (x32.fExtras.length : Int) = 0 then
        some true
      else
        if 0 < (x32.fAuthorities.length : Int) then
          some (!x32.fAuthoritative)
        else
          some false
    else
      if x32.fCode = 0 then
        if (x32.fExtras.length : Int) = 0 then
          some true
        else
          if 0 < (x32.fAuthorities.length : Int) then
            some (!x32.fAuthoritative)
          else
            some false
      else
        some false
  else
    some false
noncomputable def m_law18_AuthHonest_s3 (x32 : GMessage) (x12 : ByteArray) (p1 : GQuestion) (i669 : Int) : Option (Int ⊕ (Unit ⊕ Bool)) :=
  if i669 < (x32.fAnswers.length : Int) then
    (at_ x32.fAnswers i669).bind fun x750 =>
    (m_ref03_Same x750.fName x12).bind fun x755 =>
    if x755 = true then
      (at_ x32.fAnswers i669).bind fun x784 =>
      if x784.fType ≠ p1.fType then
        (at_ x32.fAnswers i669).bind fun x790 =>
        if x790.fType ≠ 5 then
          some (.inr (.inr false))
        else
          if x32.fAuthoritative = true then
            some (.inl (w64 (i669 + 1)))
          else
            some (.inr (.inr false))
      else
        if x32.fAuthoritative = true then
          some (.inl (w64 (i669 + 1)))
        else
          some (.inr (.inr false))
    else
      some (.inr (.inr false))
  else
    some (.inr (.inl ()))
noncomputable def m_law18_AuthHonest_j1 (x32 : GMessage) (x12 : ByteArray) (p1 : GQuestion) (x2 : Bool) : Option Bool :=
  (loop (fun s => m_law18_AuthHonest_s3 x32 x12 p1 s) 0).bind fun e => Sum.elim (fun e => m_law18_AuthHonest_j2 x2 x32) (fun x => some x) e
noncomputable def m_law18_AuthHonest_j5 (l71 : List GRR) (i996 : Int) (x4 : List GZone) (x48 : Int) (b1335 : Bool) : Option (Int ⊕ (Unit ⊕ Bool)) :=
  (at_ l71 i996).bind fun x1370 =>
  (at_ x4 x48).bind fun x1375 =>
  (m_ref03_Under x1370.fName x1375.fApex).bind fun x1385 =>
  if b1335 = true then
    if x1385 = true then
      some (.inl (w64 (i996 + 1)))
    else
      some (.inr (.inr false))
  else
    some (.inr (.inr false))
noncomputable def m_law18_AuthHonest_s6 (x4 : List GZone) (x48 : Int) (l71 : List GRR) (i996 : Int) (b1457 : Bool) (i1458 : Int) : Option ((Bool × Int) ⊕ Bool) :=
  (at_ x4 x48).bind fun x1530 =>
  if i1458 < (x1530.fRecords.length : Int) then
    if b1457 = true then
      some (.inl (true, w64 (i1458 + 1)))
    else
      (at_ x4 x48).bind fun x1581 =>
      (at_ x1581.fRecords i1458).bind fun x1591 =>
      (at_ l71 i996).bind fun x1595 =>
      some (.inl (decide (x1591 = x1595), w64 (i1458 + 1)))
  else
    some (.inr b1457)
noncomputable def m_law18_AuthHonest_s4 (l71 : List GRR) (x4 : List GZone) (x48 : Int) (i996 : Int) : Option (Int ⊕ (Unit ⊕ Bool)) :=
  if i996 < (l71.length : Int) then
    (loop (fun s => m_law18_AuthHonest_s6 x4 x48 l71 i996 s.1 s.2) (false, 0)).bind fun e => m_law18_AuthHonest_j5 l71 i996 x4 x48 e
  else
    some (.inr (.inl ()))
noncomputable def m_law18_AuthHonest (p0 : List GZone) (p1 : GQuestion) (p2 : Int) : Option Bool :=
  (m_law18_awake).bind fun x2 =>
  (m_law18_small p0).bind fun x4 =>
  (m_law18_short p1.fName 300).bind fun x12 =>
  (m_message_Query p2 (⟨x12, p1.fType, p1.fClass⟩ : GQuestion)).bind fun x14 =>
  (m_auth_Answer x4 x14).bind fun x32 =>
  (m_auth_Find x4 x12).bind fun (z51 : Int × Bool) =>
  (m_message_Matches x14 x32).bind fun x52 =>
  if x52 = true then
    if x32.fID ≠ p2 then
      (m_ref03_Check x12).bind fun x56 =>
      if x2 = true then
        if x56 = 0 then
          some false
        else
          if x32.fCode = 5 then
            some (decide (x32.fID = p2))
          else
            some false
      else
        some false
    else
      if z51.2 = true then
        if p1.fClass ≠ 1 then
          if x2 = true then
            if x32.fCode = 5 then
              some (decide (w64 ((w64 ((x32.fAnswers.length : Int) + (x32.fAuthorities.length : Int))) + (x32.fExtras.length : Int)) = 0))
            else
              some false
          else
            some false
        else
          (app 40 ([] : List GRR) x32.fAnswers).bind fun l65 =>
          (app 40 l65 x32.fAuthorities).bind fun l68 =>
          (app 40 l68 x32.fExtras).bind fun l71 =>
          (loop (fun s => m_law18_AuthHonest_s4 l71 x4 z51.1 s) 0).bind fun e => Sum.elim (fun e => m_law18_AuthHonest_j1 x32 x12 p1 x2) (fun x => some x) e
      else
        if x2 = true then
          if x32.fCode = 5 then
            some (decide (w64 ((w64 ((x32.fAnswers.length : Int) + (x32.fAuthorities.length : Int))) + (x32.fExtras.length : Int)) = 0))
          else
            some false
        else
          some false
  else
    (m_ref03_Check x12).bind fun x1602 =>
    if x2 = true then
      if x1602 = 0 then
        some false
      else
        if x32.fCode = 5 then
          some (decide (x32.fID = p2))
        else
          some false
    else
      some false
theorem c_law18_AuthHonest {w0 : World} {M : Nat → Prop} {H : List (Nat × Nat × Obj)} {R : List (Nat × Row)} {φ : World → Prop} (p0 : List GZone) (Ap0_0 : Option Addr) (cp0_0 : Nat) (psp0_0 : List GZoneP) (hcp0_0 : (DOk GZone.capP p0 psp0_0 ∧ p0.length ≤ cp0_0)) (fp0_0 : ∀ W, (Sta.mk w0 M H R φ).ok W → Cl W Ap0_0 ((p0.zip psp0_0).flatMap GZone.encP)) (fop0_0 : ∀ W, (Sta.mk w0 M H R φ).ok W → DOwn GZone.ownP p0 psp0_0 W) (p1 : GQuestion) (p2 : Int) (r : Bool) (hm : m_law18_AuthHonest p0 p1 p2 = some r) :
    Cn Try.prog 5 #[.slice Ap0_0 p0.length cp0_0, .agg #[.string p1.fName, .int .u16 p1.fType, .int .u16 p1.fClass], .int .u16 p2] ⟨w0, M, H, R, φ⟩ (fun x : Unit => .bool r) (fun x => True) (fun x => ⟨w0, M, H, R, φ⟩) := by
 unfold m_law18_AuthHonest at hm
 refine cn_intro (fn := Try.f5) (N := 231) Try.func5 rfl Try.ntmps5 rfl <| c_seq <| c_region ?_
 refine g_e rfl (e_box 100040 rfl) (fun g1 _ => ?_)
 refine g_v rfl r_assign <| g_nil <| d_then <| c_seq <| c_region ?_
 replace hm := bnd hm
 obtain ⟨x2, hx3, hm⟩ := hm
 refine g_cn ⟨w0, M, _, _, φ⟩ (fun _ h => h) Try.call7 rfl rfl (c_law18_awake  _ hx3) (fun _ _ => ?_)
 refine g_v rfl r_assign <| g_nil <| d_then <| c_seq <| c_region <| g_v rfl r_move ?_
 replace hm := bnd hm
 obtain ⟨x4, hx5, hm⟩ := hm
 refine g_cn ⟨w0, M, _, _, φ⟩ (fun _ h => h) Try.call11 rfl rfl (c_law18_small p0 Ap0_0 cp0_0 psp0_0 ⟨hcp0_0.1, hcp0_0.2⟩ (fun W hS => fp0_0 W (ok_pre (H1 := [_]) (R1 := []) hS (fun W h => h))) (fun W hS => fop0_0 W (ok_pre (H1 := [_]) (R1 := []) hS (fun W h => h))) _ hx5) (fun ⟨A6, c7, ps9⟩ hc7 => ?_)
 refine g_sta _ (fun W h => (ok_frontR (t := 2000) (t' := 100230) h rfl)) ?_
 refine g_abs (fun φ11 q11' => ?_)
 have q11 : ∀ W, φ11 W → φ W := fun W h => (q11' W h).1
 have f10 := fun (W : World) (h : φ11 W) => (q11' W h).2
 refine g_v rfl r_assign <| g_nil <| d_then <| c_seq <| c_region <| g_v rfl (r_field (n := 0) Try.underlying29 rfl Try.sizeOf9 rfl rfl) <| g_v rfl (r_load (tag := 100040) rfl rfl rfl Try.isAgg9) ?_
 replace hm := bnd hm
 obtain ⟨x12, hx13, hm⟩ := hm
 refine g_cn ⟨w0, M, _, _, φ11⟩ (fun _ h => h) Try.call8 rfl rfl (c_law18_short p1.fName 300 _ hx13) (fun _ _ => ?_)
 refine g_v rfl (r_field (n := 0) Try.underlying29 rfl Try.sizeOf9 rfl rfl) <| g_storeL (tag := 100040) rfl rfl rfl rfl Try.sizeOf9 rfl rfl <| g_nil <| d_then ?_
 refine c_flat [(2, .int .u16 p2), (4, .pointer (some ⟨g1, 0, none⟩)), (7, .bool x2), (8, .slice A6 x4.length c7)] ⟨rfl, rfl, rfl, rfl, trivial⟩ (fun u => ?_)
 refine c_sta ⟨w0, M, (100040, g1, .cells #[.string x12, .int .u16 p1.fType, .int .u16 p1.fClass] 29 (0, 0)) :: H, (100230, ⟨.slice A6 x4.length c7, 33, 2, x4.length, (x4.zip ps9).flatMap GZone.encP⟩) :: R, φ11⟩ (fun _ h => h) <| c_seq <| c_region <| g_v rfl r_move <| g_v rfl (r_loadA (tag := 100040) rfl rfl Try.isAgg29 Try.sizeOf29 rfl rfl) ?_
 replace hm := bnd hm
 obtain ⟨x14, hx15, hm⟩ := hm
 refine g_cn ⟨w0, M, _, _, φ11⟩ (fun _ h => h) Try.call13 rfl rfl (c_message_Query p2 (⟨x12, p1.fType, p1.fClass⟩ : GQuestion) _ hx15) (fun ⟨A16, c17, A19, c20, A22, c23, A25, c26⟩ ⟨hc17, hc20, hc23, hc26⟩ => ?_)
 refine g_abs (fun φ28 q28' => ?_)
 have q28 : ∀ W, φ28 W → φ11 W := fun W h => (q28' W h).1
 have f18 := fun (W : World) (h : φ28 W) => (q28' W h).2.1
 have f21 := fun (W : World) (h : φ28 W) => (q28' W h).2.2.1
 have f24 := fun (W : World) (h : φ28 W) => (q28' W h).2.2.2.1
 have f27 := fun (W : World) (h : φ28 W) => (q28' W h).2.2.2.2
 refine g_e rfl (e_alloc 100090 Try.zeroValue26) (fun g29 _ => ?_)
 refine g_storeL (tag := 100090) rfl rfl rfl rfl Try.sizeOf26 rfl rfl <| g_nil <| d_then <| c_seq <| c_region <| g_v rfl r_move <| g_v rfl (r_loadA (tag := 100090) rfl rfl Try.isAgg26 Try.sizeOf26 rfl rfl) ?_
 refine g_shut (tag := 100230) rfl (fun φ30 q30' => ?_)
 have q30 : ∀ W, φ30 W → φ28 W := fun W h => (q30' W h).1
 have f31 := fun (W : World) (h : φ30 W) => (q30' W h).2
 replace hm := bnd hm
 obtain ⟨x32, hx33, hm⟩ := hm
 refine g_cn ⟨w0, M, _, _, φ30⟩ (fun _ h => h) Try.call9 rfl rfl (c_auth_Answer x4 A6 c7 ps9 ⟨hc7.1, hc7.2⟩ (fun W h => f31 W h) (fun W h => (f10 W (q28 _ (q30 _ h)))) x14 A16 c17 hc17 (fun W hS => f18 W (q30 _ hS.now)) A19 c20 hc20 (fun W hS => f21 W (q30 _ hS.now)) A22 c23 hc23 (fun W hS => f24 W (q30 _ hS.now)) A25 c26 hc26 (fun W hS => f27 W (q30 _ hS.now)) _ hx33) (fun ⟨A34, c35, A37, c38, A40, c41, A43, c44⟩ ⟨hc35, hc38, hc41, hc44⟩ => ?_)
 refine g_abs (fun φ46 q46' => ?_)
 have q46 : ∀ W, φ46 W → φ30 W := fun W h => (q46' W h).1
 have f36 := fun (W : World) (h : φ46 W) => (q46' W h).2.1
 have f39 := fun (W : World) (h : φ46 W) => (q46' W h).2.2.1
 have f42 := fun (W : World) (h : φ46 W) => (q46' W h).2.2.2.1
 have f45 := fun (W : World) (h : φ46 W) => (q46' W h).2.2.2.2
 refine g_e rfl (e_alloc 100100 Try.zeroValue26) (fun g47 _ => ?_)
 refine g_storeL (tag := 100100) rfl rfl rfl rfl Try.sizeOf26 rfl rfl <| g_nil <| d_then ?_
 refine c_flat [(2, .int .u16 p2), (4, .pointer (some ⟨g1, 0, none⟩)), (7, .bool x2), (8, .slice A6 x4.length c7), (9, .pointer (some ⟨g29, 0, none⟩)), (10, .pointer (some ⟨g47, 0, none⟩))] ⟨rfl, rfl, rfl, rfl, rfl, rfl, trivial⟩ (fun u => ?_)
 refine c_sta ⟨w0, M, (100100, g47, .cells #[.int .u16 x32.fID, .bool x32.fResponse, .bool x32.fAuthoritative, .bool x32.fTruncated, .bool x32.fDesired, .bool x32.fAvailable, .int .i64 x32.fOpcode, .int .i64 x32.fCode, .slice A34 x32.fQuestions.length c35, .slice A37 x32.fAnswers.length c38, .slice A40 x32.fAuthorities.length c41, .slice A43 x32.fExtras.length c44] 26 (0, 0)) :: (100090, g29, .cells #[.int .u16 x14.fID, .bool x14.fResponse, .bool x14.fAuthoritative, .bool x14.fTruncated, .bool x14.fDesired, .bool x14.fAvailable, .int .i64 x14.fOpcode, .int .i64 x14.fCode, .slice A16 x14.fQuestions.length c17, .slice A19 x14.fAnswers.length c20, .slice A22 x14.fAuthorities.length c23, .slice A25 x14.fExtras.length c26] 26 (0, 0)) :: (100040, g1, .cells #[.string x12, .int .u16 p1.fType, .int .u16 p1.fClass] 29 (0, 0)) :: H, R, φ46⟩ (fun _ h => h) <| c_seq <| c_region <| g_v rfl r_move <| g_v rfl (r_field (n := 0) Try.underlying29 rfl Try.sizeOf9 rfl rfl) <| g_v rfl (r_load (tag := 100040) rfl rfl rfl Try.isAgg9) ?_
 replace hm := bnd hm
 obtain ⟨⟨x48, x49⟩, hx50, hm⟩ := hm
 refine g_cn ⟨w0, M, _, _, φ46⟩ (fun _ h => h) Try.call16 rfl rfl (c_auth_Find x4 A6 c7 ps9 ⟨hc7.1, hc7.2⟩ (fun W h => f31 W (q46 _ h)) (fun W h => (f10 W (q28 _ (q30 _ (q46 _ h))))) x12 _ hx50) (fun _ _ => ?_)
 refine g_v rfl r_move <| g_v rfl (r_extract rfl rfl) <| g_v rfl (r_extract rfl rfl) <| g_v rfl r_assign <| g_v rfl r_assign <| g_nil <| d_then ?_
 refine c_flat [(2, .int .u16 p2), (4, .pointer (some ⟨g1, 0, none⟩)), (7, .bool x2), (8, .slice A6 x4.length c7), (9, .pointer (some ⟨g29, 0, none⟩)), (10, .pointer (some ⟨g47, 0, none⟩)), (11, .int .i64 x48), (12, .bool x49)] ⟨rfl, rfl, rfl, rfl, rfl, rfl, rfl, rfl, trivial⟩ (fun u => ?_)
 refine c_seq <| c_seq <| c_region <| g_v rfl (r_loadA (tag := 100090) rfl rfl Try.isAgg26 Try.sizeOf26 rfl rfl) <| g_v rfl (r_loadA (tag := 100100) rfl rfl Try.isAgg26 Try.sizeOf26 rfl rfl) ?_
 replace hm := bnd hm
 obtain ⟨x52, hx53, hm⟩ := hm
 refine g_cn ⟨w0, M, _, _, φ46⟩ (fun _ h => h) Try.call17 rfl rfl (c_message_Matches x14 A16 c17 hc17 (fun W hS => f18 W (q30 _ (q46 _ hS.now))) A19 c20 hc20 (fun W hS => f21 W (q30 _ (q46 _ hS.now))) A22 c23 hc23 (fun W hS => f24 W (q30 _ (q46 _ hS.now))) A25 c26 hc26 (fun W hS => f27 W (q30 _ (q46 _ hS.now))) x32 A34 c35 hc35 (fun W hS => f36 W hS.now) A37 c38 hc38 (fun W hS => f39 W hS.now) A40 c41 hc41 (fun W hS => f42 W hS.now) A43 c44 hc44 (fun W hS => f45 W hS.now) _ hx53) (fun _ _ => ?_)
 refine g_v rfl (r_not rfl) <| g_v rfl r_move ?_
 refine g_if rfl rfl rfl rfl rfl (fun h54 => ?_) (fun h54 => ?_)
 ·
  have h54' : x52 = true := by revert h54; cases x52 <;> simp
  replace hm := ite_t hm h54'
  refine g_v rfl (r_field (n := 0) Try.underlying26 rfl Try.sizeOf22 rfl rfl) <| g_do rfl rfl rfl rfl rfl h54 <| g_v rfl (r_load (tag := 100100) rfl rfl rfl Try.isAgg22) <| g_do rfl rfl rfl rfl rfl h54 <| g_v rfl r_move <| g_do rfl rfl rfl rfl rfl h54 <| g_v rfl (r_neq rfl rfl) <| g_v rfl (r_pick0 rfl h54) <| g_nil <| d_then ?_
  refine c_flat [(2, .int .u16 p2), (4, .pointer (some ⟨g1, 0, none⟩)), (7, .bool x2), (8, .slice A6 x4.length c7), (10, .pointer (some ⟨g47, 0, none⟩)), (11, .int .i64 x48), (12, .bool x49), (50, .bool (decide (x32.fID ≠ p2)))] ⟨rfl, rfl, rfl, rfl, rfl, rfl, rfl, rfl, trivial⟩ (fun u => ?_)
  refine c_cond rfl (fun h55 => ?_) (fun h55 => ?_)
  ·
   replace hm := ite_t hm (of_decide_eq_true h55)
   refine c_seq <| c_region <| g_v rfl (r_field (n := 0) Try.underlying29 rfl Try.sizeOf9 rfl rfl) <| g_v rfl (r_load (tag := 100040) rfl rfl rfl Try.isAgg9) ?_
   replace hm := bnd hm
   obtain ⟨x56, hx57, hm⟩ := hm
   refine g_cn ⟨w0, M, _, _, φ46⟩ (fun _ h => h) Try.call18 rfl rfl (c_ref03_Check x12 _ hx57) (fun _ _ => ?_)
   refine g_v rfl (r_eql rfl rfl) <| g_v rfl r_assign <| g_nil <| d_then <| c_seq <| c_region <| g_v rfl r_move <| g_v rfl r_move ?_
   refine g_if rfl rfl rfl rfl rfl (fun h58 => ?_) (fun h58 => ?_)
   ·
    replace hm := ite_t hm h58
    refine g_v rfl r_move <| g_do rfl rfl rfl rfl rfl h58 <| g_v rfl (r_not rfl) <| g_v rfl (r_pick1 rfl h58) <| g_v rfl r_move ?_
    refine g_if rfl rfl rfl rfl rfl (fun h59 => ?_) (fun h59 => ?_)
    ·
     have h59' : (decide (x56 = 0)) = false := by revert h59; cases (decide (x56 = 0)) <;> simp
     replace hm := ite_f hm (of_decide_eq_false h59')
     refine g_v rfl (r_field (n := 7) Try.underlying26 rfl Try.sizeOf3 rfl rfl) <| g_do rfl rfl rfl rfl rfl h59 <| g_v rfl (r_load (tag := 100100) rfl rfl rfl Try.isAgg3) <| g_do rfl rfl rfl rfl rfl h59 <| g_v rfl (r_eql rfl rfl) <| g_v rfl (r_pick1 rfl h59) <| g_v rfl r_move ?_
     refine g_if rfl rfl rfl rfl rfl (fun h60 => ?_) (fun h60 => ?_)
     ·
      replace hm := ite_t hm (of_decide_eq_true h60)
      refine g_v rfl (r_field (n := 0) Try.underlying26 rfl Try.sizeOf22 rfl rfl) <| g_do rfl rfl rfl rfl rfl h60 <| g_v rfl (r_load (tag := 100100) rfl rfl rfl Try.isAgg22) <| g_do rfl rfl rfl rfl rfl h60 <| g_v rfl r_move <| g_do rfl rfl rfl rfl rfl h60 <| g_v rfl (r_eql rfl rfl) <| g_v rfl (r_pick1 rfl h60) <| g_v rfl r_assign <| g_nil ?_
      refine d_then ?_
      refine c_flat [(6, .bool (decide (x32.fID = p2)))] ⟨rfl, trivial⟩ (fun u => ?_)
      refine c_ret <| d_ret_then ?_
      cases hm
      exact d_retC () Try.results5 (res_tmp (res_nil rfl)) trivial (fun W h => ok_pre (H1 := [_, _, _]) (R1 := []) h (fun W hφ => (q11 _ (q28 _ (q30 _ (q46 _ hφ)))))) (.inr rfl)
     replace hm := ite_f hm (of_decide_eq_false h60)
     iterate 3 refine g_no rfl rfl rfl rfl rfl h60 ?_
     refine g_v rfl (r_pick0 rfl h60) <| g_v rfl r_assign <| g_nil <| d_then ?_
     refine c_flat [(6, .bool false)] ⟨rfl, trivial⟩ (fun u => ?_)
     refine c_ret <| d_ret_then ?_
     cases hm
     exact d_retC () Try.results5 (res_tmp (res_nil rfl)) trivial (fun W h => ok_pre (H1 := [_, _, _]) (R1 := []) h (fun W hφ => (q11 _ (q28 _ (q30 _ (q46 _ hφ)))))) (.inr rfl)
    have h59' : (decide (x56 = 0)) = true := by revert h59; cases (decide (x56 = 0)) <;> simp
    replace hm := ite_t hm (of_decide_eq_true h59')
    refine g_no rfl rfl rfl rfl rfl h59 <| g_no rfl rfl rfl rfl rfl h59 <| g_v rfl (r_pick0 rfl h59) <| g_v rfl r_move ?_
    iterate 4 refine g_no rfl rfl rfl rfl rfl rfl ?_
    refine g_v rfl (r_pick0 rfl rfl) <| g_v rfl r_assign <| g_nil <| d_then ?_
    refine c_flat [(6, .bool false)] ⟨rfl, trivial⟩ (fun u => ?_)
    refine c_ret <| d_ret_then ?_
    cases hm
    exact d_retC () Try.results5 (res_tmp (res_nil rfl)) trivial (fun W h => ok_pre (H1 := [_, _, _]) (R1 := []) h (fun W hφ => (q11 _ (q28 _ (q30 _ (q46 _ hφ)))))) (.inr rfl)
   replace hm := ite_f hm (bool_nt h58)
   refine g_no rfl rfl rfl rfl rfl h58 <| g_v rfl (r_pick0 rfl h58) <| g_v rfl r_move ?_
   iterate 3 refine g_no rfl rfl rfl rfl rfl rfl ?_
   refine g_v rfl (r_pick0 rfl rfl) <| g_v rfl r_move ?_
   iterate 4 refine g_no rfl rfl rfl rfl rfl rfl ?_
   refine g_v rfl (r_pick0 rfl rfl) <| g_v rfl r_assign <| g_nil <| d_then ?_
   refine c_flat [(6, .bool false)] ⟨rfl, trivial⟩ (fun u => ?_)
   refine c_ret <| d_ret_then ?_
   cases hm
   exact d_retC () Try.results5 (res_tmp (res_nil rfl)) trivial (fun W h => ok_pre (H1 := [_, _, _]) (R1 := []) h (fun W hφ => (q11 _ (q28 _ (q30 _ (q46 _ hφ)))))) (.inr rfl)
  replace hm := ite_f hm (of_decide_eq_false h55)
  refine c_skip <| d_then <| c_seq <| c_seq <| c_region <| g_v rfl r_move <| g_v rfl (r_not rfl) <| g_v rfl r_move ?_
  refine g_if rfl rfl rfl rfl rfl (fun h61 => ?_) (fun h61 => ?_)
  ·
   have h61' : x49 = true := by revert h61; cases x49 <;> simp
   replace hm := ite_t hm h61'
   refine g_v rfl (r_field (n := 2) Try.underlying29 rfl Try.sizeOf22 rfl rfl) <| g_do rfl rfl rfl rfl rfl h61 <| g_v rfl (r_load (tag := 100040) rfl rfl rfl Try.isAgg22) <| g_do rfl rfl rfl rfl rfl h61 <| g_v rfl (r_neq rfl rfl) <| g_v rfl (r_pick0 rfl h61) <| g_nil <| d_then ?_
   refine c_cond rfl (fun h62 => ?_) (fun h62 => ?_)
   ·
    replace hm := ite_t hm (of_decide_eq_true h62)
    refine c_seq <| c_region <| g_v rfl r_move <| g_v rfl r_move ?_
    refine g_if rfl rfl rfl rfl rfl (fun h63 => ?_) (fun h63 => ?_)
    ·
     replace hm := ite_t hm h63
     refine g_v rfl (r_field (n := 7) Try.underlying26 rfl Try.sizeOf3 rfl rfl) <| g_do rfl rfl rfl rfl rfl h63 <| g_v rfl (r_load (tag := 100100) rfl rfl rfl Try.isAgg3) <| g_do rfl rfl rfl rfl rfl h63 <| g_v rfl (r_eql rfl rfl) <| g_v rfl (r_pick1 rfl h63) <| g_v rfl r_move ?_
     refine g_if rfl rfl rfl rfl rfl (fun h64 => ?_) (fun h64 => ?_)
     ·
      replace hm := ite_t hm (of_decide_eq_true h64)
      refine g_v rfl (r_field (n := 9) Try.underlying26 rfl Try.sizeOf24 rfl rfl) <| g_do rfl rfl rfl rfl rfl h64 <| g_v rfl (r_load (tag := 100100) rfl rfl rfl Try.isAgg24) <| g_do rfl rfl rfl rfl rfl h64 <| g_v rfl (r_lenL Try.underlying24 rfl) <| g_do rfl rfl rfl rfl rfl h64 <| g_v rfl (r_field (n := 10) Try.underlying26 rfl Try.sizeOf24 rfl rfl) <| g_do rfl rfl rfl rfl rfl h64 <| g_v rfl (r_load (tag := 100100) rfl rfl rfl Try.isAgg24) <| g_do rfl rfl rfl rfl rfl h64 ?_
      refine g_v rfl (r_lenL Try.underlying24 rfl) <| g_do rfl rfl rfl rfl rfl h64 <| g_v rfl (r_add rfl rfl rfl) <| g_do rfl rfl rfl rfl rfl h64 <| g_v rfl (r_field (n := 11) Try.underlying26 rfl Try.sizeOf24 rfl rfl) <| g_do rfl rfl rfl rfl rfl h64 <| g_v rfl (r_load (tag := 100100) rfl rfl rfl Try.isAgg24) <| g_do rfl rfl rfl rfl rfl h64 <| g_v rfl (r_lenL Try.underlying24 rfl) <| g_do rfl rfl rfl rfl rfl h64 ?_
      refine g_v rfl (r_add rfl rfl rfl) <| g_do rfl rfl rfl rfl rfl h64 <| g_v rfl (r_eql rfl rfl) <| g_v rfl (r_pick1 rfl h64) <| g_v rfl r_assign <| g_nil <| d_then ?_
      refine c_flat [(6, .bool (decide (w64 ((w64 ((x32.fAnswers.length : Int) + (x32.fAuthorities.length : Int))) + (x32.fExtras.length : Int)) = 0)))] ⟨rfl, trivial⟩ (fun u => ?_)
      refine c_ret <| d_ret_then ?_
      cases hm
      exact d_retC () Try.results5 (res_tmp (res_nil rfl)) trivial (fun W h => ok_pre (H1 := [_, _, _]) (R1 := []) h (fun W hφ => (q11 _ (q28 _ (q30 _ (q46 _ hφ)))))) (.inr rfl)
     replace hm := ite_f hm (of_decide_eq_false h64)
     iterate 11 refine g_no rfl rfl rfl rfl rfl h64 ?_
     refine g_v rfl (r_pick0 rfl h64) <| g_v rfl r_assign <| g_nil <| d_then ?_
     refine c_flat [(6, .bool false)] ⟨rfl, trivial⟩ (fun u => ?_)
     refine c_ret <| d_ret_then ?_
     cases hm
     exact d_retC () Try.results5 (res_tmp (res_nil rfl)) trivial (fun W h => ok_pre (H1 := [_, _, _]) (R1 := []) h (fun W hφ => (q11 _ (q28 _ (q30 _ (q46 _ hφ)))))) (.inr rfl)
    replace hm := ite_f hm (bool_nt h63)
    refine g_no rfl rfl rfl rfl rfl h63 <| g_no rfl rfl rfl rfl rfl h63 <| g_v rfl (r_pick0 rfl h63) <| g_v rfl r_move ?_
    iterate 12 refine g_no rfl rfl rfl rfl rfl rfl ?_
    refine g_v rfl (r_pick0 rfl rfl) <| g_v rfl r_assign <| g_nil <| d_then ?_
    refine c_flat [(6, .bool false)] ⟨rfl, trivial⟩ (fun u => ?_)
    refine c_ret <| d_ret_then ?_
    cases hm
    exact d_retC () Try.results5 (res_tmp (res_nil rfl)) trivial (fun W h => ok_pre (H1 := [_, _, _]) (R1 := []) h (fun W hφ => (q11 _ (q28 _ (q30 _ (q46 _ hφ)))))) (.inr rfl)
   replace hm := ite_f hm (of_decide_eq_false h62)
   refine c_skip <| d_then <| c_seq <| c_region <| g_v rfl r_assign <| g_nil <| d_then <| c_seq <| c_region <| g_v rfl r_move ?_
   refine g_v rfl (r_field (n := 9) Try.underlying26 rfl Try.sizeOf24 rfl rfl) <| g_v rfl (r_load (tag := 100100) rfl rfl rfl Try.isAgg24) <| g_sta _ (fun W h => nilR h 11 42 5) ?_
   replace hm := bnd hm
   obtain ⟨l65, hl65, hm⟩ := hm
   refine g_e rfl (e_appR (enc := GRR.enc) (l := []) (l1 := x32.fAnswers) (l2 := l65) (tag := 11) Try.underlying24 inf42_17 rfl (by decide) (by decide) (fun _ => rfl) (fun _ => rfl) rfl (Nat.le_refl 0) rfl rfl (fun W hS => f39 W hS.now) hl65) (fun ⟨A66, c67⟩ hc67 => ?_)
   refine g_v rfl r_assign <| g_nil <| d_then ?_
   refine c_flat [(4, .pointer (some ⟨g1, 0, none⟩)), (7, .bool x2), (8, .slice A6 x4.length c7), (10, .pointer (some ⟨g47, 0, none⟩)), (11, .int .i64 x48), (14, .slice A66 l65.length c67)] ⟨rfl, rfl, rfl, rfl, rfl, rfl, trivial⟩ (fun u => ?_)
   refine c_sta ⟨w0, M, (100100, g47, .cells #[.int .u16 x32.fID, .bool x32.fResponse, .bool x32.fAuthoritative, .bool x32.fTruncated, .bool x32.fDesired, .bool x32.fAvailable, .int .i64 x32.fOpcode, .int .i64 x32.fCode, .slice A34 x32.fQuestions.length c35, .slice A37 x32.fAnswers.length c38, .slice A40 x32.fAuthorities.length c41, .slice A43 x32.fExtras.length c44] 26 (0, 0)) :: (100090, g29, .cells #[.int .u16 x14.fID, .bool x14.fResponse, .bool x14.fAuthoritative, .bool x14.fTruncated, .bool x14.fDesired, .bool x14.fAvailable, .int .i64 x14.fOpcode, .int .i64 x14.fCode, .slice A16 x14.fQuestions.length c17, .slice A19 x14.fAnswers.length c20, .slice A22 x14.fAuthorities.length c23, .slice A25 x14.fExtras.length c26] 26 (0, 0)) :: (100040, g1, .cells #[.string x12, .int .u16 p1.fType, .int .u16 p1.fClass] 29 (0, 0)) :: H, (11, ⟨.slice A66 l65.length c67, 42, 5, l65.length, l65.flatMap GRR.enc⟩) :: R, φ46⟩ (fun _ h => h) <| c_seq <| c_region <| g_v rfl r_move <| g_v rfl (r_field (n := 10) Try.underlying26 rfl Try.sizeOf24 rfl rfl) <| g_v rfl (r_load (tag := 100100) rfl rfl rfl Try.isAgg24) ?_
   replace hm := bnd hm
   obtain ⟨l68, hl68, hm⟩ := hm
   refine g_e rfl (e_appR (enc := GRR.enc) (l := l65) (l1 := x32.fAuthorities) (l2 := l68) (tag := 11) Try.underlying24 inf42_17 rfl (by decide) (by decide) (fun _ => rfl) (fun _ => rfl) rfl hc67 rfl rfl (fun W hS => f42 W hS.now) hl68) (fun ⟨A69, c70⟩ hc70 => ?_)
   refine g_v rfl r_assign <| g_nil <| d_then <| c_seq <| c_region <| g_v rfl r_move <| g_v rfl (r_field (n := 11) Try.underlying26 rfl Try.sizeOf24 rfl rfl) <| g_v rfl (r_load (tag := 100100) rfl rfl rfl Try.isAgg24) ?_
   replace hm := bnd hm
   obtain ⟨l71, hl71, hm⟩ := hm
   refine g_e rfl (e_appR (enc := GRR.enc) (l := l68) (l1 := x32.fExtras) (l2 := l71) (tag := 11) Try.underlying24 inf42_17 rfl (by decide) (by decide) (fun _ => rfl) (fun _ => rfl) rfl hc70 rfl rfl (fun W hS => f45 W hS.now) hl71) (fun ⟨A72, c73⟩ hc73 => ?_)
   refine g_v rfl r_assign <| g_nil <| d_then ?_
   refine c_flat [(4, .pointer (some ⟨g1, 0, none⟩)), (7, .bool x2), (8, .slice A6 x4.length c7), (10, .pointer (some ⟨g47, 0, none⟩)), (11, .int .i64 x48), (14, .slice A72 l71.length c73)] ⟨rfl, rfl, rfl, rfl, rfl, rfl, trivial⟩ (fun u => ?_)
   refine c_sta ⟨w0, M, (100100, g47, .cells #[.int .u16 x32.fID, .bool x32.fResponse, .bool x32.fAuthoritative, .bool x32.fTruncated, .bool x32.fDesired, .bool x32.fAvailable, .int .i64 x32.fOpcode, .int .i64 x32.fCode, .slice A34 x32.fQuestions.length c35, .slice A37 x32.fAnswers.length c38, .slice A40 x32.fAuthorities.length c41, .slice A43 x32.fExtras.length c44] 26 (0, 0)) :: (100090, g29, .cells #[.int .u16 x14.fID, .bool x14.fResponse, .bool x14.fAuthoritative, .bool x14.fTruncated, .bool x14.fDesired, .bool x14.fAvailable, .int .i64 x14.fOpcode, .int .i64 x14.fCode, .slice A16 x14.fQuestions.length c17, .slice A19 x14.fAnswers.length c20, .slice A22 x14.fAuthorities.length c23, .slice A25 x14.fExtras.length c26] 26 (0, 0)) :: (100040, g1, .cells #[.string x12, .int .u16 p1.fType, .int .u16 p1.fClass] 29 (0, 0)) :: H, (11, ⟨.slice A72 l71.length c73, 42, 5, l71.length, l71.flatMap GRR.enc⟩) :: R, φ46⟩ (fun _ h => h) <| c_seq <| c_seq <| c_region <| g_v rfl r_assign <| g_nil <| d_then ?_
   refine c_cut (ι := Unit) [4, 7, 10] (fun _ => []) (fun _ => ⟨w0, M, (100100, g47, .cells #[.int .u16 x32.fID, .bool x32.fResponse, .bool x32.fAuthoritative, .bool x32.fTruncated, .bool x32.fDesired, .bool x32.fAvailable, .int .i64 x32.fOpcode, .int .i64 x32.fCode, .slice A34 x32.fQuestions.length c35, .slice A37 x32.fAnswers.length c38, .slice A40 x32.fAuthorities.length c41, .slice A43 x32.fExtras.length c44] 26 (0, 0)) :: (100040, g1, .cells #[.string x12, .int .u16 p1.fType, .int .u16 p1.fClass] 29 (0, 0)) :: H, R, φ46⟩) (fun _ => m_law18_AuthHonest_j1 x32 x12 p1 x2 = some r) ?_ (fun _ u hm => ?_)
   ·
    refine c_block ?_
    replace hm := bnd hm
    obtain ⟨out4, hl4, hr4⟩ := hm
    obtain ⟨n1193', hl4⟩ := loop_lp hl4
    refine c_loopU (ι := Nat × Int) [4, 7, 8, 10, 11, 14, 15] (fun ⟨n1193, i996⟩ => [(15, .int .i64 i996)]) (fun ⟨n1193, i996⟩ => ⟨w0, M, (100100, g47, .cells #[.int .u16 x32.fID, .bool x32.fResponse, .bool x32.fAuthoritative, .bool x32.fTruncated, .bool x32.fDesired, .bool x32.fAvailable, .int .i64 x32.fOpcode, .int .i64 x32.fCode, .slice A34 x32.fQuestions.length c35, .slice A37 x32.fAnswers.length c38, .slice A40 x32.fAuthorities.length c41, .slice A43 x32.fExtras.length c44] 26 (0, 0)) :: (100040, g1, .cells #[.string x12, .int .u16 p1.fType, .int .u16 p1.fClass] 29 (0, 0)) :: H, (11, ⟨.slice A72 l71.length c73, 42, 5, l71.length, l71.flatMap GRR.enc⟩) :: R, φ46⟩) (fun ⟨n1193, i996⟩ => Lp (fun s => m_law18_AuthHonest_s4 l71 x4 x48 s) n1193 i996 out4) (fun ⟨n1193, i996⟩ => n1193) (n1193', 0) hl4 ⟨rfl, rfl, rfl, rfl, rfl, rfl, rfl, trivial⟩ (fun W h => (h.dropH (t := 100090) rfl).phi (fun W hφ => hφ)) (fun ⟨n1193, i996⟩ u hlp => ?_)
    obtain ⟨o4, hm, hnx4⟩ := lp_step hlp
    clear hlp
    replace hm : m_law18_AuthHonest_s4 l71 x4 x48 i996 = some o4 := hm
    unfold m_law18_AuthHonest_s4 at hm
    refine c_flat [(4, .pointer (some ⟨g1, 0, none⟩)), (7, .bool x2), (8, .slice A6 x4.length c7), (10, .pointer (some ⟨g47, 0, none⟩)), (11, .int .i64 x48), (14, .slice A72 l71.length c73), (15, .int .i64 i996)] ⟨rfl, rfl, rfl, rfl, rfl, rfl, rfl, trivial⟩ (fun u => ?_)
    refine c_sta ⟨w0, M, (100100, g47, .cells #[.int .u16 x32.fID, .bool x32.fResponse, .bool x32.fAuthoritative, .bool x32.fTruncated, .bool x32.fDesired, .bool x32.fAvailable, .int .i64 x32.fOpcode, .int .i64 x32.fCode, .slice A34 x32.fQuestions.length c35, .slice A37 x32.fAnswers.length c38, .slice A40 x32.fAuthorities.length c41, .slice A43 x32.fExtras.length c44] 26 (0, 0)) :: (100040, g1, .cells #[.string x12, .int .u16 p1.fType, .int .u16 p1.fClass] 29 (0, 0)) :: H, (11, ⟨.slice A72 l71.length c73, 42, 5, l71.length, l71.flatMap GRR.enc⟩) :: R, φ46⟩ (fun _ h => h) <| c_seq <| c_seq <| c_region <| g_v rfl r_move <| g_v rfl r_move <| g_v rfl (r_lenL Try.underlying24 rfl) <| g_v rfl (r_lss rfl rfl) <| g_nil <| d_then ?_
    refine c_cond rfl (fun h1194 => ?_) (fun h1194 => ?_)
    ·
     replace hm := ite_t hm (of_decide_eq_true h1194)
     refine c_skip <| d_then <| c_seq <| c_block <| c_seq <| c_region <| g_v rfl r_assign <| g_nil <| d_then <| c_seq ?_
     refine c_seq <| c_region <| g_v rfl r_assign <| g_nil <| d_then ?_
     refine c_cut (ι := Bool) [4, 7, 8, 10, 11, 14, 15, 16] (fun b1335 => [(16, .bool b1335)]) (fun b1335 => ⟨w0, M, (100100, g47, .cells #[.int .u16 x32.fID, .bool x32.fResponse, .bool x32.fAuthoritative, .bool x32.fTruncated, .bool x32.fDesired, .bool x32.fAvailable, .int .i64 x32.fOpcode, .int .i64 x32.fCode, .slice A34 x32.fQuestions.length c35, .slice A37 x32.fAnswers.length c38, .slice A40 x32.fAuthorities.length c41, .slice A43 x32.fExtras.length c44] 26 (0, 0)) :: (100040, g1, .cells #[.string x12, .int .u16 p1.fType, .int .u16 p1.fClass] 29 (0, 0)) :: H, (11, ⟨.slice A72 l71.length c73, 42, 5, l71.length, l71.flatMap GRR.enc⟩) :: R, φ46⟩) (fun b1335 => m_law18_AuthHonest_j5 l71 i996 x4 x48 b1335 = some o4) ?_ (fun b1335 u hm => ?_)
     ·
      refine c_block ?_
      replace hm := bnd hm
      obtain ⟨out6, hl6, hr6⟩ := hm
      obtain ⟨n1529', hl6⟩ := loop_lp hl6
      refine c_loopU (ι := Nat × Bool × Int) [4, 7, 8, 10, 11, 14, 15, 16, 17] (fun ⟨n1529, b1457, i1458⟩ => [(16, .bool b1457), (17, .int .i64 i1458)]) (fun ⟨n1529, b1457, i1458⟩ => ⟨w0, M, (100100, g47, .cells #[.int .u16 x32.fID, .bool x32.fResponse, .bool x32.fAuthoritative, .bool x32.fTruncated, .bool x32.fDesired, .bool x32.fAvailable, .int .i64 x32.fOpcode, .int .i64 x32.fCode, .slice A34 x32.fQuestions.length c35, .slice A37 x32.fAnswers.length c38, .slice A40 x32.fAuthorities.length c41, .slice A43 x32.fExtras.length c44] 26 (0, 0)) :: (100040, g1, .cells #[.string x12, .int .u16 p1.fType, .int .u16 p1.fClass] 29 (0, 0)) :: H, (11, ⟨.slice A72 l71.length c73, 42, 5, l71.length, l71.flatMap GRR.enc⟩) :: R, φ46⟩) (fun ⟨n1529, b1457, i1458⟩ => Lp (fun s => m_law18_AuthHonest_s6 x4 x48 l71 i996 s.1 s.2) n1529 (b1457, i1458) out6) (fun ⟨n1529, b1457, i1458⟩ => n1529) (n1529', false, 0) hl6 ⟨rfl, rfl, rfl, rfl, rfl, rfl, rfl, rfl, rfl, trivial⟩ (fun W h => h.phi (fun W hφ => hφ)) (fun ⟨n1529, b1457, i1458⟩ u hlp => ?_)
      obtain ⟨o6, hm, hnx6⟩ := lp_step hlp
      clear hlp
      replace hm : m_law18_AuthHonest_s6 x4 x48 l71 i996 b1457 i1458 = some o6 := hm
      unfold m_law18_AuthHonest_s6 at hm
      refine c_flat [(4, .pointer (some ⟨g1, 0, none⟩)), (7, .bool x2), (8, .slice A6 x4.length c7), (10, .pointer (some ⟨g47, 0, none⟩)), (11, .int .i64 x48), (14, .slice A72 l71.length c73), (15, .int .i64 i996), (16, .bool b1457), (17, .int .i64 i1458)] ⟨rfl, rfl, rfl, rfl, rfl, rfl, rfl, rfl, rfl, trivial⟩ (fun u => ?_)
      refine c_seq <| c_seq <| c_region ?_
      iterate 3 refine g_v rfl r_move ?_
      replace hm := bnd hm
      obtain ⟨x1530, hx1530, hm⟩ := hm
      obtain ⟨pp1534, hv1535, hz1536, hcp1537⟩ := DOk.at_ hc7.1 hx1530
      refine g_know _ (fun W hS => cl_at (p := φ30) (sz := 2) (fun _ => rfl) (by decide) (q46 _ hS.now) f31 hv1535) ?_
      rintro ⟨ad1531, hA1533, f1532⟩
      have f1538 := fun (W : World) (h : φ11 W) => (f10 W h _ hz1536)
      refine g_v rfl (r_ix Try.underlying35 Try.sizeOf33 rfl hA1533 rfl hx1530) ?_
      have f1539 := fun (W : World) (h : φ30 W) => Cl.drop (f1532 W h) 1
      refine g_v rfl (r_fieldF Try.underlying33 rfl Try.sizeOf24 rfl) <| g_v rfl (r_ld rfl Try.isAgg24 (fun W hS => Cl.head (f1539 W (q46 _ hS.now)))) <| g_v rfl (r_lenL Try.underlying24 rfl) <| g_v rfl (r_lss rfl rfl) <| g_nil <| d_then ?_
      refine c_cond rfl (fun h1540 => ?_) (fun h1540 => ?_)
      ·
       replace hm := ite_t hm (of_decide_eq_true h1540)
       refine c_skip <| d_then <| c_seq <| c_block <| ga_start (n := 17) ⟨w0, M, (100100, g47, .cells #[.int .u16 x32.fID, .bool x32.fResponse, .bool x32.fAuthoritative, .bool x32.fTruncated, .bool x32.fDesired, .bool x32.fAvailable, .int .i64 x32.fOpcode, .int .i64 x32.fCode, .slice A34 x32.fQuestions.length c35, .slice A37 x32.fAnswers.length c38, .slice A40 x32.fAuthorities.length c41, .slice A43 x32.fExtras.length c44] 26 (0, 0)) :: (100040, g1, .cells #[.string x12, .int .u16 p1.fType, .int .u16 p1.fClass] 29 (0, 0)) :: H, (11, ⟨.slice A72 l71.length c73, 42, 5, l71.length, l71.flatMap GRR.enc⟩) :: R, φ46⟩ [] #[false, false, false, false, false, false, false, false, false, false, false, false, false, false, false, false, false] (fun W h => h.phi (fun W hφ => hφ)) mixed rfl rfl <| ga_r (i := 0) (bz 17 1) rfl (by kernel_rfl) (by decide) rfl (r_move) <| ga_r (i := 1) (bz 17 3) rfl (by kernel_rfl) (by decide) rfl (r_move) ?_
       refine ga_if (t := 127) rfl (fun h1579 => ?_) (fun h1579 => ?_)
       ·
        replace hm := ite_t hm h1579
        refine ga_no (i := 2) (bz 17 7) rfl (by kernel_rfl) (fun _ _ _ _ h => h) rfl rfl rfl rfl rfl h1579 <| ga_no (i := 3) (bz 17 15) rfl (by kernel_rfl) (fun _ _ _ _ h => h) rfl rfl rfl rfl rfl h1579 <| ga_no (i := 4) (bz 17 31) rfl (by kernel_rfl) (fun _ _ _ _ h => h) rfl rfl rfl rfl rfl h1579 <| ga_no (i := 5) (bz 17 63) rfl (by kernel_rfl) (fun _ _ _ _ h => h) rfl rfl rfl rfl rfl h1579 <| ga_no (i := 6) (bz 17 127) rfl (by kernel_rfl) (fun _ _ _ _ h => h) rfl rfl rfl rfl rfl h1579 <| ga_no (i := 7) (bz 17 255) rfl (by kernel_rfl) (fun _ _ _ _ h => h) rfl rfl rfl rfl rfl h1579 <| ga_no (i := 8) (bz 17 511) rfl (by kernel_rfl) (fun _ _ _ _ h => h) rfl rfl rfl rfl rfl h1579 <| ga_no (i := 9) (bz 17 1023) rfl (by kernel_rfl) (fun _ _ _ _ h => h) rfl rfl rfl rfl rfl h1579 <| ga_no (i := 10) (bz 17 2047) rfl (by kernel_rfl) (fun _ _ _ _ h => h) rfl rfl rfl rfl rfl h1579 <| ga_no (i := 11) (bz 17 4095) rfl (by kernel_rfl) (fun _ _ _ _ h => h) rfl rfl rfl rfl rfl h1579 ?_
        refine ga_no (i := 12) (bz 17 8191) rfl (by kernel_rfl) (fun _ _ _ _ h => h) rfl rfl rfl rfl rfl h1579 <| ga_no (i := 13) (bz 17 16383) rfl (by kernel_rfl) (fun _ _ _ _ h => h) rfl rfl rfl rfl rfl h1579 <| ga_no (i := 14) (bz 17 32767) rfl (by kernel_rfl) (fun _ _ _ _ h => h) rfl rfl rfl rfl rfl h1579 <| ga_r (i := 15) (bz 17 65535) rfl (by kernel_rfl) (by decide) rfl (r_pick1 rfl h1579) <| ga_r (i := 16) (bz 17 131071) rfl (by kernel_rfl) (by decide) rfl (r_assign) <| ga_done (by kernel_rfl) <| d_normal_block <| d_then ?_
        refine c_flat [(4, .pointer (some ⟨g1, 0, none⟩)), (7, .bool x2), (8, .slice A6 x4.length c7), (10, .pointer (some ⟨g47, 0, none⟩)), (11, .int .i64 x48), (14, .slice A72 l71.length c73), (15, .int .i64 i996), (16, .bool true), (17, .int .i64 i1458)] ⟨rfl, rfl, rfl, rfl, rfl, rfl, rfl, rfl, rfl, trivial⟩ (fun u => ?_)
        refine c_region <| g_v rfl r_move <| g_v rfl (r_add rfl rfl rfl) <| g_v rfl r_assign <| g_nil ?_
        obtain ⟨n1580, hn1580, hlp⟩ := nx_inl hm hnx6
        exact d_round (n1580, true, w64 (i1458 + 1)) hlp hn1580 ⟨rfl, rfl, rfl, rfl, rfl, rfl, rfl, rfl, rfl, trivial⟩ (fun W h => h.phi (fun W hφ => hφ))
       replace hm := ite_f hm (bool_nt h1579)
       refine ga_do (i := 2) (bz 17 7) rfl (by kernel_rfl) (fun _ _ _ _ h => h) rfl rfl rfl rfl rfl h1579 (r_move) <| ga_do (i := 3) (bz 17 15) rfl (by kernel_rfl) (fun _ _ _ _ h => h) rfl rfl rfl rfl rfl h1579 (r_move) ?_
       replace hm := bnd hm
       obtain ⟨x1581, hx1581, hm⟩ := hm
       obtain ⟨pp1585, hv1586, hz1587, hcp1588⟩ := DOk.at_ hc7.1 hx1581
       refine ga_know _ (fun W hS => cl_at (p := φ30) (sz := 2) (fun _ => rfl) (by decide) (q46 _ hS.now) f31 hv1586) ?_
       rintro ⟨ad1582, hA1584, f1583⟩
       have f1589 := fun (W : World) (h : φ11 W) => (f10 W h _ hz1587)
       refine ga_do (i := 4) (bz 17 31) rfl (by kernel_rfl) (fun _ _ _ _ h => h) rfl rfl rfl rfl rfl h1579 (r_ix Try.underlying35 Try.sizeOf33 rfl hA1584 rfl hx1581) ?_
       have f1590 := fun (W : World) (h : φ30 W) => Cl.drop (f1583 W h) 1
       refine ga_do (i := 5) (bz 17 63) rfl (by kernel_rfl) (fun _ _ _ _ h => h) rfl rfl rfl rfl rfl h1579 (r_fieldF Try.underlying33 rfl Try.sizeOf24 rfl) <| ga_do (i := 6) (bz 17 127) rfl (by kernel_rfl) (fun _ _ _ _ h => h) rfl rfl rfl rfl rfl h1579 (r_ld rfl Try.isAgg24 (fun W hS => Cl.head (f1590 W (q46 _ hS.now)))) <| ga_do (i := 7) (bz 17 255) rfl (by kernel_rfl) (fun _ _ _ _ h => h) rfl rfl rfl rfl rfl h1579 (r_move) ?_
       replace hm := bnd hm
       obtain ⟨x1591, hx1591, hm⟩ := hm
       refine ga_know _ (fun W hS => cl_at (p := φ11) (sz := 5) (fun _ => rfl) (by decide) (q28 _ (q30 _ (q46 _ hS.now))) f1589 hx1591) ?_
       rintro ⟨ad1592, hA1594, f1593⟩
       refine ga_do (i := 8) (bz 17 511) rfl (by kernel_rfl) (fun _ _ _ _ h => h) rfl rfl rfl rfl rfl h1579 (r_ix Try.underlying24 Try.sizeOf42 rfl hA1594 rfl hx1591) <| ga_do (i := 9) (bz 17 1023) rfl (by kernel_rfl) (fun _ _ _ _ h => h) rfl rfl rfl rfl rfl h1579 (r_ldA rfl Try.isAgg42 Try.sizeOf42 (fun W hS => (f1593 W (q28 _ (q30 _ (q46 _ hS.now)))).take 5) rfl) <| ga_do (i := 10) (bz 17 2047) rfl (by kernel_rfl) (fun _ _ _ _ h => h) rfl rfl rfl rfl rfl h1579 (r_move) <| ga_rG (i := 11) (bz 17 4095) rfl (by kernel_rfl) (by decide) rfl rfl rfl rfl rfl h1579 (r_move) ?_
       replace hm := bnd hm
       obtain ⟨x1595, hx1595, hm⟩ := hm
       refine ga_know _ (fun W hS => cl_at (p := (Sta.ok ⟨w0, M, (100100, g47, .cells #[.int .u16 x32.fID, .bool x32.fResponse, .bool x32.fAuthoritative, .bool x32.fTruncated, .bool x32.fDesired, .bool x32.fAvailable, .int .i64 x32.fOpcode, .int .i64 x32.fCode, .slice A34 x32.fQuestions.length c35, .slice A37 x32.fAnswers.length c38, .slice A40 x32.fAuthorities.length c41, .slice A43 x32.fExtras.length c44] 26 (0, 0)) :: (100040, g1, .cells #[.string x12, .int .u16 p1.fType, .int .u16 p1.fClass] 29 (0, 0)) :: H, (11, ⟨.slice A72 l71.length c73, 42, 5, l71.length, l71.flatMap GRR.enc⟩) :: R, φ46⟩)) (sz := 5) (fun _ => rfl) (by decide) hS (fun W hS => rowCl (S := ⟨w0, M, (100100, g47, .cells #[.int .u16 x32.fID, .bool x32.fResponse, .bool x32.fAuthoritative, .bool x32.fTruncated, .bool x32.fDesired, .bool x32.fAvailable, .int .i64 x32.fOpcode, .int .i64 x32.fCode, .slice A34 x32.fQuestions.length c35, .slice A37 x32.fAnswers.length c38, .slice A40 x32.fAuthorities.length c41, .slice A43 x32.fExtras.length c44] 26 (0, 0)) :: (100040, g1, .cells #[.string x12, .int .u16 p1.fType, .int .u16 p1.fClass] 29 (0, 0)) :: H, (11, ⟨.slice A72 l71.length c73, 42, 5, l71.length, l71.flatMap GRR.enc⟩) :: R, φ46⟩) (tag := 11) rfl W hS) hx1595) ?_
       rintro ⟨ad1596, hA1598, f1597⟩
       refine ga_rG (i := 12) (bz 17 8191) rfl (by kernel_rfl) (by decide) rfl rfl rfl rfl rfl h1579 (r_ix Try.underlying24 Try.sizeOf42 rfl hA1598 rfl hx1595) <| ga_rG (i := 13) (bz 17 16383) rfl (by kernel_rfl) (by decide) rfl rfl rfl rfl rfl h1579 (r_ldA rfl Try.isAgg42 Try.sizeOf42 (fun W hS => (f1597 W hS).take 5) rfl) <| ga_rG (i := 14) (bz 17 32767) rfl (by kernel_rfl) (by decide) rfl rfl rfl rfl rfl h1579 (r_eqlA rfl rfl eqg42 (eqq42 x1591 x1595)) <| ga_r (i := 15) (bz 17 65535) rfl (by kernel_rfl) (by decide) rfl (r_pick0 rfl h1579) <| ga_r (i := 16) (bz 17 131071) rfl (by kernel_rfl) (by decide) rfl (r_assign) <| ga_done (by kernel_rfl) <| d_normal_block <| d_then ?_
       refine c_flat [(4, .pointer (some ⟨g1, 0, none⟩)), (7, .bool x2), (8, .slice A6 x4.length c7), (10, .pointer (some ⟨g47, 0, none⟩)), (11, .int .i64 x48), (14, .slice A72 l71.length c73), (15, .int .i64 i996), (16, .bool (decide (x1591 = x1595))), (17, .int .i64 i1458)] ⟨rfl, rfl, rfl, rfl, rfl, rfl, rfl, rfl, rfl, trivial⟩ (fun u => ?_)
       refine c_region <| g_v rfl r_move <| g_v rfl (r_add rfl rfl rfl) <| g_v rfl r_assign <| g_nil ?_
       obtain ⟨n1599, hn1599, hlp⟩ := nx_inl hm hnx6
       exact d_round (n1599, decide (x1591 = x1595), w64 (i1458 + 1)) hlp hn1599 ⟨rfl, rfl, rfl, rfl, rfl, rfl, rfl, rfl, rfl, trivial⟩ (fun W h => h.phi (fun W hφ => hφ))
      replace hm := ite_f hm (of_decide_eq_false h1540)
      refine c_exit <| d_exit_then <| d_exit_then <| d_exit_block ?_
      replace hm := nx_out (C := (fun e : Bool => m_law18_AuthHonest_j5 l71 i996 x4 x48 e = some o4)) hm hnx6 hr6
      exact d_round b1457 hm Nat.zero_lt_one ⟨rfl, rfl, rfl, rfl, rfl, rfl, rfl, rfl, trivial⟩ (fun W h => h.phi (fun W hφ => hφ))
     unfold m_law18_AuthHonest_j5 at hm
     refine d_flat [(4, .pointer (some ⟨g1, 0, none⟩)), (7, .bool x2), (8, .slice A6 x4.length c7), (10, .pointer (some ⟨g47, 0, none⟩)), (11, .int .i64 x48), (14, .slice A72 l71.length c73), (15, .int .i64 i996), (16, .bool b1335)] ⟨rfl, rfl, rfl, rfl, rfl, rfl, rfl, rfl, trivial⟩ (fun u => ?_)
     refine d_then <| c_seq <| ga_start (n := 12) ⟨w0, M, (100100, g47, .cells #[.int .u16 x32.fID, .bool x32.fResponse, .bool x32.fAuthoritative, .bool x32.fTruncated, .bool x32.fDesired, .bool x32.fAvailable, .int .i64 x32.fOpcode, .int .i64 x32.fCode, .slice A34 x32.fQuestions.length c35, .slice A37 x32.fAnswers.length c38, .slice A40 x32.fAuthorities.length c41, .slice A43 x32.fExtras.length c44] 26 (0, 0)) :: (100040, g1, .cells #[.string x12, .int .u16 p1.fType, .int .u16 p1.fClass] 29 (0, 0)) :: H, (11, ⟨.slice A72 l71.length c73, 42, 5, l71.length, l71.flatMap GRR.enc⟩) :: R, φ46⟩ [] #[false, false, false, false, false, false, false, false, false, false, false, false] (fun W h => h.phi (fun W hφ => hφ)) mixed rfl rfl <| ga_v (i := 0) (bz 12 1) rfl (by kernel_rfl) (fun _ _ _ _ h => h) rfl (r_move) <| ga_v (i := 1) (bz 12 3) rfl (by kernel_rfl) (fun _ _ _ _ h => h) rfl (r_move) ?_
     replace hm := bnd hm
     obtain ⟨x1370, hx1370, hm⟩ := hm
     refine ga_know _ (fun W hS => cl_at (p := (Sta.ok ⟨w0, M, (100100, g47, .cells #[.int .u16 x32.fID, .bool x32.fResponse, .bool x32.fAuthoritative, .bool x32.fTruncated, .bool x32.fDesired, .bool x32.fAvailable, .int .i64 x32.fOpcode, .int .i64 x32.fCode, .slice A34 x32.fQuestions.length c35, .slice A37 x32.fAnswers.length c38, .slice A40 x32.fAuthorities.length c41, .slice A43 x32.fExtras.length c44] 26 (0, 0)) :: (100040, g1, .cells #[.string x12, .int .u16 p1.fType, .int .u16 p1.fClass] 29 (0, 0)) :: H, (11, ⟨.slice A72 l71.length c73, 42, 5, l71.length, l71.flatMap GRR.enc⟩) :: R, φ46⟩)) (sz := 5) (fun _ => rfl) (by decide) (hS.phi (fun W hφ => hφ)) (fun W hS => rowCl (S := ⟨w0, M, (100100, g47, .cells #[.int .u16 x32.fID, .bool x32.fResponse, .bool x32.fAuthoritative, .bool x32.fTruncated, .bool x32.fDesired, .bool x32.fAvailable, .int .i64 x32.fOpcode, .int .i64 x32.fCode, .slice A34 x32.fQuestions.length c35, .slice A37 x32.fAnswers.length c38, .slice A40 x32.fAuthorities.length c41, .slice A43 x32.fExtras.length c44] 26 (0, 0)) :: (100040, g1, .cells #[.string x12, .int .u16 p1.fType, .int .u16 p1.fClass] 29 (0, 0)) :: H, (11, ⟨.slice A72 l71.length c73, 42, 5, l71.length, l71.flatMap GRR.enc⟩) :: R, φ46⟩) (tag := 11) rfl W hS) hx1370) ?_
     rintro ⟨ad1371, hA1373, f1372⟩
     refine ga_v (i := 2) (bz 12 7) rfl (by kernel_rfl) (fun _ _ _ _ h => h) rfl (r_ix Try.underlying24 Try.sizeOf42 rfl hA1373 rfl hx1370) ?_
     have f1374 := fun (W : World) (h : (Sta.ok ⟨w0, M, (100100, g47, .cells #[.int .u16 x32.fID, .bool x32.fResponse, .bool x32.fAuthoritative, .bool x32.fTruncated, .bool x32.fDesired, .bool x32.fAvailable, .int .i64 x32.fOpcode, .int .i64 x32.fCode, .slice A34 x32.fQuestions.length c35, .slice A37 x32.fAnswers.length c38, .slice A40 x32.fAuthorities.length c41, .slice A43 x32.fExtras.length c44] 26 (0, 0)) :: (100040, g1, .cells #[.string x12, .int .u16 p1.fType, .int .u16 p1.fClass] 29 (0, 0)) :: H, (11, ⟨.slice A72 l71.length c73, 42, 5, l71.length, l71.flatMap GRR.enc⟩) :: R, φ46⟩) W) => Cl.drop (f1372 W h) 0
     refine ga_v (i := 3) (bz 12 15) rfl (by kernel_rfl) (fun _ _ _ _ h => h) rfl (r_fieldF Try.underlying42 rfl Try.sizeOf9 rfl) <| ga_v (i := 4) (bz 12 31) rfl (by kernel_rfl) (fun _ _ _ _ h => h) rfl (r_ld rfl Try.isAgg9 (fun W hS => Cl.head (f1374 W hS))) <| ga_v (i := 5) (bz 12 63) rfl (by kernel_rfl) (fun _ _ _ _ h => h) rfl (r_move) <| ga_r (i := 6) (bz 12 127) rfl (by kernel_rfl) (by decide) rfl (r_move) ?_
     replace hm := bnd hm
     obtain ⟨x1375, hx1375, hm⟩ := hm
     obtain ⟨pp1379, hv1380, hz1381, hcp1382⟩ := DOk.at_ hc7.1 hx1375
     refine ga_know _ (fun W hS => cl_at (p := φ30) (sz := 2) (fun _ => rfl) (by decide) (q46 _ hS.now) f31 hv1380) ?_
     rintro ⟨ad1376, hA1378, f1377⟩
     have f1383 := fun (W : World) (h : φ11 W) => (f10 W h _ hz1381)
     refine ga_r (i := 7) (bz 12 255) rfl (by kernel_rfl) (by decide) rfl (r_ix Try.underlying35 Try.sizeOf33 rfl hA1378 rfl hx1375) ?_
     have f1384 := fun (W : World) (h : φ30 W) => Cl.drop (f1377 W h) 0
     refine ga_r (i := 8) (bz 12 511) rfl (by kernel_rfl) (by decide) rfl (r_fieldF Try.underlying33 rfl Try.sizeOf9 rfl) <| ga_r (i := 9) (bz 12 1023) rfl (by kernel_rfl) (by decide) rfl (r_ld rfl Try.isAgg9 (fun W hS => Cl.head (f1384 W (q46 _ hS.now)))) ?_
     replace hm := bnd hm
     obtain ⟨x1385, hx1386, hm⟩ := hm
     refine ga_cn (first := #[]) (i := 10) (bz 12 2047) rfl (by kernel_rfl) (by decide)  ⟨w0, M, _, _, φ46⟩ (fun _ h => h) Try.call19 rfl rfl rfl (c_ref03_Under x1370.fName x1375.fApex _ hx1386) (fun _ W _ h => h.phi (fun W hφ => hφ)) (fun _ _ => ?_)
     refine ga_r (i := 11) (bz 12 4095) rfl (by kernel_rfl) (by decide) rfl (r_assign) <| ga_done (by kernel_rfl) <| d_then ?_
     refine c_flat [(4, .pointer (some ⟨g1, 0, none⟩)), (7, .bool x2), (8, .slice A6 x4.length c7), (10, .pointer (some ⟨g47, 0, none⟩)), (11, .int .i64 x48), (14, .slice A72 l71.length c73), (15, .int .i64 i996), (16, .bool b1335), (18, .bool x1385)] ⟨rfl, rfl, rfl, rfl, rfl, rfl, rfl, rfl, rfl, trivial⟩ (fun u => ?_)
     refine c_seq <| c_region <| g_v rfl r_move <| g_v rfl (r_not rfl) <| g_v rfl r_move ?_
     refine g_if rfl rfl rfl rfl rfl (fun h1387 => ?_) (fun h1387 => ?_)
     ·
      have h1387' : b1335 = true := by revert h1387; cases b1335 <;> simp
      replace hm := ite_t hm h1387'
      refine g_v rfl r_move <| g_do rfl rfl rfl rfl rfl h1387 <| g_v rfl (r_not rfl) <| g_v rfl (r_pick0 rfl h1387) <| g_nil <| d_then ?_
      refine c_cond rfl (fun h1388 => ?_) (fun h1388 => ?_)
      ·
       have h1388' : x1385 = false := by revert h1388; cases x1385 <;> simp
       replace hm := ite_f hm (bool_nt h1388')
       refine c_seq <| c_region <| g_v rfl r_assign <| g_nil <| d_then <| c_ret <| d_ret_block <| d_ret_then <| d_ret_then <| d_ret_block ?_
       refine d_ret_then <| d_ret_then ?_
       replace hm := nx_out (C := (fun e : Unit ⊕ Bool => Sum.elim (fun e => m_law18_AuthHonest_j1 x32 x12 p1 x2) (fun x => some x) e = some r)) hm hnx4 hr4
       replace hm : some false = some r := hm
       cases hm
       exact d_retC () Try.results5 (res_tmp (res_nil rfl)) trivial (fun W h => ok_pre (H1 := [_, _]) (R1 := [_]) h (fun W hφ => (q11 _ (q28 _ (q30 _ (q46 _ hφ)))))) (.inr rfl)
      have h1388' : x1385 = true := by revert h1388; cases x1385 <;> simp
      replace hm := ite_t hm h1388'
      refine c_skip <| d_normal_block <| d_then <| c_region <| g_v rfl r_move <| g_v rfl (r_add rfl rfl rfl) <| g_v rfl r_assign <| g_nil ?_
      obtain ⟨n1389, hn1389, hlp⟩ := nx_inl hm hnx4
      exact d_round (n1389, w64 (i996 + 1)) hlp hn1389 ⟨rfl, rfl, rfl, rfl, rfl, rfl, rfl, trivial⟩ (fun W h => h.phi (fun W hφ => hφ))
     have h1387' : b1335 = false := by revert h1387; cases b1335 <;> simp
     replace hm := ite_f hm (bool_nt h1387')
     refine g_no rfl rfl rfl rfl rfl h1387 <| g_v rfl (r_pick1 rfl h1387) <| g_nil <| d_then <| c_cond1 rfl rfl <| c_seq <| c_region <| g_v rfl r_assign <| g_nil <| d_then ?_
     refine c_ret <| d_ret_block <| d_ret_then <| d_ret_then <| d_ret_block <| d_ret_then <| d_ret_then ?_
     replace hm := nx_out (C := (fun e : Unit ⊕ Bool => Sum.elim (fun e => m_law18_AuthHonest_j1 x32 x12 p1 x2) (fun x => some x) e = some r)) hm hnx4 hr4
     replace hm : some false = some r := hm
     cases hm
     exact d_retC () Try.results5 (res_tmp (res_nil rfl)) trivial (fun W h => ok_pre (H1 := [_, _]) (R1 := [_]) h (fun W hφ => (q11 _ (q28 _ (q30 _ (q46 _ hφ)))))) (.inr rfl)
    replace hm := ite_f hm (of_decide_eq_false h1194)
    refine c_exit <| d_exit_then <| d_exit_then <| d_exit_block ?_
    replace hm := nx_out (C := (fun e : Unit ⊕ Bool => Sum.elim (fun e => m_law18_AuthHonest_j1 x32 x12 p1 x2) (fun x => some x) e = some r)) hm hnx4 hr4
    exact d_round () hm Nat.zero_lt_one ⟨rfl, rfl, rfl, trivial⟩ (fun W h => (h.dropR (t := 11) rfl).phi (fun W hφ => hφ))
   unfold m_law18_AuthHonest_j1 at hm
   refine d_flat [(4, .pointer (some ⟨g1, 0, none⟩)), (7, .bool x2), (10, .pointer (some ⟨g47, 0, none⟩))] ⟨rfl, rfl, rfl, trivial⟩ (fun u => ?_)
   refine d_sta ⟨w0, M, (100100, g47, .cells #[.int .u16 x32.fID, .bool x32.fResponse, .bool x32.fAuthoritative, .bool x32.fTruncated, .bool x32.fDesired, .bool x32.fAvailable, .int .i64 x32.fOpcode, .int .i64 x32.fCode, .slice A34 x32.fQuestions.length c35, .slice A37 x32.fAnswers.length c38, .slice A40 x32.fAuthorities.length c41, .slice A43 x32.fExtras.length c44] 26 (0, 0)) :: (100040, g1, .cells #[.string x12, .int .u16 p1.fType, .int .u16 p1.fClass] 29 (0, 0)) :: H, R, φ46⟩ (fun _ h => h) <| d_then <| c_seq <| c_seq <| c_region <| g_v rfl r_assign <| g_nil <| d_then ?_
   refine c_cut (ι := Unit) [7, 10] (fun _ => []) (fun _ => ⟨w0, M, (100100, g47, .cells #[.int .u16 x32.fID, .bool x32.fResponse, .bool x32.fAuthoritative, .bool x32.fTruncated, .bool x32.fDesired, .bool x32.fAvailable, .int .i64 x32.fOpcode, .int .i64 x32.fCode, .slice A34 x32.fQuestions.length c35, .slice A37 x32.fAnswers.length c38, .slice A40 x32.fAuthorities.length c41, .slice A43 x32.fExtras.length c44] 26 (0, 0)) :: H, R, φ46⟩) (fun _ => m_law18_AuthHonest_j2 x2 x32 = some r) ?_ (fun _ u hm => ?_)
   ·
    refine c_block ?_
    replace hm := bnd hm
    obtain ⟨out3, hl3, hr3⟩ := hm
    obtain ⟨n734', hl3⟩ := loop_lp hl3
    refine c_loopU (ι := Nat × Int) [4, 7, 10, 19] (fun ⟨n734, i669⟩ => [(19, .int .i64 i669)]) (fun ⟨n734, i669⟩ => ⟨w0, M, (100100, g47, .cells #[.int .u16 x32.fID, .bool x32.fResponse, .bool x32.fAuthoritative, .bool x32.fTruncated, .bool x32.fDesired, .bool x32.fAvailable, .int .i64 x32.fOpcode, .int .i64 x32.fCode, .slice A34 x32.fQuestions.length c35, .slice A37 x32.fAnswers.length c38, .slice A40 x32.fAuthorities.length c41, .slice A43 x32.fExtras.length c44] 26 (0, 0)) :: (100040, g1, .cells #[.string x12, .int .u16 p1.fType, .int .u16 p1.fClass] 29 (0, 0)) :: H, R, φ46⟩) (fun ⟨n734, i669⟩ => Lp (fun s => m_law18_AuthHonest_s3 x32 x12 p1 s) n734 i669 out3) (fun ⟨n734, i669⟩ => n734) (n734', 0) hl3 ⟨rfl, rfl, rfl, rfl, trivial⟩ (fun W h => h.phi (fun W hφ => hφ)) (fun ⟨n734, i669⟩ u hlp => ?_)
    obtain ⟨o3, hm, hnx3⟩ := lp_step hlp
    clear hlp
    replace hm : m_law18_AuthHonest_s3 x32 x12 p1 i669 = some o3 := hm
    unfold m_law18_AuthHonest_s3 at hm
    refine c_flat [(4, .pointer (some ⟨g1, 0, none⟩)), (7, .bool x2), (10, .pointer (some ⟨g47, 0, none⟩)), (19, .int .i64 i669)] ⟨rfl, rfl, rfl, rfl, trivial⟩ (fun u => ?_)
    refine c_seq <| c_seq <| c_region <| g_v rfl r_move <| g_v rfl (r_field (n := 9) Try.underlying26 rfl Try.sizeOf24 rfl rfl) <| g_v rfl (r_load (tag := 100100) rfl rfl rfl Try.isAgg24) <| g_v rfl (r_lenL Try.underlying24 rfl) <| g_v rfl (r_lss rfl rfl) <| g_nil <| d_then ?_
    refine c_cond rfl (fun h735 => ?_) (fun h735 => ?_)
    ·
     replace hm := ite_t hm (of_decide_eq_true h735)
     refine c_skip <| d_then <| c_seq <| c_block <| c_seq <| ga_start (n := 10) ⟨w0, M, (100100, g47, .cells #[.int .u16 x32.fID, .bool x32.fResponse, .bool x32.fAuthoritative, .bool x32.fTruncated, .bool x32.fDesired, .bool x32.fAvailable, .int .i64 x32.fOpcode, .int .i64 x32.fCode, .slice A34 x32.fQuestions.length c35, .slice A37 x32.fAnswers.length c38, .slice A40 x32.fAuthorities.length c41, .slice A43 x32.fExtras.length c44] 26 (0, 0)) :: (100040, g1, .cells #[.string x12, .int .u16 p1.fType, .int .u16 p1.fClass] 29 (0, 0)) :: H, R, φ46⟩ [] #[false, false, false, false, false, false, false, false, false, false] (fun W h => h.phi (fun W hφ => hφ)) mixed rfl rfl <| ga_v (i := 0) (bz 10 1) rfl (by kernel_rfl) (fun _ _ _ _ h => h) rfl (r_field (n := 9) Try.underlying26 rfl Try.sizeOf24 rfl rfl) <| ga_v (i := 1) (bz 10 3) rfl (by kernel_rfl) (fun _ _ _ _ h => h) rfl (r_load (tag := 100100) rfl rfl rfl Try.isAgg24) <| ga_v (i := 2) (bz 10 7) rfl (by kernel_rfl) (fun _ _ _ _ h => h) rfl (r_move) ?_
     replace hm := bnd hm
     obtain ⟨x750, hx750, hm⟩ := hm
     refine ga_know _ (fun W hS => cl_at (p := φ46) (sz := 5) (fun _ => rfl) (by decide) hS.now f39 hx750) ?_
     rintro ⟨ad751, hA753, f752⟩
     refine ga_v (i := 3) (bz 10 15) rfl (by kernel_rfl) (fun _ _ _ _ h => h) rfl (r_ix Try.underlying24 Try.sizeOf42 rfl hA753 rfl hx750) ?_
     have f754 := fun (W : World) (h : φ46 W) => Cl.drop (f752 W h) 0
     refine ga_v (i := 4) (bz 10 31) rfl (by kernel_rfl) (fun _ _ _ _ h => h) rfl (r_fieldF Try.underlying42 rfl Try.sizeOf9 rfl) <| ga_v (i := 5) (bz 10 63) rfl (by kernel_rfl) (fun _ _ _ _ h => h) rfl (r_ld rfl Try.isAgg9 (fun W hS => Cl.head (f754 W hS.now))) <| ga_r (i := 6) (bz 10 127) rfl (by kernel_rfl) (by decide) rfl (r_field (n := 0) Try.underlying29 rfl Try.sizeOf9 rfl rfl) <| ga_r (i := 7) (bz 10 255) rfl (by kernel_rfl) (by decide) rfl (r_load (tag := 100040) rfl rfl rfl Try.isAgg9) ?_
     replace hm := bnd hm
     obtain ⟨x755, hx756, hm⟩ := hm
     refine ga_cn (first := #[]) (i := 8) (bz 10 511) rfl (by kernel_rfl) (by decide)  ⟨w0, M, _, _, φ46⟩ (fun _ h => h) Try.call15 rfl rfl rfl (c_ref03_Same x750.fName x12 _ hx756) (fun _ W _ h => h.phi (fun W hφ => hφ)) (fun _ _ => ?_)
     refine ga_r (i := 9) (bz 10 1023) rfl (by kernel_rfl) (by decide) rfl (r_assign) <| ga_done (by kernel_rfl) <| d_then ?_
     refine c_flat [(4, .pointer (some ⟨g1, 0, none⟩)), (7, .bool x2), (10, .pointer (some ⟨g47, 0, none⟩)), (19, .int .i64 i669), (20, .bool x755)] ⟨rfl, rfl, rfl, rfl, rfl, trivial⟩ (fun u => ?_)
     refine c_seq <| ga_start (n := 27) ⟨w0, M, (100100, g47, .cells #[.int .u16 x32.fID, .bool x32.fResponse, .bool x32.fAuthoritative, .bool x32.fTruncated, .bool x32.fDesired, .bool x32.fAvailable, .int .i64 x32.fOpcode, .int .i64 x32.fCode, .slice A34 x32.fQuestions.length c35, .slice A37 x32.fAnswers.length c38, .slice A40 x32.fAuthorities.length c41, .slice A43 x32.fExtras.length c44] 26 (0, 0)) :: (100040, g1, .cells #[.string x12, .int .u16 p1.fType, .int .u16 p1.fClass] 29 (0, 0)) :: H, R, φ46⟩ [] #[false, false, false, false, false, false, false, false, false, false, false, false, false, false, false, false, false, false, false, false, false, false, false, false, false, false, false] (fun W h => h.phi (fun W hφ => hφ)) mixed rfl rfl <| ga_r (i := 0) (bz 27 1) rfl (by kernel_rfl) (by decide) rfl (r_move) <| ga_r (i := 1) (bz 27 3) rfl (by kernel_rfl) (by decide) rfl (r_not rfl) <| ga_r (i := 2) (bz 27 7) rfl (by kernel_rfl) (by decide) rfl (r_move) ?_
     refine ga_if (t := 177) rfl (fun h783 => ?_) (fun h783 => ?_)
     ·
      have h783' : x755 = false := by revert h783; cases x755 <;> simp
      replace hm := ite_f hm (bool_nt h783')
      refine ga_no (i := 3) (bz 27 15) rfl (by kernel_rfl) (fun _ _ _ _ h => h) rfl rfl rfl rfl rfl h783 <| ga_no (i := 4) (bz 27 31) rfl (by kernel_rfl) (fun _ _ _ _ h => h) rfl rfl rfl rfl rfl h783 <| ga_no (i := 5) (bz 27 63) rfl (by kernel_rfl) (fun _ _ _ _ h => h) rfl rfl rfl rfl rfl h783 <| ga_no (i := 6) (bz 27 127) rfl (by kernel_rfl) (fun _ _ _ _ h => h) rfl rfl rfl rfl rfl h783 <| ga_no (i := 7) (bz 27 255) rfl (by kernel_rfl) (fun _ _ _ _ h => h) rfl rfl rfl rfl rfl h783 <| ga_no (i := 8) (bz 27 511) rfl (by kernel_rfl) (fun _ _ _ _ h => h) rfl rfl rfl rfl rfl h783 <| ga_no (i := 9) (bz 27 1023) rfl (by kernel_rfl) (fun _ _ _ _ h => h) rfl rfl rfl rfl rfl h783 <| ga_no (i := 10) (bz 27 2047) rfl (by kernel_rfl) (fun _ _ _ _ h => h) rfl rfl rfl rfl rfl h783 <| ga_no (i := 11) (bz 27 4095) rfl (by kernel_rfl) (fun _ _ _ _ h => h) rfl rfl rfl rfl rfl h783 <| ga_no (i := 12) (bz 27 8191) rfl (by kernel_rfl) (fun _ _ _ _ h => h) rfl rfl rfl rfl rfl h783 ?_
      refine ga_nu (i := 13) (bz 27 16383) rfl (by kernel_rfl) (fun _ _ _ _ h => h) rfl rfl rfl rfl rfl <| ga_nu (i := 14) (bz 27 32767) rfl (by kernel_rfl) (fun _ _ _ _ h => h) rfl rfl rfl rfl rfl <| ga_nu (i := 15) (bz 27 65535) rfl (by kernel_rfl) (fun _ _ _ _ h => h) rfl rfl rfl rfl rfl <| ga_nu (i := 16) (bz 27 131071) rfl (by kernel_rfl) (fun _ _ _ _ h => h) rfl rfl rfl rfl rfl <| ga_nu (i := 17) (bz 27 262143) rfl (by kernel_rfl) (fun _ _ _ _ h => h) rfl rfl rfl rfl rfl <| ga_nu (i := 18) (bz 27 524287) rfl (by kernel_rfl) (fun _ _ _ _ h => h) rfl rfl rfl rfl rfl <| ga_nu (i := 19) (bz 27 1048575) rfl (by kernel_rfl) (fun _ _ _ _ h => h) rfl rfl rfl rfl rfl <| ga_no (i := 20) (bz 27 2097151) rfl (by kernel_rfl) (fun _ _ _ _ h => h) rfl rfl rfl rfl rfl h783 <| ga_r (i := 21) (bz 27 4194303) rfl (by kernel_rfl) (by decide) rfl (r_pick1 rfl h783) <| ga_r (i := 22) (bz 27 8388607) rfl (by kernel_rfl) (by decide) rfl (r_move) ?_
      refine ga_no (i := 23) (bz 27 16777215) rfl (by kernel_rfl) (fun _ _ _ _ h => h) rfl rfl rfl rfl rfl rfl <| ga_no (i := 24) (bz 27 33554431) rfl (by kernel_rfl) (fun _ _ _ _ h => h) rfl rfl rfl rfl rfl rfl <| ga_no (i := 25) (bz 27 67108863) rfl (by kernel_rfl) (fun _ _ _ _ h => h) rfl rfl rfl rfl rfl rfl <| ga_r (i := 26) (bz 27 134217727) rfl (by kernel_rfl) (by decide) rfl (r_pick1 rfl rfl) <| ga_done (by kernel_rfl) <| d_then <| c_cond1 rfl rfl <| c_seq <| c_region <| g_v rfl r_assign ?_
      refine g_nil <| d_then <| c_ret <| d_ret_block <| d_ret_then <| d_ret_then <| d_ret_block <| d_ret_then <| d_ret_then ?_
      replace hm := nx_out (C := (fun e : Unit ⊕ Bool => Sum.elim (fun e => m_law18_AuthHonest_j2 x2 x32) (fun x => some x) e = some r)) hm hnx3 hr3
      replace hm : some false = some r := hm
      cases hm
      exact d_retC () Try.results5 (res_tmp (res_nil rfl)) trivial (fun W h => ok_pre (H1 := [_, _]) (R1 := []) h (fun W hφ => (q11 _ (q28 _ (q30 _ (q46 _ hφ)))))) (.inr rfl)
     have h783' : x755 = true := by revert h783; cases x755 <;> simp
     replace hm := ite_t hm h783'
     refine ga_do (i := 3) (bz 27 15) rfl (by kernel_rfl) (fun _ _ _ _ h => h) rfl rfl rfl rfl rfl h783 (r_field (n := 9) Try.underlying26 rfl Try.sizeOf24 rfl rfl) <| ga_do (i := 4) (bz 27 31) rfl (by kernel_rfl) (fun _ _ _ _ h => h) rfl rfl rfl rfl rfl h783 (r_load (tag := 100100) rfl rfl rfl Try.isAgg24) <| ga_do (i := 5) (bz 27 63) rfl (by kernel_rfl) (fun _ _ _ _ h => h) rfl rfl rfl rfl rfl h783 (r_move) ?_
     replace hm := bnd hm
     obtain ⟨x784, hx784, hm⟩ := hm
     refine ga_know _ (fun W hS => cl_at (p := φ46) (sz := 5) (fun _ => rfl) (by decide) hS.now f39 hx784) ?_
     rintro ⟨ad785, hA787, f786⟩
     refine ga_do (i := 6) (bz 27 127) rfl (by kernel_rfl) (fun _ _ _ _ h => h) rfl rfl rfl rfl rfl h783 (r_ix Try.underlying24 Try.sizeOf42 rfl hA787 rfl hx784) ?_
     have f788 := fun (W : World) (h : φ46 W) => Cl.drop (f786 W h) 1
     refine ga_do (i := 7) (bz 27 255) rfl (by kernel_rfl) (fun _ _ _ _ h => h) rfl rfl rfl rfl rfl h783 (r_fieldF Try.underlying42 rfl Try.sizeOf22 rfl) <| ga_do (i := 8) (bz 27 511) rfl (by kernel_rfl) (fun _ _ _ _ h => h) rfl rfl rfl rfl rfl h783 (r_ld rfl Try.isAgg22 (fun W hS => Cl.head (f788 W hS.now))) <| ga_rG (i := 9) (bz 27 1023) rfl (by kernel_rfl) (by decide) rfl rfl rfl rfl rfl h783 (r_field (n := 1) Try.underlying29 rfl Try.sizeOf22 rfl rfl) <| ga_rG (i := 10) (bz 27 2047) rfl (by kernel_rfl) (by decide) rfl rfl rfl rfl rfl h783 (r_load (tag := 100040) rfl rfl rfl Try.isAgg22) <| ga_rG (i := 11) (bz 27 4095) rfl (by kernel_rfl) (by decide) rfl rfl rfl rfl rfl h783 (r_neq rfl rfl) <| ga_rG (i := 12) (bz 27 8191) rfl (by kernel_rfl) (by decide) rfl rfl rfl rfl rfl h783 (r_move) ?_
     refine ga_if (t := 187) rfl (fun h789 => ?_) (fun h789 => ?_)
     ·
      replace hm := ite_t hm (of_decide_eq_true h789)
      refine ga_do (i := 13) (bz 27 16383) rfl (by kernel_rfl) (fun _ _ _ _ h => h) rfl rfl rfl rfl rfl h789 (r_field (n := 9) Try.underlying26 rfl Try.sizeOf24 rfl rfl) <| ga_do (i := 14) (bz 27 32767) rfl (by kernel_rfl) (fun _ _ _ _ h => h) rfl rfl rfl rfl rfl h789 (r_load (tag := 100100) rfl rfl rfl Try.isAgg24) <| ga_rG (i := 15) (bz 27 65535) rfl (by kernel_rfl) (by decide) rfl rfl rfl rfl rfl h789 (r_move) ?_
      replace hm := bnd hm
      obtain ⟨x790, hx790, hm⟩ := hm
      refine ga_know _ (fun W hS => cl_at (p := φ46) (sz := 5) (fun _ => rfl) (by decide) hS.now f39 hx790) ?_
      rintro ⟨ad791, hA793, f792⟩
      refine ga_rG (i := 16) (bz 27 131071) rfl (by kernel_rfl) (by decide) rfl rfl rfl rfl rfl h789 (r_ix Try.underlying24 Try.sizeOf42 rfl hA793 rfl hx790) ?_
      have f794 := fun (W : World) (h : φ46 W) => Cl.drop (f792 W h) 1
      refine ga_rG (i := 17) (bz 27 262143) rfl (by kernel_rfl) (by decide) rfl rfl rfl rfl rfl h789 (r_fieldF Try.underlying42 rfl Try.sizeOf22 rfl) <| ga_rG (i := 18) (bz 27 524287) rfl (by kernel_rfl) (by decide) rfl rfl rfl rfl rfl h789 (r_ld rfl Try.isAgg22 (fun W hS => Cl.head (f794 W hS.now))) <| ga_rG (i := 19) (bz 27 1048575) rfl (by kernel_rfl) (by decide) rfl rfl rfl rfl rfl h789 (r_neq rfl rfl) <| ga_rG (i := 20) (bz 27 2097151) rfl (by kernel_rfl) (by decide) rfl rfl rfl rfl rfl h783 (r_pick1 rfl h789) <| ga_r (i := 21) (bz 27 4194303) rfl (by kernel_rfl) (by decide) rfl (r_pick0 rfl h783) <| ga_r (i := 22) (bz 27 8388607) rfl (by kernel_rfl) (by decide) rfl (r_move) ?_
      refine ga_if (t := 197) rfl (fun h795 => ?_) (fun h795 => ?_)
      ·
       replace hm := ite_t hm (of_decide_eq_true h795)
       refine ga_no (i := 23) (bz 27 16777215) rfl (by kernel_rfl) (fun _ _ _ _ h => h) rfl rfl rfl rfl rfl h795 <| ga_no (i := 24) (bz 27 33554431) rfl (by kernel_rfl) (fun _ _ _ _ h => h) rfl rfl rfl rfl rfl h795 <| ga_no (i := 25) (bz 27 67108863) rfl (by kernel_rfl) (fun _ _ _ _ h => h) rfl rfl rfl rfl rfl h795 <| ga_r (i := 26) (bz 27 134217727) rfl (by kernel_rfl) (by decide) rfl (r_pick1 rfl h795) <| ga_done (by kernel_rfl) <| d_then ?_
       refine c_flat [(4, .pointer (some ⟨g1, 0, none⟩)), (7, .bool x2), (10, .pointer (some ⟨g47, 0, none⟩)), (19, .int .i64 i669), (201, .bool true)] ⟨rfl, rfl, rfl, rfl, rfl, trivial⟩ (fun u => ?_)
       refine c_cond1 rfl rfl <| c_seq <| c_region <| g_v rfl r_assign <| g_nil <| d_then <| c_ret <| d_ret_block <| d_ret_then <| d_ret_then ?_
       refine d_ret_block <| d_ret_then <| d_ret_then ?_
       replace hm := nx_out (C := (fun e : Unit ⊕ Bool => Sum.elim (fun e => m_law18_AuthHonest_j2 x2 x32) (fun x => some x) e = some r)) hm hnx3 hr3
       replace hm : some false = some r := hm
       cases hm
       exact d_retC () Try.results5 (res_tmp (res_nil rfl)) trivial (fun W h => ok_pre (H1 := [_, _]) (R1 := []) h (fun W hφ => (q11 _ (q28 _ (q30 _ (q46 _ hφ)))))) (.inr rfl)
      replace hm := ite_f hm (of_decide_eq_false h795)
      refine ga_rG (i := 23) (bz 27 16777215) rfl (by kernel_rfl) (by decide) rfl rfl rfl rfl rfl h795 (r_field (n := 2) Try.underlying26 rfl Try.sizeOf4 rfl rfl) <| ga_rG (i := 24) (bz 27 33554431) rfl (by kernel_rfl) (by decide) rfl rfl rfl rfl rfl h795 (r_load (tag := 100100) rfl rfl rfl Try.isAgg4) <| ga_rG (i := 25) (bz 27 67108863) rfl (by kernel_rfl) (by decide) rfl rfl rfl rfl rfl h795 (r_not rfl) <| ga_r (i := 26) (bz 27 134217727) rfl (by kernel_rfl) (by decide) rfl (r_pick0 rfl h795) <| ga_done (by kernel_rfl) <| d_then ?_
      refine c_flat [(4, .pointer (some ⟨g1, 0, none⟩)), (7, .bool x2), (10, .pointer (some ⟨g47, 0, none⟩)), (19, .int .i64 i669), (201, .bool (!x32.fAuthoritative))] ⟨rfl, rfl, rfl, rfl, rfl, trivial⟩ (fun u => ?_)
      refine c_cond rfl (fun h796 => ?_) (fun h796 => ?_)
      ·
       have h796' : x32.fAuthoritative = false := by revert h796; cases x32.fAuthoritative <;> simp
       replace hm := ite_f hm (bool_nt h796')
       refine c_seq <| c_region <| g_v rfl r_assign <| g_nil <| d_then <| c_ret <| d_ret_block <| d_ret_then <| d_ret_then <| d_ret_block ?_
       refine d_ret_then <| d_ret_then ?_
       replace hm := nx_out (C := (fun e : Unit ⊕ Bool => Sum.elim (fun e => m_law18_AuthHonest_j2 x2 x32) (fun x => some x) e = some r)) hm hnx3 hr3
       replace hm : some false = some r := hm
       cases hm
       exact d_retC () Try.results5 (res_tmp (res_nil rfl)) trivial (fun W h => ok_pre (H1 := [_, _]) (R1 := []) h (fun W hφ => (q11 _ (q28 _ (q30 _ (q46 _ hφ)))))) (.inr rfl)
      have h796' : x32.fAuthoritative = true := by revert h796; cases x32.fAuthoritative <;> simp
      replace hm := ite_t hm h796'
      refine c_skip <| d_normal_block <| d_then <| c_region <| g_v rfl r_move <| g_v rfl (r_add rfl rfl rfl) <| g_v rfl r_assign <| g_nil ?_
      obtain ⟨n797, hn797, hlp⟩ := nx_inl hm hnx3
      exact d_round (n797, w64 (i669 + 1)) hlp hn797 ⟨rfl, rfl, rfl, rfl, trivial⟩ (fun W h => h.phi (fun W hφ => hφ))
     replace hm := ite_f hm (of_decide_eq_false h789)
     refine ga_no (i := 13) (bz 27 16383) rfl (by kernel_rfl) (fun _ _ _ _ h => h) rfl rfl rfl rfl rfl h789 <| ga_no (i := 14) (bz 27 32767) rfl (by kernel_rfl) (fun _ _ _ _ h => h) rfl rfl rfl rfl rfl h789 <| ga_no (i := 15) (bz 27 65535) rfl (by kernel_rfl) (fun _ _ _ _ h => h) rfl rfl rfl rfl rfl h789 <| ga_no (i := 16) (bz 27 131071) rfl (by kernel_rfl) (fun _ _ _ _ h => h) rfl rfl rfl rfl rfl h789 <| ga_no (i := 17) (bz 27 262143) rfl (by kernel_rfl) (fun _ _ _ _ h => h) rfl rfl rfl rfl rfl h789 <| ga_no (i := 18) (bz 27 524287) rfl (by kernel_rfl) (fun _ _ _ _ h => h) rfl rfl rfl rfl rfl h789 <| ga_no (i := 19) (bz 27 1048575) rfl (by kernel_rfl) (fun _ _ _ _ h => h) rfl rfl rfl rfl rfl h789 <| ga_rG (i := 20) (bz 27 2097151) rfl (by kernel_rfl) (by decide) rfl rfl rfl rfl rfl h783 (r_pick0 rfl h789) <| ga_r (i := 21) (bz 27 4194303) rfl (by kernel_rfl) (by decide) rfl (r_pick0 rfl h783) <| ga_r (i := 22) (bz 27 8388607) rfl (by kernel_rfl) (by decide) rfl (r_move) ?_
     refine ga_rG (i := 23) (bz 27 16777215) rfl (by kernel_rfl) (by decide) rfl rfl rfl rfl rfl rfl (r_field (n := 2) Try.underlying26 rfl Try.sizeOf4 rfl rfl) <| ga_rG (i := 24) (bz 27 33554431) rfl (by kernel_rfl) (by decide) rfl rfl rfl rfl rfl rfl (r_load (tag := 100100) rfl rfl rfl Try.isAgg4) <| ga_rG (i := 25) (bz 27 67108863) rfl (by kernel_rfl) (by decide) rfl rfl rfl rfl rfl rfl (r_not rfl) <| ga_r (i := 26) (bz 27 134217727) rfl (by kernel_rfl) (by decide) rfl (r_pick0 rfl rfl) <| ga_done (by kernel_rfl) <| d_then ?_
     refine c_flat [(4, .pointer (some ⟨g1, 0, none⟩)), (7, .bool x2), (10, .pointer (some ⟨g47, 0, none⟩)), (19, .int .i64 i669), (201, .bool (!x32.fAuthoritative))] ⟨rfl, rfl, rfl, rfl, rfl, trivial⟩ (fun u => ?_)
     refine c_cond rfl (fun h798 => ?_) (fun h798 => ?_)
     ·
      have h798' : x32.fAuthoritative = false := by revert h798; cases x32.fAuthoritative <;> simp
      replace hm := ite_f hm (bool_nt h798')
      refine c_seq <| c_region <| g_v rfl r_assign <| g_nil <| d_then <| c_ret <| d_ret_block <| d_ret_then <| d_ret_then <| d_ret_block ?_
      refine d_ret_then <| d_ret_then ?_
      replace hm := nx_out (C := (fun e : Unit ⊕ Bool => Sum.elim (fun e => m_law18_AuthHonest_j2 x2 x32) (fun x => some x) e = some r)) hm hnx3 hr3
      replace hm : some false = some r := hm
      cases hm
      exact d_retC () Try.results5 (res_tmp (res_nil rfl)) trivial (fun W h => ok_pre (H1 := [_, _]) (R1 := []) h (fun W hφ => (q11 _ (q28 _ (q30 _ (q46 _ hφ)))))) (.inr rfl)
     have h798' : x32.fAuthoritative = true := by revert h798; cases x32.fAuthoritative <;> simp
     replace hm := ite_t hm h798'
     refine c_skip <| d_normal_block <| d_then <| c_region <| g_v rfl r_move <| g_v rfl (r_add rfl rfl rfl) <| g_v rfl r_assign <| g_nil ?_
     obtain ⟨n799, hn799, hlp⟩ := nx_inl hm hnx3
     exact d_round (n799, w64 (i669 + 1)) hlp hn799 ⟨rfl, rfl, rfl, rfl, trivial⟩ (fun W h => h.phi (fun W hφ => hφ))
    replace hm := ite_f hm (of_decide_eq_false h735)
    refine c_exit <| d_exit_then <| d_exit_then <| d_exit_block ?_
    replace hm := nx_out (C := (fun e : Unit ⊕ Bool => Sum.elim (fun e => m_law18_AuthHonest_j2 x2 x32) (fun x => some x) e = some r)) hm hnx3 hr3
    exact d_round () hm Nat.zero_lt_one ⟨rfl, rfl, trivial⟩ (fun W h => (h.dropH (t := 100040) rfl).phi (fun W hφ => hφ))
   unfold m_law18_AuthHonest_j2 at hm
   refine d_flat [(7, .bool x2), (10, .pointer (some ⟨g47, 0, none⟩))] ⟨rfl, rfl, trivial⟩ (fun u => ?_)
   refine d_sta ⟨w0, M, (100100, g47, .cells #[.int .u16 x32.fID, .bool x32.fResponse, .bool x32.fAuthoritative, .bool x32.fTruncated, .bool x32.fDesired, .bool x32.fAvailable, .int .i64 x32.fOpcode, .int .i64 x32.fCode, .slice A34 x32.fQuestions.length c35, .slice A37 x32.fAnswers.length c38, .slice A40 x32.fAuthorities.length c41, .slice A43 x32.fExtras.length c44] 26 (0, 0)) :: H, R, φ46⟩ (fun _ h => h) <| d_then <| c_seq <| c_region <| g_v rfl r_move <| g_v rfl r_move ?_
   refine g_if rfl rfl rfl rfl rfl (fun h598 => ?_) (fun h598 => ?_)
   ·
    replace hm := ite_t hm h598
    refine g_v rfl (r_field (n := 9) Try.underlying26 rfl Try.sizeOf24 rfl rfl) <| g_do rfl rfl rfl rfl rfl h598 <| g_v rfl (r_load (tag := 100100) rfl rfl rfl Try.isAgg24) <| g_do rfl rfl rfl rfl rfl h598 <| g_v rfl (r_lenL Try.underlying24 rfl) <| g_do rfl rfl rfl rfl rfl h598 <| g_v rfl (r_eql rfl rfl) <| g_do rfl rfl rfl rfl rfl h598 <| g_v rfl r_move ?_
    refine g_if rfl rfl rfl rfl rfl (fun h599 => ?_) (fun h599 => ?_)
    ·
     replace hm := ite_f hm (of_decide_eq_false h599)
     refine g_v rfl (r_field (n := 7) Try.underlying26 rfl Try.sizeOf3 rfl rfl) <| g_do rfl rfl rfl rfl rfl h599 <| g_v rfl (r_load (tag := 100100) rfl rfl rfl Try.isAgg3) <| g_do rfl rfl rfl rfl rfl h599 <| g_v rfl (r_eql rfl rfl) <| g_do rfl rfl rfl rfl rfl h598 <| g_v rfl (r_pick0 rfl h599) <| g_v rfl (r_pick1 rfl h598) <| g_v rfl r_move ?_
     refine g_if rfl rfl rfl rfl rfl (fun h600 => ?_) (fun h600 => ?_)
     ·
      replace hm := ite_t hm (of_decide_eq_true h600)
      refine g_v rfl (r_field (n := 11) Try.underlying26 rfl Try.sizeOf24 rfl rfl) <| g_do rfl rfl rfl rfl rfl h600 <| g_v rfl (r_load (tag := 100100) rfl rfl rfl Try.isAgg24) <| g_do rfl rfl rfl rfl rfl h600 <| g_v rfl (r_lenL Try.underlying24 rfl) <| g_do rfl rfl rfl rfl rfl h600 <| g_v rfl (r_eql rfl rfl) <| g_do rfl rfl rfl rfl rfl h600 <| g_v rfl r_move ?_
      refine g_if rfl rfl rfl rfl rfl (fun h601 => ?_) (fun h601 => ?_)
      ·
       replace hm := ite_f hm (of_decide_eq_false h601)
       refine g_v rfl (r_field (n := 10) Try.underlying26 rfl Try.sizeOf24 rfl rfl) <| g_do rfl rfl rfl rfl rfl h601 <| g_v rfl (r_load (tag := 100100) rfl rfl rfl Try.isAgg24) <| g_do rfl rfl rfl rfl rfl h601 <| g_v rfl (r_lenL Try.underlying24 rfl) <| g_do rfl rfl rfl rfl rfl h601 <| g_v rfl (r_gtr rfl rfl) <| g_do rfl rfl rfl rfl rfl h601 <| g_v rfl r_move ?_
       refine g_if rfl rfl rfl rfl rfl (fun h602 => ?_) (fun h602 => ?_)
       ·
        replace hm := ite_t hm (of_decide_eq_true h602)
        refine g_v rfl (r_field (n := 2) Try.underlying26 rfl Try.sizeOf4 rfl rfl) <| g_do rfl rfl rfl rfl rfl h602 <| g_v rfl (r_load (tag := 100100) rfl rfl rfl Try.isAgg4) <| g_do rfl rfl rfl rfl rfl h602 <| g_v rfl (r_not rfl) <| g_do rfl rfl rfl rfl rfl h601 <| g_v rfl (r_pick1 rfl h602) <| g_do rfl rfl rfl rfl rfl h600 <| g_v rfl (r_pick0 rfl h601) <| g_v rfl (r_pick1 rfl h600) ?_
        refine g_v rfl r_assign <| g_nil <| d_then ?_
        refine c_flat [(6, .bool (!x32.fAuthoritative))] ⟨rfl, trivial⟩ (fun u => ?_)
        refine c_ret ?_
        cases hm
        exact d_retC () Try.results5 (res_tmp (res_nil rfl)) trivial (fun W h => ok_pre (H1 := [_]) (R1 := []) h (fun W hφ => (q11 _ (q28 _ (q30 _ (q46 _ hφ)))))) (.inr rfl)
       replace hm := ite_f hm (of_decide_eq_false h602)
       refine g_no rfl rfl rfl rfl rfl h602 <| g_no rfl rfl rfl rfl rfl h602 <| g_do rfl rfl rfl rfl rfl h601 <| g_v rfl (r_pick0 rfl h602) <| g_do rfl rfl rfl rfl rfl h600 <| g_v rfl (r_pick0 rfl h601) <| g_v rfl (r_pick1 rfl h600) <| g_v rfl r_assign <| g_nil <| d_then ?_
       refine c_flat [(6, .bool false)] ⟨rfl, trivial⟩ (fun u => ?_)
       refine c_ret ?_
       cases hm
       exact d_retC () Try.results5 (res_tmp (res_nil rfl)) trivial (fun W h => ok_pre (H1 := [_]) (R1 := []) h (fun W hφ => (q11 _ (q28 _ (q30 _ (q46 _ hφ)))))) (.inr rfl)
      replace hm := ite_t hm (of_decide_eq_true h601)
      iterate 4 refine g_no rfl rfl rfl rfl rfl h601 ?_
      iterate 3 refine g_nu rfl rfl rfl rfl rfl ?_
      refine g_no rfl rfl rfl rfl rfl h601 <| g_do rfl rfl rfl rfl rfl h600 <| g_v rfl (r_pick1 rfl h601) <| g_v rfl (r_pick1 rfl h600) <| g_v rfl r_assign <| g_nil <| d_then ?_
      refine c_flat [(6, .bool true)] ⟨rfl, trivial⟩ (fun u => ?_)
      refine c_ret ?_
      cases hm
      exact d_retC () Try.results5 (res_tmp (res_nil rfl)) trivial (fun W h => ok_pre (H1 := [_]) (R1 := []) h (fun W hφ => (q11 _ (q28 _ (q30 _ (q46 _ hφ)))))) (.inr rfl)
     replace hm := ite_f hm (of_decide_eq_false h600)
     iterate 4 refine g_no rfl rfl rfl rfl rfl h600 ?_
     iterate 9 refine g_nu rfl rfl rfl rfl rfl ?_
     refine g_no rfl rfl rfl rfl rfl h600 <| g_v rfl (r_pick0 rfl h600) <| g_v rfl r_assign <| g_nil <| d_then ?_
     refine c_flat [(6, .bool false)] ⟨rfl, trivial⟩ (fun u => ?_)
     refine c_ret ?_
     cases hm
     exact d_retC () Try.results5 (res_tmp (res_nil rfl)) trivial (fun W h => ok_pre (H1 := [_]) (R1 := []) h (fun W hφ => (q11 _ (q28 _ (q30 _ (q46 _ hφ)))))) (.inr rfl)
    replace hm := ite_t hm (of_decide_eq_true h599)
    refine g_no rfl rfl rfl rfl rfl h599 <| g_no rfl rfl rfl rfl rfl h599 <| g_do rfl rfl rfl rfl rfl h598 <| g_v rfl (r_pick1 rfl h599) <| g_v rfl (r_pick1 rfl h598) <| g_v rfl r_move <| g_do rfl rfl rfl rfl rfl rfl <| g_v rfl (r_field (n := 11) Try.underlying26 rfl Try.sizeOf24 rfl rfl) <| g_do rfl rfl rfl rfl rfl rfl <| g_v rfl (r_load (tag := 100100) rfl rfl rfl Try.isAgg24) ?_
    refine g_do rfl rfl rfl rfl rfl rfl <| g_v rfl (r_lenL Try.underlying24 rfl) <| g_do rfl rfl rfl rfl rfl rfl <| g_v rfl (r_eql rfl rfl) <| g_do rfl rfl rfl rfl rfl rfl <| g_v rfl r_move ?_
    refine g_if rfl rfl rfl rfl rfl (fun h603 => ?_) (fun h603 => ?_)
    ·
     replace hm := ite_f hm (of_decide_eq_false h603)
     refine g_v rfl (r_field (n := 10) Try.underlying26 rfl Try.sizeOf24 rfl rfl) <| g_do rfl rfl rfl rfl rfl h603 <| g_v rfl (r_load (tag := 100100) rfl rfl rfl Try.isAgg24) <| g_do rfl rfl rfl rfl rfl h603 <| g_v rfl (r_lenL Try.underlying24 rfl) <| g_do rfl rfl rfl rfl rfl h603 <| g_v rfl (r_gtr rfl rfl) <| g_do rfl rfl rfl rfl rfl h603 <| g_v rfl r_move ?_
     refine g_if rfl rfl rfl rfl rfl (fun h604 => ?_) (fun h604 => ?_)
     ·
      replace hm := ite_t hm (of_decide_eq_true h604)
      refine g_v rfl (r_field (n := 2) Try.underlying26 rfl Try.sizeOf4 rfl rfl) <| g_do rfl rfl rfl rfl rfl h604 <| g_v rfl (r_load (tag := 100100) rfl rfl rfl Try.isAgg4) <| g_do rfl rfl rfl rfl rfl h604 <| g_v rfl (r_not rfl) <| g_do rfl rfl rfl rfl rfl h603 <| g_v rfl (r_pick1 rfl h604) <| g_do rfl rfl rfl rfl rfl rfl <| g_v rfl (r_pick0 rfl h603) <| g_v rfl (r_pick1 rfl rfl) ?_
      refine g_v rfl r_assign <| g_nil <| d_then ?_
      refine c_flat [(6, .bool (!x32.fAuthoritative))] ⟨rfl, trivial⟩ (fun u => ?_)
      refine c_ret ?_
      cases hm
      exact d_retC () Try.results5 (res_tmp (res_nil rfl)) trivial (fun W h => ok_pre (H1 := [_]) (R1 := []) h (fun W hφ => (q11 _ (q28 _ (q30 _ (q46 _ hφ)))))) (.inr rfl)
     replace hm := ite_f hm (of_decide_eq_false h604)
     refine g_no rfl rfl rfl rfl rfl h604 <| g_no rfl rfl rfl rfl rfl h604 <| g_do rfl rfl rfl rfl rfl h603 <| g_v rfl (r_pick0 rfl h604) <| g_do rfl rfl rfl rfl rfl rfl <| g_v rfl (r_pick0 rfl h603) <| g_v rfl (r_pick1 rfl rfl) <| g_v rfl r_assign <| g_nil <| d_then ?_
     refine c_flat [(6, .bool false)] ⟨rfl, trivial⟩ (fun u => ?_)
     refine c_ret ?_
     cases hm
     exact d_retC () Try.results5 (res_tmp (res_nil rfl)) trivial (fun W h => ok_pre (H1 := [_]) (R1 := []) h (fun W hφ => (q11 _ (q28 _ (q30 _ (q46 _ hφ)))))) (.inr rfl)
    replace hm := ite_t hm (of_decide_eq_true h603)
    iterate 4 refine g_no rfl rfl rfl rfl rfl h603 ?_
    iterate 3 refine g_nu rfl rfl rfl rfl rfl ?_
    refine g_no rfl rfl rfl rfl rfl h603 <| g_do rfl rfl rfl rfl rfl rfl <| g_v rfl (r_pick1 rfl h603) <| g_v rfl (r_pick1 rfl rfl) <| g_v rfl r_assign <| g_nil <| d_then ?_
    refine c_flat [(6, .bool true)] ⟨rfl, trivial⟩ (fun u => ?_)
    refine c_ret ?_
    cases hm
    exact d_retC () Try.results5 (res_tmp (res_nil rfl)) trivial (fun W h => ok_pre (H1 := [_]) (R1 := []) h (fun W hφ => (q11 _ (q28 _ (q30 _ (q46 _ hφ)))))) (.inr rfl)
   replace hm := ite_f hm (bool_nt h598)
   iterate 4 refine g_no rfl rfl rfl rfl rfl h598 ?_
   iterate 3 refine g_nu rfl rfl rfl rfl rfl ?_
   refine g_no rfl rfl rfl rfl rfl h598 <| g_v rfl (r_pick0 rfl h598) <| g_v rfl r_move ?_
   iterate 5 refine g_no rfl rfl rfl rfl rfl rfl ?_
   iterate 9 refine g_nu rfl rfl rfl rfl rfl ?_
   refine g_no rfl rfl rfl rfl rfl rfl <| g_v rfl (r_pick0 rfl rfl) <| g_v rfl r_assign <| g_nil <| d_then <| c_ret ?_
   cases hm
   exact d_retC () Try.results5 (res_tmp (res_nil rfl)) trivial (fun W h => ok_pre (H1 := [_]) (R1 := []) h (fun W hφ => (q11 _ (q28 _ (q30 _ (q46 _ hφ)))))) (.inr rfl)
  have h61' : x49 = false := by revert h61; cases x49 <;> simp
  replace hm := ite_f hm (bool_nt h61')
  refine g_no rfl rfl rfl rfl rfl h61 <| g_no rfl rfl rfl rfl rfl h61 <| g_v rfl (r_pick1 rfl h61) <| g_nil <| d_then <| c_cond1 rfl rfl <| c_seq <| c_region <| g_v rfl r_move <| g_v rfl r_move ?_
  refine g_if rfl rfl rfl rfl rfl (fun h1600 => ?_) (fun h1600 => ?_)
  ·
   replace hm := ite_t hm h1600
   refine g_v rfl (r_field (n := 7) Try.underlying26 rfl Try.sizeOf3 rfl rfl) <| g_do rfl rfl rfl rfl rfl h1600 <| g_v rfl (r_load (tag := 100100) rfl rfl rfl Try.isAgg3) <| g_do rfl rfl rfl rfl rfl h1600 <| g_v rfl (r_eql rfl rfl) <| g_v rfl (r_pick1 rfl h1600) <| g_v rfl r_move ?_
   refine g_if rfl rfl rfl rfl rfl (fun h1601 => ?_) (fun h1601 => ?_)
   ·
    replace hm := ite_t hm (of_decide_eq_true h1601)
    refine g_v rfl (r_field (n := 9) Try.underlying26 rfl Try.sizeOf24 rfl rfl) <| g_do rfl rfl rfl rfl rfl h1601 <| g_v rfl (r_load (tag := 100100) rfl rfl rfl Try.isAgg24) <| g_do rfl rfl rfl rfl rfl h1601 <| g_v rfl (r_lenL Try.underlying24 rfl) <| g_do rfl rfl rfl rfl rfl h1601 <| g_v rfl (r_field (n := 10) Try.underlying26 rfl Try.sizeOf24 rfl rfl) <| g_do rfl rfl rfl rfl rfl h1601 <| g_v rfl (r_load (tag := 100100) rfl rfl rfl Try.isAgg24) <| g_do rfl rfl rfl rfl rfl h1601 ?_
    refine g_v rfl (r_lenL Try.underlying24 rfl) <| g_do rfl rfl rfl rfl rfl h1601 <| g_v rfl (r_add rfl rfl rfl) <| g_do rfl rfl rfl rfl rfl h1601 <| g_v rfl (r_field (n := 11) Try.underlying26 rfl Try.sizeOf24 rfl rfl) <| g_do rfl rfl rfl rfl rfl h1601 <| g_v rfl (r_load (tag := 100100) rfl rfl rfl Try.isAgg24) <| g_do rfl rfl rfl rfl rfl h1601 <| g_v rfl (r_lenL Try.underlying24 rfl) <| g_do rfl rfl rfl rfl rfl h1601 ?_
    refine g_v rfl (r_add rfl rfl rfl) <| g_do rfl rfl rfl rfl rfl h1601 <| g_v rfl (r_eql rfl rfl) <| g_v rfl (r_pick1 rfl h1601) <| g_v rfl r_assign <| g_nil <| d_then ?_
    refine c_flat [(6, .bool (decide (w64 ((w64 ((x32.fAnswers.length : Int) + (x32.fAuthorities.length : Int))) + (x32.fExtras.length : Int)) = 0)))] ⟨rfl, trivial⟩ (fun u => ?_)
    refine c_ret <| d_ret_then ?_
    cases hm
    exact d_retC () Try.results5 (res_tmp (res_nil rfl)) trivial (fun W h => ok_pre (H1 := [_, _, _]) (R1 := []) h (fun W hφ => (q11 _ (q28 _ (q30 _ (q46 _ hφ)))))) (.inr rfl)
   replace hm := ite_f hm (of_decide_eq_false h1601)
   iterate 11 refine g_no rfl rfl rfl rfl rfl h1601 ?_
   refine g_v rfl (r_pick0 rfl h1601) <| g_v rfl r_assign <| g_nil <| d_then ?_
   refine c_flat [(6, .bool false)] ⟨rfl, trivial⟩ (fun u => ?_)
   refine c_ret <| d_ret_then ?_
   cases hm
   exact d_retC () Try.results5 (res_tmp (res_nil rfl)) trivial (fun W h => ok_pre (H1 := [_, _, _]) (R1 := []) h (fun W hφ => (q11 _ (q28 _ (q30 _ (q46 _ hφ)))))) (.inr rfl)
  replace hm := ite_f hm (bool_nt h1600)
  refine g_no rfl rfl rfl rfl rfl h1600 <| g_no rfl rfl rfl rfl rfl h1600 <| g_v rfl (r_pick0 rfl h1600) <| g_v rfl r_move ?_
  iterate 12 refine g_no rfl rfl rfl rfl rfl rfl ?_
  refine g_v rfl (r_pick0 rfl rfl) <| g_v rfl r_assign <| g_nil <| d_then ?_
  refine c_flat [(6, .bool false)] ⟨rfl, trivial⟩ (fun u => ?_)
  refine c_ret <| d_ret_then ?_
  cases hm
  exact d_retC () Try.results5 (res_tmp (res_nil rfl)) trivial (fun W h => ok_pre (H1 := [_, _, _]) (R1 := []) h (fun W hφ => (q11 _ (q28 _ (q30 _ (q46 _ hφ)))))) (.inr rfl)
 have h54' : x52 = false := by revert h54; cases x52 <;> simp
 replace hm := ite_f hm (bool_nt h54')
 iterate 3 refine g_no rfl rfl rfl rfl rfl h54 ?_
 refine g_v rfl (r_pick1 rfl h54) <| g_nil <| d_then <| c_cond1 rfl rfl <| c_seq <| c_region <| g_v rfl (r_field (n := 0) Try.underlying29 rfl Try.sizeOf9 rfl rfl) <| g_v rfl (r_load (tag := 100040) rfl rfl rfl Try.isAgg9) ?_
 replace hm := bnd hm
 obtain ⟨x1602, hx1603, hm⟩ := hm
 refine g_cn ⟨w0, M, _, _, φ46⟩ (fun _ h => h) Try.call18 rfl rfl (c_ref03_Check x12 _ hx1603) (fun _ _ => ?_)
 refine g_v rfl (r_eql rfl rfl) <| g_v rfl r_assign <| g_nil <| d_then ?_
 refine c_flat [(2, .int .u16 p2), (7, .bool x2), (10, .pointer (some ⟨g47, 0, none⟩)), (13, .bool (decide (x1602 = 0)))] ⟨rfl, rfl, rfl, rfl, trivial⟩ (fun u => ?_)
 refine c_seq <| c_region <| g_v rfl r_move <| g_v rfl r_move ?_
 refine g_if rfl rfl rfl rfl rfl (fun h1604 => ?_) (fun h1604 => ?_)
 ·
  replace hm := ite_t hm h1604
  refine g_v rfl r_move <| g_do rfl rfl rfl rfl rfl h1604 <| g_v rfl (r_not rfl) <| g_v rfl (r_pick1 rfl h1604) <| g_v rfl r_move ?_
  refine g_if rfl rfl rfl rfl rfl (fun h1605 => ?_) (fun h1605 => ?_)
  ·
   have h1605' : (decide (x1602 = 0)) = false := by revert h1605; cases (decide (x1602 = 0)) <;> simp
   replace hm := ite_f hm (of_decide_eq_false h1605')
   refine g_v rfl (r_field (n := 7) Try.underlying26 rfl Try.sizeOf3 rfl rfl) <| g_do rfl rfl rfl rfl rfl h1605 <| g_v rfl (r_load (tag := 100100) rfl rfl rfl Try.isAgg3) <| g_do rfl rfl rfl rfl rfl h1605 <| g_v rfl (r_eql rfl rfl) <| g_v rfl (r_pick1 rfl h1605) <| g_v rfl r_move ?_
   refine g_if rfl rfl rfl rfl rfl (fun h1606 => ?_) (fun h1606 => ?_)
   ·
    replace hm := ite_t hm (of_decide_eq_true h1606)
    refine g_v rfl (r_field (n := 0) Try.underlying26 rfl Try.sizeOf22 rfl rfl) <| g_do rfl rfl rfl rfl rfl h1606 <| g_v rfl (r_load (tag := 100100) rfl rfl rfl Try.isAgg22) <| g_do rfl rfl rfl rfl rfl h1606 <| g_v rfl r_move <| g_do rfl rfl rfl rfl rfl h1606 <| g_v rfl (r_eql rfl rfl) <| g_v rfl (r_pick1 rfl h1606) <| g_v rfl r_assign <| g_nil ?_
    refine d_then ?_
    refine c_flat [(6, .bool (decide (x32.fID = p2)))] ⟨rfl, trivial⟩ (fun u => ?_)
    refine c_ret <| d_ret_then ?_
    cases hm
    exact d_retC () Try.results5 (res_tmp (res_nil rfl)) trivial (fun W h => ok_pre (H1 := [_, _, _]) (R1 := []) h (fun W hφ => (q11 _ (q28 _ (q30 _ (q46 _ hφ)))))) (.inr rfl)
   replace hm := ite_f hm (of_decide_eq_false h1606)
   iterate 3 refine g_no rfl rfl rfl rfl rfl h1606 ?_
   refine g_v rfl (r_pick0 rfl h1606) <| g_v rfl r_assign <| g_nil <| d_then ?_
   refine c_flat [(6, .bool false)] ⟨rfl, trivial⟩ (fun u => ?_)
   refine c_ret <| d_ret_then ?_
   cases hm
   exact d_retC () Try.results5 (res_tmp (res_nil rfl)) trivial (fun W h => ok_pre (H1 := [_, _, _]) (R1 := []) h (fun W hφ => (q11 _ (q28 _ (q30 _ (q46 _ hφ)))))) (.inr rfl)
  have h1605' : (decide (x1602 = 0)) = true := by revert h1605; cases (decide (x1602 = 0)) <;> simp
  replace hm := ite_t hm (of_decide_eq_true h1605')
  refine g_no rfl rfl rfl rfl rfl h1605 <| g_no rfl rfl rfl rfl rfl h1605 <| g_v rfl (r_pick0 rfl h1605) <| g_v rfl r_move ?_
  iterate 4 refine g_no rfl rfl rfl rfl rfl rfl ?_
  refine g_v rfl (r_pick0 rfl rfl) <| g_v rfl r_assign <| g_nil <| d_then ?_
  refine c_flat [(6, .bool false)] ⟨rfl, trivial⟩ (fun u => ?_)
  refine c_ret <| d_ret_then ?_
  cases hm
  exact d_retC () Try.results5 (res_tmp (res_nil rfl)) trivial (fun W h => ok_pre (H1 := [_, _, _]) (R1 := []) h (fun W hφ => (q11 _ (q28 _ (q30 _ (q46 _ hφ)))))) (.inr rfl)
 replace hm := ite_f hm (bool_nt h1604)
 refine g_no rfl rfl rfl rfl rfl h1604 <| g_v rfl (r_pick0 rfl h1604) <| g_v rfl r_move ?_
 iterate 3 refine g_no rfl rfl rfl rfl rfl rfl ?_
 refine g_v rfl (r_pick0 rfl rfl) <| g_v rfl r_move ?_
 iterate 4 refine g_no rfl rfl rfl rfl rfl rfl ?_
 refine g_v rfl (r_pick0 rfl rfl) <| g_v rfl r_assign <| g_nil <| d_then <| c_ret <| d_ret_then ?_
 cases hm
 exact d_retC () Try.results5 (res_tmp (res_nil rfl)) trivial (fun W h => ok_pre (H1 := [_, _, _]) (R1 := []) h (fun W hφ => (q11 _ (q28 _ (q30 _ (q46 _ hφ)))))) (.inr rfl)
end Go.Proofs.Ytjbfgaahonmclaa
