import Derived.Test.YtildknbbpkbkeabV6A
set_option maxRecDepth 16384
set_option maxHeartbeats 4000000
set_option linter.unusedVariables false
set_option linter.unusedSimpArgs false
namespace Go.Proofs.Ytildknbbpkbkeab
open Go.RowKit Go.Proofs.YtildknbbpkbkeabW.PrintLast
theorem bld30_12  : ∀ W, (Instr.build 30 #[]).run Try.prog W = .ok (.agg #[.int .i64 0, .int .i64 0, .slice none 0 0, .string (⟨#[]⟩ : ByteArray), .int .i64 0, .int .i64 0, .slice none 0 0]) W := fun _ => by kernel_rfl
noncomputable def m_plog_within (p0 : Int) : Option Bool :=
  if 0 ≤ p0 then
    some (decide (p0 ≤ 1099511627776))
  else
    some false
theorem c_plog_within {w0 : World} {M : Nat → Prop} {H : List (Nat × Nat × Obj)} {R : List (Nat × Row)} {φ : World → Prop} (p0 : Int) (r : Bool) (hm : m_plog_within p0 = some r) :
    Cn Try.prog 26 #[.int .i64 p0] ⟨w0, M, H, R, φ⟩ (fun x : Unit => .bool r) (fun x => True) (fun x => ⟨w0, M, H, R, φ⟩) := by
 unfold m_plog_within at hm
 refine cn_intro (fn := Try.f26) (N := 9) Try.func26 rfl Try.ntmps26 rfl ?_
 refine c_seq ?_
 refine c_region ?_
 refine g_v rfl r_assign ?_
 refine g_nil ?_
 refine d_then ?_
 refine c_seq ?_
 refine c_region ?_
 refine g_v rfl r_move ?_
 refine g_v rfl (r_geq rfl rfl) ?_
 refine g_v rfl r_move ?_
 refine g_if rfl rfl rfl rfl rfl (fun h1 => ?_) (fun h1 => ?_)
 ·
  replace hm := ite_t hm (of_decide_eq_true h1)
  refine g_v rfl r_move ?_
  refine g_do rfl rfl rfl rfl rfl h1 ?_
  refine g_v rfl (r_leq rfl rfl) ?_
  refine g_v rfl (r_pick1 rfl h1) ?_
  refine g_v rfl r_assign ?_
  refine g_nil ?_
  refine d_then ?_
  refine c_ret ?_
  replace hm := Option.some.inj hm
  subst hm
  refine d_retC () Try.results26 ?_ trivial (fun W h => ok_pre (H1 := []) (R1 := []) h (fun W hφ => hφ)) (.inr rfl)
  refine res_tmp ?_
  refine res_nil ?_
  exact rfl
 ·
  replace hm := ite_f hm (of_decide_eq_false h1)
  refine g_no rfl rfl rfl rfl rfl h1 ?_
  refine g_v rfl (r_pick0 rfl h1) ?_
  refine g_v rfl r_assign ?_
  refine g_nil ?_
  refine d_then ?_
  refine c_ret ?_
  replace hm := Option.some.inj hm
  subst hm
  refine d_retC () Try.results26 ?_ trivial (fun W h => ok_pre (H1 := []) (R1 := []) h (fun W hφ => hφ)) (.inr rfl)
  refine res_tmp ?_
  refine res_nil ?_
  exact rfl

noncomputable def m_plog_Check_j1  : Option Int :=
  some 0
noncomputable def m_plog_Check_s2 (p0 : GLog) (i84 : Int) (i85 : Int) : Option ((Int × Int) ⊕ (Unit ⊕ Int)) :=
  if i85 < (p0.fEntries.length : Int) then
    (at_ p0.fEntries i85).bind fun x112 =>
    if x112.fTerm < i84 then
      some (.inr (.inr 1))
    else
      (m_plog_within x112.fTerm).bind fun x118 =>
      if x118 = true then
        if x112.fKind < 0 then
          some (.inr (.inr 1))
        else
          if 2 < x112.fKind then
            some (.inr (.inr 1))
          else
            if 8000 < (x112.fData.size : Int) then
              some (.inr (.inr 1))
            else
              (m_plog_List x112.fData).bind fun (z130 : (List Int) × Bool) =>
              if x112.fKind = 1 then
                if z130.2 = true then
                  some (.inl (x112.fTerm, w64 (i85 + 1)))
                else
                  some (.inr (.inr 1))
              else
                some (.inl (x112.fTerm, w64 (i85 + 1)))
      else
        some (.inr (.inr 1))
  else
    some (.inr (.inl ()))
noncomputable def m_plog_Check (p0 : GLog) : Option Int :=
  (m_plog_within p0.fBase).bind fun x2 =>
  if x2 = true then
    (m_plog_within p0.fBaseTerm).bind fun x5 =>
    if x5 = true then
      if 100000 < (p0.fEntries.length : Int) then
        some 1
      else
        (loop (fun s => m_plog_Check_s2 p0 s.1 s.2) (p0.fBaseTerm, 0)).bind fun e => Sum.elim (fun e => m_plog_Check_j1) (fun x => some x) e
    else
      some 1
  else
    some 1
theorem c_plog_Check {w0 : World} {M : Nat → Prop} {H : List (Nat × Nat × Obj)} {R : List (Nat × Row)} {φ : World → Prop} (p0 : GLog) (Ap0_0 : Option Addr) (cp0_0 : Nat) (hcp0_0 : p0.fEntries.length ≤ cp0_0) (fp0_0 : ∀ W, (Sta.mk w0 M H R φ).ok W → Cl W Ap0_0 (p0.fEntries.flatMap GEntry.enc)) (r : Int) (hm : m_plog_Check p0 = some r) :
    Cn Try.prog 25 #[.agg #[.int .i64 p0.fBase, .int .i64 p0.fBaseTerm, .slice Ap0_0 p0.fEntries.length cp0_0]] ⟨w0, M, H, R, φ⟩ (fun x : Unit => .int .i64 r) (fun x => True) (fun x => ⟨w0, M, H, R, φ⟩) := by
 unfold m_plog_Check at hm
 refine cn_intro (fn := Try.f25) (N := 75) Try.func25 rfl Try.ntmps25 rfl ?_
 refine c_seq ?_
 refine c_region ?_
 refine g_e rfl (e_box 100010 rfl) (fun g1 _ => ?_)
 refine g_v rfl r_assign ?_
 refine g_nil ?_
 refine d_then ?_
 refine c_seq ?_
 refine c_seq ?_
 refine c_region ?_
 refine g_v rfl (r_field (n := 0) Try.underlying28 rfl Try.sizeOf3 rfl rfl) ?_
 refine g_v rfl (r_load (tag := 100010) rfl rfl rfl Try.isAgg3) ?_
 replace hm := bnd hm
 obtain ⟨x2, hx3, hm⟩ := hm
 refine g_cn ⟨w0, M, _, _, φ⟩ (fun _ h => h) Try.call26 rfl rfl (c_plog_within p0.fBase _ hx3) (fun _ _ => ?_)
 refine g_v rfl (r_not rfl) ?_
 refine g_v rfl r_move ?_
 refine g_if rfl rfl rfl rfl rfl (fun h4 => ?_) (fun h4 => ?_)
 ·
  have h4' : x2 = true := by revert h4; cases x2 <;> simp
  replace hm := ite_t hm h4'
  refine g_v rfl (r_field (n := 1) Try.underlying28 rfl Try.sizeOf3 rfl rfl) ?_
  refine g_do rfl rfl rfl rfl rfl h4 ?_
  refine g_v rfl (r_load (tag := 100010) rfl rfl rfl Try.isAgg3) ?_
  refine g_do rfl rfl rfl rfl rfl h4 ?_
  replace hm := bnd hm
  obtain ⟨x5, hx6, hm⟩ := hm
  refine g_cn ⟨w0, M, _, _, φ⟩ (fun _ h => h) Try.call26 rfl rfl (c_plog_within p0.fBaseTerm _ hx6) (fun _ _ => ?_)
  refine g_do rfl rfl rfl rfl rfl h4 ?_
  refine g_v rfl (r_not rfl) ?_
  refine g_v rfl (r_pick0 rfl h4) ?_
  refine g_v rfl r_move ?_
  refine g_if rfl rfl rfl rfl rfl (fun h7 => ?_) (fun h7 => ?_)
  ·
   have h7' : x5 = true := by revert h7; cases x5 <;> simp
   replace hm := ite_t hm h7'
   refine g_v rfl (r_field (n := 2) Try.underlying28 rfl Try.sizeOf26 rfl rfl) ?_
   refine g_do rfl rfl rfl rfl rfl h7 ?_
   refine g_v rfl (r_load (tag := 100010) rfl rfl rfl Try.isAgg26) ?_
   refine g_do rfl rfl rfl rfl rfl h7 ?_
   refine g_v rfl (r_lenL Try.underlying26 rfl) ?_
   refine g_do rfl rfl rfl rfl rfl h7 ?_
   refine g_v rfl (r_gtr rfl rfl) ?_
   refine g_v rfl (r_pick0 rfl h7) ?_
   refine g_nil ?_
   refine d_then ?_
   refine c_flat [(1, .pointer (some ⟨g1, 0, none⟩)), (23, .bool (decide (100000 < (p0.fEntries.length : Int))))] ⟨rfl, rfl, trivial⟩ (fun u => ?_)
   refine c_sta ⟨w0, M, (100010, g1, .cells #[.int .i64 p0.fBase, .int .i64 p0.fBaseTerm, .slice Ap0_0 p0.fEntries.length cp0_0] 28 (0, 0)) :: H, R, φ⟩ (fun _ h => h) ?_
   refine c_cond rfl (fun h8 => ?_) (fun h8 => ?_)
   ·
    replace hm := ite_t hm (of_decide_eq_true h8)
    refine c_seq ?_
    refine c_region ?_
    refine g_v rfl r_assign ?_
    refine g_nil ?_
    refine d_then ?_
    refine c_ret ?_
    refine d_ret_then ?_
    replace hm := Option.some.inj hm
    subst hm
    refine d_retC () Try.results25 ?_ trivial (fun W h => ok_pre (H1 := [_]) (R1 := []) h (fun W hφ => hφ)) (.inr rfl)
    refine res_tmp ?_
    refine res_nil ?_
    exact rfl
   ·
    replace hm := ite_f hm (of_decide_eq_false h8)
    refine c_skip ?_
    refine d_then ?_
    refine c_seq ?_
    refine c_region ?_
    refine g_v rfl (r_field (n := 1) Try.underlying28 rfl Try.sizeOf3 rfl rfl) ?_
    refine g_v rfl (r_load (tag := 100010) rfl rfl rfl Try.isAgg3) ?_
    refine g_v rfl r_assign ?_
    refine g_nil ?_
    refine d_then ?_
    refine c_seq ?_
    refine c_seq ?_
    refine c_region ?_
    refine g_v rfl (r_field (n := 2) Try.underlying28 rfl Try.sizeOf26 rfl rfl) ?_
    refine g_v rfl (r_load (tag := 100010) rfl rfl rfl Try.isAgg26) ?_
    refine g_v rfl (r_lenL Try.underlying26 rfl) ?_
    refine g_v rfl r_move ?_
    refine g_nil ?_
    refine d_then ?_
    refine c_cut (ι := Unit) [] (fun _ => []) (fun _ => ⟨w0, M, H, R, φ⟩) (fun _ => m_plog_Check_j1 = some r) ?_ (fun _ u hm => ?_)
    ·
     refine c_block ?_
     replace hm := bnd hm
     obtain ⟨out2, hl2, hr2⟩ := hm
     obtain ⟨n110', hl2⟩ := loop_lp hl2
     refine c_loopU (ι := Nat × Int × Int) [3, 27, 28, 29] (fun ⟨n110, i84, i85⟩ => [(3, .int .i64 i84), (29, .int .i64 i85)]) (fun ⟨n110, i84, i85⟩ => ⟨w0, M, H, R, φ⟩) (fun ⟨n110, i84, i85⟩ => Lp (fun s => m_plog_Check_s2 p0 s.1 s.2) n110 (i84, i85) out2) (fun ⟨n110, i84, i85⟩ => n110) (n110', p0.fBaseTerm, 0) hl2 ⟨rfl, rfl, rfl, rfl, trivial⟩ (fun W h => (h.dropH (t := 100010) rfl).phi (fun W hφ => hφ)) (fun ⟨n110, i84, i85⟩ u hlp => ?_)
     obtain ⟨o2, hm, hnx2⟩ := lp_step hlp
     clear hlp
     replace hm : m_plog_Check_s2 p0 i84 i85 = some o2 := hm
     unfold m_plog_Check_s2 at hm
     refine c_flat [(3, .int .i64 i84), (27, .slice Ap0_0 p0.fEntries.length cp0_0), (28, .int .i64 (p0.fEntries.length : Int)), (29, .int .i64 i85)] ⟨rfl, rfl, rfl, rfl, trivial⟩ (fun u => ?_)
     refine c_sta ⟨w0, M, H, R, φ⟩ (fun _ h => h) ?_
     refine c_seq ?_
     refine c_region ?_
     refine g_v rfl (r_lss rfl rfl) ?_
     refine g_nil ?_
     refine d_then ?_
     refine c_seq ?_
     refine c_cond rfl (fun h111 => ?_) (fun h111 => ?_)
     ·
      replace hm := ite_t hm (of_decide_eq_true h111)
      refine c_skip ?_
      refine d_then ?_
      refine c_seq ?_
      refine c_block ?_
      refine c_seq ?_
      refine c_region ?_
      replace hm := bnd hm
      obtain ⟨x112, hx112, hm⟩ := hm
      refine g_know _ (fun W hS => cl_at (p := (Sta.mk w0 M H R φ).ok) (sz := 3) (fun _ => rfl) (by decide) (ok_pre (H1 := []) (R1 := []) hS (fun W h => h)) fp0_0 hx112) ?_
      rintro ⟨ad113, hA115, f114⟩
      refine g_v rfl (r_ix Try.underlying26 Try.sizeOf46 rfl hA115 rfl hx112) ?_
      refine g_v rfl (r_ldA rfl Try.isAgg46 Try.sizeOf46 (fun W hS => (f114 W (ok_pre (H1 := []) (R1 := []) hS (fun W h => h))).take 3) rfl) ?_
      refine g_e rfl (e_alloc 100050 Try.zeroValue46) (fun g116 _ => ?_)
      refine g_storeL (tag := 100050) rfl rfl rfl rfl Try.sizeOf46 rfl rfl ?_
      refine g_nil ?_
      refine d_then ?_
      refine c_seq ?_
      refine c_seq ?_
      refine c_region ?_
      refine g_v rfl (r_field (n := 0) Try.underlying46 rfl Try.sizeOf3 rfl rfl) ?_
      refine g_v rfl (r_load (tag := 100050) rfl rfl rfl Try.isAgg3) ?_
      refine g_v rfl r_move ?_
      refine g_v rfl (r_lss rfl rfl) ?_
      refine g_v rfl r_move ?_
      refine g_if rfl rfl rfl rfl rfl (fun h117 => ?_) (fun h117 => ?_)
      ·
       replace hm := ite_f hm (of_decide_eq_false h117)
       refine g_v rfl (r_field (n := 0) Try.underlying46 rfl Try.sizeOf3 rfl rfl) ?_
       refine g_do rfl rfl rfl rfl rfl h117 ?_
       refine g_v rfl (r_load (tag := 100050) rfl rfl rfl Try.isAgg3) ?_
       refine g_do rfl rfl rfl rfl rfl h117 ?_
       replace hm := bnd hm
       obtain ⟨x118, hx119, hm⟩ := hm
       refine g_cn ⟨w0, M, _, _, φ⟩ (fun _ h => h) Try.call26 rfl rfl (c_plog_within x112.fTerm _ hx119) (fun _ _ => ?_)
       refine g_do rfl rfl rfl rfl rfl h117 ?_
       refine g_v rfl (r_not rfl) ?_
       refine g_v rfl (r_pick0 rfl h117) ?_
       refine g_v rfl r_move ?_
       refine g_if rfl rfl rfl rfl rfl (fun h120 => ?_) (fun h120 => ?_)
       ·
        have h120' : x118 = true := by revert h120; cases x118 <;> simp
        replace hm := ite_t hm h120'
        refine g_v rfl (r_field (n := 1) Try.underlying46 rfl Try.sizeOf3 rfl rfl) ?_
        refine g_do rfl rfl rfl rfl rfl h120 ?_
        refine g_v rfl (r_load (tag := 100050) rfl rfl rfl Try.isAgg3) ?_
        refine g_do rfl rfl rfl rfl rfl h120 ?_
        refine g_v rfl (r_lss rfl rfl) ?_
        refine g_v rfl (r_pick0 rfl h120) ?_
        refine g_v rfl r_move ?_
        refine g_if rfl rfl rfl rfl rfl (fun h121 => ?_) (fun h121 => ?_)
        ·
         replace hm := ite_f hm (of_decide_eq_false h121)
         refine g_v rfl (r_field (n := 1) Try.underlying46 rfl Try.sizeOf3 rfl rfl) ?_
         refine g_do rfl rfl rfl rfl rfl h121 ?_
         refine g_v rfl (r_load (tag := 100050) rfl rfl rfl Try.isAgg3) ?_
         refine g_do rfl rfl rfl rfl rfl h121 ?_
         refine g_v rfl (r_gtr rfl rfl) ?_
         refine g_v rfl (r_pick0 rfl h121) ?_
         refine g_v rfl r_move ?_
         refine g_if rfl rfl rfl rfl rfl (fun h122 => ?_) (fun h122 => ?_)
         ·
          replace hm := ite_f hm (of_decide_eq_false h122)
          refine g_v rfl (r_field (n := 2) Try.underlying46 rfl Try.sizeOf9 rfl rfl) ?_
          refine g_do rfl rfl rfl rfl rfl h122 ?_
          refine g_v rfl (r_load (tag := 100050) rfl rfl rfl Try.isAgg9) ?_
          refine g_do rfl rfl rfl rfl rfl h122 ?_
          refine g_v rfl (r_len Try.underlying9 rfl) ?_
          refine g_do rfl rfl rfl rfl rfl h122 ?_
          refine g_v rfl (r_gtr rfl rfl) ?_
          refine g_v rfl (r_pick0 rfl h122) ?_
          refine g_nil ?_
          refine d_then ?_
          refine c_flat [(5, .pointer (some ⟨g116, 0, none⟩)), (27, .slice Ap0_0 p0.fEntries.length cp0_0), (28, .int .i64 (p0.fEntries.length : Int)), (29, .int .i64 i85), (58, .bool (decide (8000 < (x112.fData.size : Int))))] ⟨rfl, rfl, rfl, rfl, rfl, trivial⟩ (fun u => ?_)
          refine c_sta ⟨w0, M, (100050, g116, .cells #[.int .i64 x112.fTerm, .int .i64 x112.fKind, .string x112.fData] 46 (0, 0)) :: H, R, φ⟩ (fun _ h => h) ?_
          refine c_cond rfl (fun h123 => ?_) (fun h123 => ?_)
          ·
           replace hm := ite_t hm (of_decide_eq_true h123)
           refine c_seq ?_
           refine c_region ?_
           refine g_v rfl r_assign ?_
           refine g_nil ?_
           refine d_then ?_
           refine c_ret ?_
           refine d_ret_then ?_
           refine d_ret_block ?_
           refine d_ret_then ?_
           refine d_ret_then ?_
           refine d_ret_block ?_
           refine d_ret_then ?_
           refine d_ret_then ?_
           replace hm := nx_out (C := (fun e => Sum.elim (fun e => m_plog_Check_j1) (fun x => some x) e = some r)) hm hnx2 hr2
           replace hm : some 1 = some r := hm
           replace hm := Option.some.inj hm
           subst hm
           refine d_retC () Try.results25 ?_ trivial (fun W h => ok_pre (H1 := [_]) (R1 := []) h (fun W hφ => hφ)) (.inr rfl)
           refine res_tmp ?_
           refine res_nil ?_
           exact rfl
          ·
           replace hm := ite_f hm (of_decide_eq_false h123)
           refine c_skip ?_
           refine d_then ?_
           refine c_seq ?_
           refine c_region ?_
           refine g_v rfl (r_field (n := 2) Try.underlying46 rfl Try.sizeOf9 rfl rfl) ?_
           refine g_v rfl (r_load (tag := 100050) rfl rfl rfl Try.isAgg9) ?_
           replace hm := bnd hm
           obtain ⟨⟨x124, x125⟩, hx126, hm⟩ := hm
           refine g_cn ⟨w0, M, _, _, φ⟩ (fun _ h => h) Try.call37 rfl rfl (c_plog_List x112.fData _ hx126) (fun ⟨A127, c128⟩ hc128 => ?_)
           refine g_sta _ (fun W h => (ok_frontR (t := 2000) (t' := 100620) h rfl)) ?_
           refine g_v rfl r_move ?_
           refine g_v rfl (r_extract rfl rfl) ?_
           refine g_v rfl (r_extract rfl rfl) ?_
           refine g_v rfl r_assign ?_
           refine g_v rfl r_assign ?_
           refine g_nil ?_
           refine d_then ?_
           refine c_seq ?_
           refine c_seq ?_
           refine c_region ?_
           refine g_v rfl (r_field (n := 1) Try.underlying46 rfl Try.sizeOf3 rfl rfl) ?_
           refine g_v rfl (r_load (tag := 100050) rfl rfl rfl Try.isAgg3) ?_
           refine g_v rfl (r_eql rfl rfl) ?_
           refine g_v rfl r_move ?_
           refine g_if rfl rfl rfl rfl rfl (fun h131 => ?_) (fun h131 => ?_)
           ·
            replace hm := ite_t hm (of_decide_eq_true h131)
            refine g_v rfl r_move ?_
            refine g_do rfl rfl rfl rfl rfl h131 ?_
            refine g_v rfl (r_not rfl) ?_
            refine g_v rfl (r_pick1 rfl h131) ?_
            refine g_nil ?_
            refine d_then ?_
            refine c_flat [(5, .pointer (some ⟨g116, 0, none⟩)), (27, .slice Ap0_0 p0.fEntries.length cp0_0), (28, .int .i64 (p0.fEntries.length : Int)), (29, .int .i64 i85), (71, .bool (!x125))] ⟨rfl, rfl, rfl, rfl, rfl, trivial⟩ (fun u => ?_)
            refine c_sta ⟨w0, M, (100050, g116, .cells #[.int .i64 x112.fTerm, .int .i64 x112.fKind, .string x112.fData] 46 (0, 0)) :: H, (100620, ⟨.slice A127 x124.length c128, 3, 1, x124.length, x124.flatMap (fun x : Int => [Value.int .i64 x])⟩) :: R, φ⟩ (fun _ h => h) ?_
            refine c_cond rfl (fun h132 => ?_) (fun h132 => ?_)
            ·
             have h132' : x125 = false := by revert h132; cases x125 <;> simp
             replace hm := ite_f hm (bool_nt h132')
             refine c_seq ?_
             refine c_region ?_
             refine g_v rfl r_assign ?_
             refine g_nil ?_
             refine d_then ?_
             refine c_ret ?_
             refine d_ret_then ?_
             refine d_ret_block ?_
             refine d_ret_then ?_
             refine d_ret_then ?_
             refine d_ret_block ?_
             refine d_ret_then ?_
             refine d_ret_then ?_
             replace hm := nx_out (C := (fun e => Sum.elim (fun e => m_plog_Check_j1) (fun x => some x) e = some r)) hm hnx2 hr2
             replace hm : some 1 = some r := hm
             replace hm := Option.some.inj hm
             subst hm
             refine d_retC () Try.results25 ?_ trivial (fun W h => ok_pre (H1 := [_]) (R1 := [_]) h (fun W hφ => hφ)) (.inr rfl)
             refine res_tmp ?_
             refine res_nil ?_
             exact rfl
            ·
             have h132' : x125 = true := by revert h132; cases x125 <;> simp
             replace hm := ite_t hm h132'
             refine c_skip ?_
             refine d_then ?_
             refine c_region ?_
             refine g_v rfl (r_field (n := 0) Try.underlying46 rfl Try.sizeOf3 rfl rfl) ?_
             refine g_v rfl (r_load (tag := 100050) rfl rfl rfl Try.isAgg3) ?_
             refine g_v rfl r_assign ?_
             refine g_nil ?_
             refine d_normal_block ?_
             refine d_then ?_
             refine c_region ?_
             refine g_v rfl (r_add rfl rfl rfl) ?_
             refine g_v rfl r_move ?_
             refine g_nil ?_
             obtain ⟨n133, hn133, hlp⟩ := nx_inl hm hnx2
             exact d_round (n133, x112.fTerm, w64 (i85 + 1)) hlp hn133 ⟨rfl, rfl, rfl, rfl, trivial⟩ (fun W h => (((h.shut (t := 100620) rfl).phi (fun _ hh => hh.1)).dropH (t := 100050) rfl).phi (fun W hφ => hφ))
           ·
            replace hm := ite_f hm (of_decide_eq_false h131)
            refine g_no rfl rfl rfl rfl rfl h131 ?_
            refine g_v rfl (r_pick0 rfl h131) ?_
            refine g_nil ?_
            refine d_then ?_
            refine c_flat [(5, .pointer (some ⟨g116, 0, none⟩)), (27, .slice Ap0_0 p0.fEntries.length cp0_0), (28, .int .i64 (p0.fEntries.length : Int)), (29, .int .i64 i85), (71, .bool false)] ⟨rfl, rfl, rfl, rfl, rfl, trivial⟩ (fun u => ?_)
            refine c_sta ⟨w0, M, (100050, g116, .cells #[.int .i64 x112.fTerm, .int .i64 x112.fKind, .string x112.fData] 46 (0, 0)) :: H, (100620, ⟨.slice A127 x124.length c128, 3, 1, x124.length, x124.flatMap (fun x : Int => [Value.int .i64 x])⟩) :: R, φ⟩ (fun _ h => h) ?_
            refine c_cond0 rfl rfl ?_
            refine c_skip ?_
            refine d_then ?_
            refine c_region ?_
            refine g_v rfl (r_field (n := 0) Try.underlying46 rfl Try.sizeOf3 rfl rfl) ?_
            refine g_v rfl (r_load (tag := 100050) rfl rfl rfl Try.isAgg3) ?_
            refine g_v rfl r_assign ?_
            refine g_nil ?_
            refine d_normal_block ?_
            refine d_then ?_
            refine c_region ?_
            refine g_v rfl (r_add rfl rfl rfl) ?_
            refine g_v rfl r_move ?_
            refine g_nil ?_
            obtain ⟨n134, hn134, hlp⟩ := nx_inl hm hnx2
            exact d_round (n134, x112.fTerm, w64 (i85 + 1)) hlp hn134 ⟨rfl, rfl, rfl, rfl, trivial⟩ (fun W h => (((h.shut (t := 100620) rfl).phi (fun _ hh => hh.1)).dropH (t := 100050) rfl).phi (fun W hφ => hφ))
         ·
          replace hm := ite_t hm (of_decide_eq_true h122)
          refine g_no rfl rfl rfl rfl rfl h122 ?_
          refine g_no rfl rfl rfl rfl rfl h122 ?_
          refine g_no rfl rfl rfl rfl rfl h122 ?_
          refine g_v rfl (r_pick1 rfl h122) ?_
          refine g_nil ?_
          refine d_then ?_
          refine c_flat [(5, .pointer (some ⟨g116, 0, none⟩)), (27, .slice Ap0_0 p0.fEntries.length cp0_0), (28, .int .i64 (p0.fEntries.length : Int)), (29, .int .i64 i85), (58, .bool true)] ⟨rfl, rfl, rfl, rfl, rfl, trivial⟩ (fun u => ?_)
          refine c_sta ⟨w0, M, (100050, g116, .cells #[.int .i64 x112.fTerm, .int .i64 x112.fKind, .string x112.fData] 46 (0, 0)) :: H, R, φ⟩ (fun _ h => h) ?_
          refine c_cond1 rfl rfl ?_
          refine c_seq ?_
          refine c_region ?_
          refine g_v rfl r_assign ?_
          refine g_nil ?_
          refine d_then ?_
          refine c_ret ?_
          refine d_ret_then ?_
          refine d_ret_block ?_
          refine d_ret_then ?_
          refine d_ret_then ?_
          refine d_ret_block ?_
          refine d_ret_then ?_
          refine d_ret_then ?_
          replace hm := nx_out (C := (fun e => Sum.elim (fun e => m_plog_Check_j1) (fun x => some x) e = some r)) hm hnx2 hr2
          replace hm : some 1 = some r := hm
          replace hm := Option.some.inj hm
          subst hm
          refine d_retC () Try.results25 ?_ trivial (fun W h => ok_pre (H1 := [_]) (R1 := []) h (fun W hφ => hφ)) (.inr rfl)
          refine res_tmp ?_
          refine res_nil ?_
          exact rfl
        ·
         replace hm := ite_t hm (of_decide_eq_true h121)
         refine g_no rfl rfl rfl rfl rfl h121 ?_
         refine g_no rfl rfl rfl rfl rfl h121 ?_
         refine g_v rfl (r_pick1 rfl h121) ?_
         refine g_v rfl r_move ?_
         refine g_no rfl rfl rfl rfl rfl rfl ?_
         refine g_no rfl rfl rfl rfl rfl rfl ?_
         refine g_no rfl rfl rfl rfl rfl rfl ?_
         refine g_no rfl rfl rfl rfl rfl rfl ?_
         refine g_v rfl (r_pick1 rfl rfl) ?_
         refine g_nil ?_
         refine d_then ?_
         refine c_flat [(5, .pointer (some ⟨g116, 0, none⟩)), (27, .slice Ap0_0 p0.fEntries.length cp0_0), (28, .int .i64 (p0.fEntries.length : Int)), (29, .int .i64 i85), (58, .bool true)] ⟨rfl, rfl, rfl, rfl, rfl, trivial⟩ (fun u => ?_)
         refine c_sta ⟨w0, M, (100050, g116, .cells #[.int .i64 x112.fTerm, .int .i64 x112.fKind, .string x112.fData] 46 (0, 0)) :: H, R, φ⟩ (fun _ h => h) ?_
         refine c_cond1 rfl rfl ?_
         refine c_seq ?_
         refine c_region ?_
         refine g_v rfl r_assign ?_
         refine g_nil ?_
         refine d_then ?_
         refine c_ret ?_
         refine d_ret_then ?_
         refine d_ret_block ?_
         refine d_ret_then ?_
         refine d_ret_then ?_
         refine d_ret_block ?_
         refine d_ret_then ?_
         refine d_ret_then ?_
         replace hm := nx_out (C := (fun e => Sum.elim (fun e => m_plog_Check_j1) (fun x => some x) e = some r)) hm hnx2 hr2
         replace hm : some 1 = some r := hm
         replace hm := Option.some.inj hm
         subst hm
         refine d_retC () Try.results25 ?_ trivial (fun W h => ok_pre (H1 := [_]) (R1 := []) h (fun W hφ => hφ)) (.inr rfl)
         refine res_tmp ?_
         refine res_nil ?_
         exact rfl
       ·
        have h120' : x118 = false := by revert h120; cases x118 <;> simp
        replace hm := ite_f hm (bool_nt h120')
        refine g_no rfl rfl rfl rfl rfl h120 ?_
        refine g_no rfl rfl rfl rfl rfl h120 ?_
        refine g_v rfl (r_pick1 rfl h120) ?_
        refine g_v rfl r_move ?_
        refine g_no rfl rfl rfl rfl rfl rfl ?_
        refine g_no rfl rfl rfl rfl rfl rfl ?_
        refine g_no rfl rfl rfl rfl rfl rfl ?_
        refine g_v rfl (r_pick1 rfl rfl) ?_
        refine g_v rfl r_move ?_
        refine g_no rfl rfl rfl rfl rfl rfl ?_
        refine g_no rfl rfl rfl rfl rfl rfl ?_
        refine g_no rfl rfl rfl rfl rfl rfl ?_
        refine g_no rfl rfl rfl rfl rfl rfl ?_
        refine g_v rfl (r_pick1 rfl rfl) ?_
        refine g_nil ?_
        refine d_then ?_
        refine c_flat [(5, .pointer (some ⟨g116, 0, none⟩)), (27, .slice Ap0_0 p0.fEntries.length cp0_0), (28, .int .i64 (p0.fEntries.length : Int)), (29, .int .i64 i85), (58, .bool true)] ⟨rfl, rfl, rfl, rfl, rfl, trivial⟩ (fun u => ?_)
        refine c_sta ⟨w0, M, (100050, g116, .cells #[.int .i64 x112.fTerm, .int .i64 x112.fKind, .string x112.fData] 46 (0, 0)) :: H, R, φ⟩ (fun _ h => h) ?_
        refine c_cond1 rfl rfl ?_
        refine c_seq ?_
        refine c_region ?_
        refine g_v rfl r_assign ?_
        refine g_nil ?_
        refine d_then ?_
        refine c_ret ?_
        refine d_ret_then ?_
        refine d_ret_block ?_
        refine d_ret_then ?_
        refine d_ret_then ?_
        refine d_ret_block ?_
        refine d_ret_then ?_
        refine d_ret_then ?_
        replace hm := nx_out (C := (fun e => Sum.elim (fun e => m_plog_Check_j1) (fun x => some x) e = some r)) hm hnx2 hr2
        replace hm : some 1 = some r := hm
        replace hm := Option.some.inj hm
        subst hm
        refine d_retC () Try.results25 ?_ trivial (fun W h => ok_pre (H1 := [_]) (R1 := []) h (fun W hφ => hφ)) (.inr rfl)
        refine res_tmp ?_
        refine res_nil ?_
        exact rfl
      ·
       replace hm := ite_t hm (of_decide_eq_true h117)
       refine g_no rfl rfl rfl rfl rfl h117 ?_
       refine g_no rfl rfl rfl rfl rfl h117 ?_
       refine g_no rfl rfl rfl rfl rfl h117 ?_
       refine g_v rfl (r_pick1 rfl h117) ?_
       refine g_v rfl r_move ?_
       refine g_no rfl rfl rfl rfl rfl rfl ?_
       refine g_no rfl rfl rfl rfl rfl rfl ?_
       refine g_no rfl rfl rfl rfl rfl rfl ?_
       refine g_v rfl (r_pick1 rfl rfl) ?_
       refine g_v rfl r_move ?_
       refine g_no rfl rfl rfl rfl rfl rfl ?_
       refine g_no rfl rfl rfl rfl rfl rfl ?_
       refine g_no rfl rfl rfl rfl rfl rfl ?_
       refine g_v rfl (r_pick1 rfl rfl) ?_
       refine g_v rfl r_move ?_
       refine g_no rfl rfl rfl rfl rfl rfl ?_
       refine g_no rfl rfl rfl rfl rfl rfl ?_
       refine g_no rfl rfl rfl rfl rfl rfl ?_
       refine g_no rfl rfl rfl rfl rfl rfl ?_
       refine g_v rfl (r_pick1 rfl rfl) ?_
       refine g_nil ?_
       refine d_then ?_
       refine c_flat [(5, .pointer (some ⟨g116, 0, none⟩)), (27, .slice Ap0_0 p0.fEntries.length cp0_0), (28, .int .i64 (p0.fEntries.length : Int)), (29, .int .i64 i85), (58, .bool true)] ⟨rfl, rfl, rfl, rfl, rfl, trivial⟩ (fun u => ?_)
       refine c_sta ⟨w0, M, (100050, g116, .cells #[.int .i64 x112.fTerm, .int .i64 x112.fKind, .string x112.fData] 46 (0, 0)) :: H, R, φ⟩ (fun _ h => h) ?_
       refine c_cond1 rfl rfl ?_
       refine c_seq ?_
       refine c_region ?_
       refine g_v rfl r_assign ?_
       refine g_nil ?_
       refine d_then ?_
       refine c_ret ?_
       refine d_ret_then ?_
       refine d_ret_block ?_
       refine d_ret_then ?_
       refine d_ret_then ?_
       refine d_ret_block ?_
       refine d_ret_then ?_
       refine d_ret_then ?_
       replace hm := nx_out (C := (fun e => Sum.elim (fun e => m_plog_Check_j1) (fun x => some x) e = some r)) hm hnx2 hr2
       replace hm : some 1 = some r := hm
       replace hm := Option.some.inj hm
       subst hm
       refine d_retC () Try.results25 ?_ trivial (fun W h => ok_pre (H1 := [_]) (R1 := []) h (fun W hφ => hφ)) (.inr rfl)
       refine res_tmp ?_
       refine res_nil ?_
       exact rfl
     ·
      replace hm := ite_f hm (of_decide_eq_false h111)
      refine c_exit ?_
      refine d_exit_then ?_
      refine d_exit_then ?_
      refine d_exit_block ?_
      replace hm := nx_out (C := (fun e => Sum.elim (fun e => m_plog_Check_j1) (fun x => some x) e = some r)) hm hnx2 hr2
      exact d_round () hm Nat.zero_lt_one trivial (fun W h => h.phi (fun W hφ => hφ))
    ·
     unfold m_plog_Check_j1 at hm
     refine d_flat [] trivial (fun u => ?_)
     refine d_sta ⟨w0, M, H, R, φ⟩ (fun _ h => h) ?_
     refine d_then ?_
     refine c_seq ?_
     refine c_region ?_
     refine g_v rfl r_assign ?_
     refine g_nil ?_
     refine d_then ?_
     refine c_ret ?_
     replace hm := Option.some.inj hm
     subst hm
     refine d_retC () Try.results25 ?_ trivial (fun W h => ok_pre (H1 := []) (R1 := []) h (fun W hφ => hφ)) (.inr rfl)
     refine res_tmp ?_
     refine res_nil ?_
     exact rfl
  ·
   have h7' : x5 = false := by revert h7; cases x5 <;> simp
   replace hm := ite_f hm (bool_nt h7')
   refine g_no rfl rfl rfl rfl rfl h7 ?_
   refine g_no rfl rfl rfl rfl rfl h7 ?_
   refine g_no rfl rfl rfl rfl rfl h7 ?_
   refine g_v rfl (r_pick1 rfl h7) ?_
   refine g_nil ?_
   refine d_then ?_
   refine c_flat [(1, .pointer (some ⟨g1, 0, none⟩)), (23, .bool true)] ⟨rfl, rfl, trivial⟩ (fun u => ?_)
   refine c_sta ⟨w0, M, (100010, g1, .cells #[.int .i64 p0.fBase, .int .i64 p0.fBaseTerm, .slice Ap0_0 p0.fEntries.length cp0_0] 28 (0, 0)) :: H, R, φ⟩ (fun _ h => h) ?_
   refine c_cond1 rfl rfl ?_
   refine c_seq ?_
   refine c_region ?_
   refine g_v rfl r_assign ?_
   refine g_nil ?_
   refine d_then ?_
   refine c_ret ?_
   refine d_ret_then ?_
   replace hm := Option.some.inj hm
   subst hm
   refine d_retC () Try.results25 ?_ trivial (fun W h => ok_pre (H1 := [_]) (R1 := []) h (fun W hφ => hφ)) (.inr rfl)
   refine res_tmp ?_
   refine res_nil ?_
   exact rfl
 ·
  have h4' : x2 = false := by revert h4; cases x2 <;> simp
  replace hm := ite_f hm (bool_nt h4')
  refine g_no rfl rfl rfl rfl rfl h4 ?_
  refine g_no rfl rfl rfl rfl rfl h4 ?_
  refine g_no rfl rfl rfl rfl rfl h4 ?_
  refine g_v rfl (r_pick1 rfl h4) ?_
  refine g_v rfl r_move ?_
  refine g_no rfl rfl rfl rfl rfl rfl ?_
  refine g_no rfl rfl rfl rfl rfl rfl ?_
  refine g_no rfl rfl rfl rfl rfl rfl ?_
  refine g_no rfl rfl rfl rfl rfl rfl ?_
  refine g_v rfl (r_pick1 rfl rfl) ?_
  refine g_nil ?_
  refine d_then ?_
  refine c_flat [(1, .pointer (some ⟨g1, 0, none⟩)), (23, .bool true)] ⟨rfl, rfl, trivial⟩ (fun u => ?_)
  refine c_sta ⟨w0, M, (100010, g1, .cells #[.int .i64 p0.fBase, .int .i64 p0.fBaseTerm, .slice Ap0_0 p0.fEntries.length cp0_0] 28 (0, 0)) :: H, R, φ⟩ (fun _ h => h) ?_
  refine c_cond1 rfl rfl ?_
  refine c_seq ?_
  refine c_region ?_
  refine g_v rfl r_assign ?_
  refine g_nil ?_
  refine d_then ?_
  refine c_ret ?_
  refine d_ret_then ?_
  replace hm := Option.some.inj hm
  subst hm
  refine d_retC () Try.results25 ?_ trivial (fun W h => ok_pre (H1 := [_]) (R1 := []) h (fun W hφ => hφ)) (.inr rfl)
  refine res_tmp ?_
  refine res_nil ?_
  exact rfl

noncomputable def m_plog_Load_j1  (i89 : Int) (i90 : Int) (l91 : List Int) (s95 : ByteArray) (i96 : Int) (i97 : Int) (l98 : List GEntry) : Option (GHard × Int) :=
  (m_plog_Check (⟨i96, i97, l98⟩ : GLog)).bind fun x103 =>
  if x103 ≠ 0 then
    some ((⟨0, 0, ([] : List Int), (⟨#[]⟩ : ByteArray), (⟨0, 0, ([] : List GEntry)⟩ : GLog)⟩ : GHard), 10)
  else
    (m_plog_within i89).bind fun x106 =>
    if x106 = true then
      (m_plog_within i90).bind fun x109 =>
      if x109 = true then
        some ((⟨i89, i90, l91, s95, (⟨i96, i97, l98⟩ : GLog)⟩ : GHard), 0)
      else
        some ((⟨0, 0, ([] : List Int), (⟨#[]⟩ : ByteArray), (⟨0, 0, ([] : List GEntry)⟩ : GLog)⟩ : GHard), 10)
    else
      some ((⟨0, 0, ([] : List Int), (⟨#[]⟩ : ByteArray), (⟨0, 0, ([] : List GEntry)⟩ : GLog)⟩ : GHard), 10)
noncomputable def m_plog_Load_j3 (i148 : Int) (i149 : Int) (l150 : List Int) (s154 : ByteArray) (i155 : Int) (i156 : Int) (l157 : List GEntry) (x200 : ByteArray) (i147 : Int) : Option ((Int × Int × Int × (List Int) × ByteArray × Int × Int × (List GEntry)) ⊕ ((Int × Int × (List Int) × ByteArray × Int × Int × (List GEntry)) ⊕ (GHard × Int))) :=
  (m_plog_read (⟨i148, i149, l150, s154, (⟨i155, i156, l157⟩ : GLog)⟩ : GHard) x200).bind fun (z218 : GHard × Bool) =>
  if z218.2 = true then
    some (.inl (w64 (i147 + 1), z218.1.fTerm, z218.1.fVote, z218.1.fVoters, z218.1.fSnap, z218.1.fLog.fBase, z218.1.fLog.fBaseTerm, z218.1.fLog.fEntries))
  else
    some (.inr (.inr ((⟨0, 0, ([] : List Int), (⟨#[]⟩ : ByteArray), (⟨0, 0, ([] : List GEntry)⟩ : GLog)⟩ : GHard), 10)))
noncomputable def m_plog_Load_s2 (p0 : List ByteArray) (i147 : Int) (i148 : Int) (i149 : Int) (l150 : List Int) (s154 : ByteArray) (i155 : Int) (i156 : Int) (l157 : List GEntry) : Option ((Int × Int × Int × (List Int) × ByteArray × Int × Int × (List GEntry)) ⊕ ((Int × Int × (List Int) × ByteArray × Int × Int × (List GEntry)) ⊕ (GHard × Int))) :=
  if i147 < (p0.length : Int) then
    (at_ p0 i147).bind fun x200 =>
    if x200 = (⟨#[]⟩ : ByteArray) then
      some (.inr (.inr ((⟨0, 0, ([] : List Int), (⟨#[]⟩ : ByteArray), (⟨0, 0, ([] : List GEntry)⟩ : GLog)⟩ : GHard), 10)))
    else
      if i147 = 0 then
        (sat_ x200 0).bind fun b224 =>
        if b224 ≠ 87 then
          some (.inr (.inr ((⟨0, 0, ([] : List Int), (⟨#[]⟩ : ByteArray), (⟨0, 0, ([] : List GEntry)⟩ : GLog)⟩ : GHard), 10)))
        else
          m_plog_Load_j3 i148 i149 l150 s154 i155 i156 l157 x200 i147
      else
        m_plog_Load_j3 i148 i149 l150 s154 i155 i156 l157 x200 i147
  else
    some (.inr (.inl (i148, i149, l150, s154, i155, i156, l157)))
noncomputable def m_plog_Load (p0 : List ByteArray) : Option (GHard × Int) :=
  (loop (fun s => m_plog_Load_s2 p0 s.1 s.2.1 s.2.2.1 s.2.2.2.1 s.2.2.2.2.1 s.2.2.2.2.2.1 s.2.2.2.2.2.2.1 s.2.2.2.2.2.2.2) (0, 0, 0, ([] : List Int), (⟨#[]⟩ : ByteArray), 0, 0, ([] : List GEntry))).bind fun e => Sum.elim (fun e => m_plog_Load_j1 e.1 e.2.1 e.2.2.1 e.2.2.2.1 e.2.2.2.2.1 e.2.2.2.2.2.1 e.2.2.2.2.2.2) (fun x => some x) e
theorem c_plog_Load {w0 : World} {M : Nat → Prop} {H : List (Nat × Nat × Obj)} {R : List (Nat × Row)} {φ : World → Prop} (p0 : List ByteArray) (Ap0_0 : Option Addr) (cp0_0 : Nat) (hcp0_0 : p0.length ≤ cp0_0) (fp0_0 : ∀ W, (Sta.mk w0 M H R φ).ok W → Cl W Ap0_0 (p0.flatMap (fun x : ByteArray => [Value.string x]))) (r : GHard × Int) (hm : m_plog_Load p0 = some r) :
    Cn Try.prog 8 #[.slice Ap0_0 p0.length cp0_0] ⟨w0, M, H, R, φ⟩ (fun x : Option Addr × Nat × Option Addr × Nat => .tuple #[.agg #[.int .i64 r.1.fTerm, .int .i64 r.1.fVote, .slice x.1 r.1.fVoters.length x.2.1, .string r.1.fSnap, .int .i64 r.1.fLog.fBase, .int .i64 r.1.fLog.fBaseTerm, .slice x.2.2.1 r.1.fLog.fEntries.length x.2.2.2], .int .i64 r.2]) (fun x => r.1.fVoters.length ≤ x.2.1 ∧ r.1.fLog.fEntries.length ≤ x.2.2.2) (fun x => ⟨w0, M, H, R, fun W => φ W ∧ Cl W x.1 (r.1.fVoters.flatMap (fun x : Int => [Value.int .i64 x])) ∧ Cl W x.2.2.1 (r.1.fLog.fEntries.flatMap GEntry.enc)⟩) := by
 unfold m_plog_Load at hm
 refine cn_intro (fn := Try.f8) (N := 57) Try.func8 rfl Try.ntmps8 rfl ?_
 refine c_seq ?_
 refine c_region ?_
 refine g_e rfl (e_alloc 100020 Try.zeroValue30) (fun g1 _ => ?_)
 refine g_v rfl r_assign ?_
 refine g_nil ?_
 refine d_then ?_
 refine c_seq ?_
 refine c_region ?_
 refine g_e rfl (e_alloc 100040 Try.zeroValue30) (fun g2 _ => ?_)
 refine g_nil ?_
 refine d_then ?_
 refine c_seq ?_
 refine c_seq ?_
 refine c_region ?_
 refine g_v rfl r_move ?_
 refine g_v rfl (r_lenL Try.underlying24 rfl) ?_
 refine g_v rfl r_move ?_
 refine g_nil ?_
 refine d_then ?_
 refine c_cut (ι := Int × Int × (List Int) × ByteArray × Int × Int × (List GEntry) × Option Addr × Nat × Option Addr × Nat) [2, 4] (fun ⟨i89, i90, l91, s95, i96, i97, l98, A92, c93, A99, c100⟩ => []) (fun ⟨i89, i90, l91, s95, i96, i97, l98, A92, c93, A99, c100⟩ => ⟨w0, M, (100040, g2, .cells #[.int .i64 i89, .int .i64 i90, .slice A92 l91.length c93, .string s95, .int .i64 i96, .int .i64 i97, .slice A99 l98.length c100] 30 (0, 0)) :: (100020, g1, .cells #[.int .i64 0, .int .i64 0, .slice none 0 0, .string (⟨#[]⟩ : ByteArray), .int .i64 0, .int .i64 0, .slice none 0 0] 30 (0, 0)) :: H, R, fun W => φ W ∧ Cl W A92 (l91.flatMap (fun x : Int => [Value.int .i64 x])) ∧ Cl W A99 (l98.flatMap GEntry.enc)⟩) (fun ⟨i89, i90, l91, s95, i96, i97, l98, A92, c93, A99, c100⟩ => m_plog_Load_j1 i89 i90 l91 s95 i96 i97 l98 = some r ∧ l91.length ≤ c93 ∧ l98.length ≤ c100) ?_ (fun ⟨i89, i90, l91, s95, i96, i97, l98, A92, c93, A99, c100⟩ u ⟨hm, hc93, hc100⟩ => ?_)
 ·
  refine c_block ?_
  replace hm := bnd hm
  obtain ⟨out2, hl2, hr2⟩ := hm
  obtain ⟨n197', hl2⟩ := loop_lp hl2
  refine c_loopU (ι := Nat × Int × Int × Int × (List Int) × ByteArray × Int × Int × (List GEntry) × Option Addr × Nat × Option Addr × Nat) [2, 4, 9, 10, 11] (fun ⟨n197, i147, i148, i149, l150, s154, i155, i156, l157, A151, c152, A158, c159⟩ => [(11, .int .i64 i147)]) (fun ⟨n197, i147, i148, i149, l150, s154, i155, i156, l157, A151, c152, A158, c159⟩ => ⟨w0, M, (100040, g2, .cells #[.int .i64 i148, .int .i64 i149, .slice A151 l150.length c152, .string s154, .int .i64 i155, .int .i64 i156, .slice A158 l157.length c159] 30 (0, 0)) :: (100020, g1, .cells #[.int .i64 0, .int .i64 0, .slice none 0 0, .string (⟨#[]⟩ : ByteArray), .int .i64 0, .int .i64 0, .slice none 0 0] 30 (0, 0)) :: H, R, fun W => φ W ∧ Cl W A151 (l150.flatMap (fun x : Int => [Value.int .i64 x])) ∧ Cl W A158 (l157.flatMap GEntry.enc)⟩) (fun ⟨n197, i147, i148, i149, l150, s154, i155, i156, l157, A151, c152, A158, c159⟩ => Lp (fun s => m_plog_Load_s2 p0 s.1 s.2.1 s.2.2.1 s.2.2.2.1 s.2.2.2.2.1 s.2.2.2.2.2.1 s.2.2.2.2.2.2.1 s.2.2.2.2.2.2.2) n197 (i147, i148, i149, l150, s154, i155, i156, l157) out2 ∧ l150.length ≤ c152 ∧ l157.length ≤ c159) (fun ⟨n197, i147, i148, i149, l150, s154, i155, i156, l157, A151, c152, A158, c159⟩ => n197) (n197', 0, 0, 0, ([] : List Int), (⟨#[]⟩ : ByteArray), 0, 0, ([] : List GEntry), none, 0, none, 0) ⟨hl2, (Nat.le_refl 0), (Nat.le_refl 0)⟩ ⟨rfl, rfl, rfl, rfl, rfl, trivial⟩ (fun W h => h.phi (fun W hφ => ⟨hφ, (fun W _ => Cl.nil _ _) W hφ, (fun W _ => Cl.nil _ _) W hφ⟩)) (fun ⟨n197, i147, i148, i149, l150, s154, i155, i156, l157, A151, c152, A158, c159⟩ u ⟨hlp, hc152, hc159⟩ => ?_)
  obtain ⟨o2, hm, hnx2⟩ := lp_step hlp
  clear hlp
  replace hm : m_plog_Load_s2 p0 i147 i148 i149 l150 s154 i155 i156 l157 = some o2 := hm
  unfold m_plog_Load_s2 at hm
  refine c_abs (fun φ198 q198' => ?_)
  have q198 : ∀ W, φ198 W → φ W := fun W h => (q198' W h).1
  have f153 := fun (W : World) (h : φ198 W) => (q198' W h).2.1
  have f160 := fun (W : World) (h : φ198 W) => (q198' W h).2.2
  refine c_flat [(2, .pointer (some ⟨g1, 0, none⟩)), (4, .pointer (some ⟨g2, 0, none⟩)), (9, .slice Ap0_0 p0.length cp0_0), (10, .int .i64 (p0.length : Int)), (11, .int .i64 i147)] ⟨rfl, rfl, rfl, rfl, rfl, trivial⟩ (fun u => ?_)
  refine c_sta ⟨w0, M, (100040, g2, .cells #[.int .i64 i148, .int .i64 i149, .slice A151 l150.length c152, .string s154, .int .i64 i155, .int .i64 i156, .slice A158 l157.length c159] 30 (0, 0)) :: (100020, g1, .cells #[.int .i64 0, .int .i64 0, .slice none 0 0, .string (⟨#[]⟩ : ByteArray), .int .i64 0, .int .i64 0, .slice none 0 0] 30 (0, 0)) :: H, R, φ198⟩ (fun _ h => h) ?_
  refine c_seq ?_
  refine c_region ?_
  refine g_v rfl (r_lss rfl rfl) ?_
  refine g_nil ?_
  refine d_then ?_
  refine c_seq ?_
  refine c_cond rfl (fun h199 => ?_) (fun h199 => ?_)
  ·
   replace hm := ite_t hm (of_decide_eq_true h199)
   refine c_skip ?_
   refine d_then ?_
   refine c_seq ?_
   refine c_block ?_
   refine c_seq ?_
   refine c_region ?_
   refine g_v rfl r_move ?_
   replace hm := bnd hm
   obtain ⟨x200, hx200, hm⟩ := hm
   refine g_know _ (fun W hS => cl_at (p := (Sta.mk w0 M H R φ).ok) (sz := 1) (fun _ => rfl) (by decide) (ok_pre (H1 := [_, _]) (R1 := []) hS (fun W h => (q198 _ h))) fp0_0 hx200) ?_
   rintro ⟨ad201, hA203, f202⟩
   refine g_v rfl (r_ix Try.underlying24 Try.sizeOf9 rfl hA203 rfl hx200) ?_
   refine g_v rfl (r_ld rfl Try.isAgg9 (fun W hS => Cl.head (f202 W (ok_pre (H1 := [_, _]) (R1 := []) hS (fun W h => (q198 _ h)))))) ?_
   refine g_v rfl r_assign ?_
   refine g_v rfl r_assign ?_
   refine g_nil ?_
   refine d_then ?_
   refine c_seq ?_
   refine c_cut (ι := Unit) [2, 4, 6, 9, 10, 11] (fun _ => []) (fun _ => ⟨w0, M, (100040, g2, .cells #[.int .i64 i148, .int .i64 i149, .slice A151 l150.length c152, .string s154, .int .i64 i155, .int .i64 i156, .slice A158 l157.length c159] 30 (0, 0)) :: (100020, g1, .cells #[.int .i64 0, .int .i64 0, .slice none 0 0, .string (⟨#[]⟩ : ByteArray), .int .i64 0, .int .i64 0, .slice none 0 0] 30 (0, 0)) :: H, R, φ198⟩) (fun _ => m_plog_Load_j3 i148 i149 l150 s154 i155 i156 l157 x200 i147 = some o2) ?_ (fun _ u hm => ?_)
   ·
    refine c_seq ?_
    refine c_region ?_
    refine g_v rfl r_move ?_
    refine g_v rfl (r_eqlT rfl rfl) ?_
    refine g_v rfl r_move ?_
    refine g_if rfl rfl rfl rfl rfl (fun h222 => ?_) (fun h222 => ?_)
    ·
     replace hm := ite_f hm (of_decide_eq_false h222)
     refine g_v rfl r_move ?_
     refine g_do rfl rfl rfl rfl rfl h222 ?_
     refine g_v rfl (r_eql rfl rfl) ?_
     refine g_do rfl rfl rfl rfl rfl h222 ?_
     refine g_v rfl r_move ?_
     refine g_if rfl rfl rfl rfl rfl (fun h223 => ?_) (fun h223 => ?_)
     ·
      replace hm := ite_t hm (of_decide_eq_true h223)
      refine g_v rfl r_move ?_
      refine g_do rfl rfl rfl rfl rfl h223 ?_
      replace hm := bnd hm
      obtain ⟨b224, hb224, hm⟩ := hm
      refine g_v rfl (r_sat Try.underlying9 rfl rfl hb224) ?_
      refine g_do rfl rfl rfl rfl rfl h223 ?_
      refine g_v rfl (r_neq rfl rfl) ?_
      refine g_do rfl rfl rfl rfl rfl h222 ?_
      refine g_v rfl (r_pick1 rfl h223) ?_
      refine g_v rfl (r_pick0 rfl h222) ?_
      refine g_nil ?_
      refine d_then ?_
      refine c_flat [(2, .pointer (some ⟨g1, 0, none⟩)), (4, .pointer (some ⟨g2, 0, none⟩)), (6, .string x200), (9, .slice Ap0_0 p0.length cp0_0), (10, .int .i64 (p0.length : Int)), (11, .int .i64 i147), (26, .bool (decide (b224 ≠ 87)))] ⟨rfl, rfl, rfl, rfl, rfl, rfl, rfl, trivial⟩ (fun u => ?_)
      refine c_sta ⟨w0, M, (100040, g2, .cells #[.int .i64 i148, .int .i64 i149, .slice A151 l150.length c152, .string s154, .int .i64 i155, .int .i64 i156, .slice A158 l157.length c159] 30 (0, 0)) :: (100020, g1, .cells #[.int .i64 0, .int .i64 0, .slice none 0 0, .string (⟨#[]⟩ : ByteArray), .int .i64 0, .int .i64 0, .slice none 0 0] 30 (0, 0)) :: H, R, φ198⟩ (fun _ h => h) ?_
      refine c_cond rfl (fun h225 => ?_) (fun h225 => ?_)
      ·
       replace hm := ite_t hm (of_decide_eq_true h225)
       refine c_seq ?_
       refine c_region ?_
       refine g_v rfl (r_build _ rfl (bld30_12)) ?_
       refine g_storeL (tag := 100020) rfl rfl rfl rfl Try.sizeOf30 rfl rfl ?_
       refine g_v rfl r_assign ?_
       refine g_nil ?_
       refine d_then ?_
       refine c_ret ?_
       refine d_ret_then ?_
       refine d_ret_then ?_
       refine d_ret_block ?_
       refine d_ret_then ?_
       refine d_ret_then ?_
       refine d_ret_block ?_
       refine d_ret_then ?_
       refine d_ret_then ?_
       replace hm := nx_out (C := (fun e => Sum.elim (fun e => m_plog_Load_j1 e.1 e.2.1 e.2.2.1 e.2.2.2.1 e.2.2.2.2.1 e.2.2.2.2.2.1 e.2.2.2.2.2.2) (fun x => some x) e = some r)) hm hnx2 hr2
       replace hm : some ((⟨0, 0, ([] : List Int), (⟨#[]⟩ : ByteArray), (⟨0, 0, ([] : List GEntry)⟩ : GLog)⟩ : GHard), 10) = some r := hm
       replace hm := Option.some.inj hm
       subst hm
       refine d_retC (none, 0, none, 0) Try.results8 ?_ ⟨(Nat.le_refl 0), (Nat.le_refl 0)⟩ (fun W h => ok_pre (H1 := [_, _]) (R1 := []) h (fun W hφ => ⟨(q198 _ hφ), (fun W _ => Cl.nil _ _) W hφ, (fun W _ => Cl.nil _ _) W hφ⟩)) (.inr rfl)
       refine res_agg (tag := 100020) rfl rfl Try.isAgg30 Try.sizeOf30 ?_
       refine res_tmp ?_
       refine res_nil ?_
       exact rfl
      ·
       replace hm := ite_f hm (of_decide_eq_false h225)
       refine c_skip ?_
       exact d_round () hm Nat.zero_lt_one ⟨rfl, rfl, rfl, rfl, rfl, rfl, trivial⟩ (fun W h => h.phi (fun W hφ => hφ))
     ·
      replace hm := ite_f hm (of_decide_eq_false h223)
      refine g_no rfl rfl rfl rfl rfl h223 ?_
      refine g_no rfl rfl rfl rfl rfl h223 ?_
      refine g_do rfl rfl rfl rfl rfl h222 ?_
      refine g_v rfl (r_pick0 rfl h223) ?_
      refine g_v rfl (r_pick0 rfl h222) ?_
      refine g_nil ?_
      refine d_then ?_
      refine c_flat [(2, .pointer (some ⟨g1, 0, none⟩)), (4, .pointer (some ⟨g2, 0, none⟩)), (6, .string x200), (9, .slice Ap0_0 p0.length cp0_0), (10, .int .i64 (p0.length : Int)), (11, .int .i64 i147), (26, .bool false)] ⟨rfl, rfl, rfl, rfl, rfl, rfl, rfl, trivial⟩ (fun u => ?_)
      refine c_sta ⟨w0, M, (100040, g2, .cells #[.int .i64 i148, .int .i64 i149, .slice A151 l150.length c152, .string s154, .int .i64 i155, .int .i64 i156, .slice A158 l157.length c159] 30 (0, 0)) :: (100020, g1, .cells #[.int .i64 0, .int .i64 0, .slice none 0 0, .string (⟨#[]⟩ : ByteArray), .int .i64 0, .int .i64 0, .slice none 0 0] 30 (0, 0)) :: H, R, φ198⟩ (fun _ h => h) ?_
      refine c_cond0 rfl rfl ?_
      refine c_skip ?_
      exact d_round () hm Nat.zero_lt_one ⟨rfl, rfl, rfl, rfl, rfl, rfl, trivial⟩ (fun W h => h.phi (fun W hφ => hφ))
    ·
     replace hm := ite_t hm (of_decide_eq_true h222)
     refine g_no rfl rfl rfl rfl rfl h222 ?_
     refine g_no rfl rfl rfl rfl rfl h222 ?_
     refine g_nu rfl rfl rfl rfl rfl ?_
     refine g_nu rfl rfl rfl rfl rfl ?_
     refine g_nu rfl rfl rfl rfl rfl ?_
     refine g_no rfl rfl rfl rfl rfl h222 ?_
     refine g_v rfl (r_pick1 rfl h222) ?_
     refine g_nil ?_
     refine d_then ?_
     refine c_flat [(2, .pointer (some ⟨g1, 0, none⟩)), (4, .pointer (some ⟨g2, 0, none⟩)), (6, .string x200), (9, .slice Ap0_0 p0.length cp0_0), (10, .int .i64 (p0.length : Int)), (11, .int .i64 i147), (26, .bool true)] ⟨rfl, rfl, rfl, rfl, rfl, rfl, rfl, trivial⟩ (fun u => ?_)
     refine c_sta ⟨w0, M, (100040, g2, .cells #[.int .i64 i148, .int .i64 i149, .slice A151 l150.length c152, .string s154, .int .i64 i155, .int .i64 i156, .slice A158 l157.length c159] 30 (0, 0)) :: (100020, g1, .cells #[.int .i64 0, .int .i64 0, .slice none 0 0, .string (⟨#[]⟩ : ByteArray), .int .i64 0, .int .i64 0, .slice none 0 0] 30 (0, 0)) :: H, R, φ198⟩ (fun _ h => h) ?_
     refine c_cond1 rfl rfl ?_
     refine c_seq ?_
     refine c_region ?_
     refine g_v rfl (r_build _ rfl (bld30_12)) ?_
     refine g_storeL (tag := 100020) rfl rfl rfl rfl Try.sizeOf30 rfl rfl ?_
     refine g_v rfl r_assign ?_
     refine g_nil ?_
     refine d_then ?_
     refine c_ret ?_
     refine d_ret_then ?_
     refine d_ret_then ?_
     refine d_ret_block ?_
     refine d_ret_then ?_
     refine d_ret_then ?_
     refine d_ret_block ?_
     refine d_ret_then ?_
     refine d_ret_then ?_
     replace hm := nx_out (C := (fun e => Sum.elim (fun e => m_plog_Load_j1 e.1 e.2.1 e.2.2.1 e.2.2.2.1 e.2.2.2.2.1 e.2.2.2.2.2.1 e.2.2.2.2.2.2) (fun x => some x) e = some r)) hm hnx2 hr2
     replace hm : some ((⟨0, 0, ([] : List Int), (⟨#[]⟩ : ByteArray), (⟨0, 0, ([] : List GEntry)⟩ : GLog)⟩ : GHard), 10) = some r := hm
     replace hm := Option.some.inj hm
     subst hm
     refine d_retC (none, 0, none, 0) Try.results8 ?_ ⟨(Nat.le_refl 0), (Nat.le_refl 0)⟩ (fun W h => ok_pre (H1 := [_, _]) (R1 := []) h (fun W hφ => ⟨(q198 _ hφ), (fun W _ => Cl.nil _ _) W hφ, (fun W _ => Cl.nil _ _) W hφ⟩)) (.inr rfl)
     refine res_agg (tag := 100020) rfl rfl Try.isAgg30 Try.sizeOf30 ?_
     refine res_tmp ?_
     refine res_nil ?_
     exact rfl
   ·
    unfold m_plog_Load_j3 at hm
    refine d_flat [(2, .pointer (some ⟨g1, 0, none⟩)), (4, .pointer (some ⟨g2, 0, none⟩)), (6, .string x200), (9, .slice Ap0_0 p0.length cp0_0), (10, .int .i64 (p0.length : Int)), (11, .int .i64 i147)] ⟨rfl, rfl, rfl, rfl, rfl, rfl, trivial⟩ (fun u => ?_)
    refine d_sta ⟨w0, M, (100040, g2, .cells #[.int .i64 i148, .int .i64 i149, .slice A151 l150.length c152, .string s154, .int .i64 i155, .int .i64 i156, .slice A158 l157.length c159] 30 (0, 0)) :: (100020, g1, .cells #[.int .i64 0, .int .i64 0, .slice none 0 0, .string (⟨#[]⟩ : ByteArray), .int .i64 0, .int .i64 0, .slice none 0 0] 30 (0, 0)) :: H, R, φ198⟩ (fun _ h => h) ?_
    refine d_then ?_
    refine c_seq ?_
    refine c_region ?_
    refine g_v rfl (r_loadA (tag := 100040) rfl rfl Try.isAgg30 Try.sizeOf30 rfl rfl) ?_
    refine g_v rfl r_move ?_
    replace hm := bnd hm
    obtain ⟨⟨x208, x209⟩, hx210, hm⟩ := hm
    refine g_cn ⟨w0, M, _, _, φ198⟩ (fun _ h => h) Try.call24 rfl rfl (c_plog_read (⟨i148, i149, l150, s154, (⟨i155, i156, l157⟩ : GLog)⟩ : GHard) A151 c152 hc152 (fun W h => f153 W h) A158 c159 hc159 (fun W h => f160 W h) x200 _ hx210) (fun ⟨A211, c212, A214, c215⟩ ⟨hc212, hc215⟩ => ?_)
    refine g_abs (fun φ217 q217' => ?_)
    have q217 : ∀ W, φ217 W → φ198 W := fun W h => (q217' W h).1
    have f213 := fun (W : World) (h : φ217 W) => (q217' W h).2.1
    have f216 := fun (W : World) (h : φ217 W) => (q217' W h).2.2
    refine g_v rfl r_move ?_
    refine g_v rfl (r_extract rfl rfl) ?_
    refine g_v rfl (r_extract rfl rfl) ?_
    refine g_e rfl (e_alloc 100070 Try.zeroValue30) (fun g219 _ => ?_)
    refine g_storeL (tag := 100070) rfl rfl rfl rfl Try.sizeOf30 rfl rfl ?_
    refine g_v rfl r_assign ?_
    refine g_nil ?_
    refine d_then ?_
    refine c_flat [(2, .pointer (some ⟨g1, 0, none⟩)), (4, .pointer (some ⟨g2, 0, none⟩)), (7, .pointer (some ⟨g219, 0, none⟩)), (8, .bool x209), (9, .slice Ap0_0 p0.length cp0_0), (10, .int .i64 (p0.length : Int)), (11, .int .i64 i147)] ⟨rfl, rfl, rfl, rfl, rfl, rfl, rfl, trivial⟩ (fun u => ?_)
    refine c_sta ⟨w0, M, (100070, g219, .cells #[.int .i64 x208.fTerm, .int .i64 x208.fVote, .slice A211 x208.fVoters.length c212, .string x208.fSnap, .int .i64 x208.fLog.fBase, .int .i64 x208.fLog.fBaseTerm, .slice A214 x208.fLog.fEntries.length c215] 30 (0, 0)) :: (100040, g2, .cells #[.int .i64 i148, .int .i64 i149, .slice A151 l150.length c152, .string s154, .int .i64 i155, .int .i64 i156, .slice A158 l157.length c159] 30 (0, 0)) :: (100020, g1, .cells #[.int .i64 0, .int .i64 0, .slice none 0 0, .string (⟨#[]⟩ : ByteArray), .int .i64 0, .int .i64 0, .slice none 0 0] 30 (0, 0)) :: H, R, φ217⟩ (fun _ h => h) ?_
    refine c_seq ?_
    refine c_seq ?_
    refine c_region ?_
    refine g_v rfl r_move ?_
    refine g_v rfl (r_not rfl) ?_
    refine g_nil ?_
    refine d_then ?_
    refine c_cond rfl (fun h220 => ?_) (fun h220 => ?_)
    ·
     have h220' : x209 = false := by revert h220; cases x209 <;> simp
     replace hm := ite_f hm (bool_nt h220')
     refine c_seq ?_
     refine c_region ?_
     refine g_v rfl (r_build _ rfl (bld30_12)) ?_
     refine g_storeL (tag := 100020) rfl rfl rfl rfl Try.sizeOf30 rfl rfl ?_
     refine g_v rfl r_assign ?_
     refine g_nil ?_
     refine d_then ?_
     refine c_ret ?_
     refine d_ret_then ?_
     refine d_ret_block ?_
     refine d_ret_then ?_
     refine d_ret_then ?_
     refine d_ret_block ?_
     refine d_ret_then ?_
     refine d_ret_then ?_
     replace hm := nx_out (C := (fun e => Sum.elim (fun e => m_plog_Load_j1 e.1 e.2.1 e.2.2.1 e.2.2.2.1 e.2.2.2.2.1 e.2.2.2.2.2.1 e.2.2.2.2.2.2) (fun x => some x) e = some r)) hm hnx2 hr2
     replace hm : some ((⟨0, 0, ([] : List Int), (⟨#[]⟩ : ByteArray), (⟨0, 0, ([] : List GEntry)⟩ : GLog)⟩ : GHard), 10) = some r := hm
     replace hm := Option.some.inj hm
     subst hm
     refine d_retC (none, 0, none, 0) Try.results8 ?_ ⟨(Nat.le_refl 0), (Nat.le_refl 0)⟩ (fun W h => ok_pre (H1 := [_, _, _]) (R1 := []) h (fun W hφ => ⟨(q198 _ (q217 _ hφ)), (fun W _ => Cl.nil _ _) W hφ, (fun W _ => Cl.nil _ _) W hφ⟩)) (.inr rfl)
     refine res_agg (tag := 100020) rfl rfl Try.isAgg30 Try.sizeOf30 ?_
     refine res_tmp ?_
     refine res_nil ?_
     exact rfl
    ·
     have h220' : x209 = true := by revert h220; cases x209 <;> simp
     replace hm := ite_t hm h220'
     refine c_skip ?_
     refine d_then ?_
     refine c_region ?_
     refine g_v rfl (r_loadA (tag := 100070) rfl rfl Try.isAgg30 Try.sizeOf30 rfl rfl) ?_
     refine g_storeL (tag := 100040) rfl rfl rfl rfl Try.sizeOf30 rfl rfl ?_
     refine g_nil ?_
     refine d_normal_block ?_
     refine d_then ?_
     refine c_region ?_
     refine g_v rfl (r_add rfl rfl rfl) ?_
     refine g_v rfl r_move ?_
     refine g_nil ?_
     obtain ⟨n221, hn221, hlp⟩ := nx_inl hm hnx2
     exact d_round (n221, w64 (i147 + 1), x208.fTerm, x208.fVote, x208.fVoters, x208.fSnap, x208.fLog.fBase, x208.fLog.fBaseTerm, x208.fLog.fEntries, A211, c212, A214, c215) ⟨hlp, hc212, hc215⟩ hn221 ⟨rfl, rfl, rfl, rfl, rfl, trivial⟩ (fun W h => (h.dropH (t := 100070) rfl).phi (fun W hφ => ⟨(q198 _ (q217 _ hφ)), (fun W h => f213 W h) W hφ, (fun W h => f216 W h) W hφ⟩))
  ·
   replace hm := ite_f hm (of_decide_eq_false h199)
   refine c_exit ?_
   refine d_exit_then ?_
   refine d_exit_then ?_
   refine d_exit_block ?_
   replace hm := nx_out (C := (fun e => Sum.elim (fun e => m_plog_Load_j1 e.1 e.2.1 e.2.2.1 e.2.2.2.1 e.2.2.2.2.1 e.2.2.2.2.2.1 e.2.2.2.2.2.2) (fun x => some x) e = some r)) hm hnx2 hr2
   exact d_round (i148, i149, l150, s154, i155, i156, l157, A151, c152, A158, c159) ⟨hm, hc152, hc159⟩ Nat.zero_lt_one ⟨rfl, rfl, trivial⟩ (fun W h => h.phi (fun W hφ => ⟨(q198 _ hφ), (fun W h => f153 W h) W hφ, (fun W h => f160 W h) W hφ⟩))
 ·
  unfold m_plog_Load_j1 at hm
  refine d_abs (fun φ102 q102' => ?_)
  have q102 : ∀ W, φ102 W → φ W := fun W h => (q102' W h).1
  have f94 := fun (W : World) (h : φ102 W) => (q102' W h).2.1
  have f101 := fun (W : World) (h : φ102 W) => (q102' W h).2.2
  refine d_flat [(2, .pointer (some ⟨g1, 0, none⟩)), (4, .pointer (some ⟨g2, 0, none⟩))] ⟨rfl, rfl, trivial⟩ (fun u => ?_)
  refine d_sta ⟨w0, M, (100040, g2, .cells #[.int .i64 i89, .int .i64 i90, .slice A92 l91.length c93, .string s95, .int .i64 i96, .int .i64 i97, .slice A99 l98.length c100] 30 (0, 0)) :: (100020, g1, .cells #[.int .i64 0, .int .i64 0, .slice none 0 0, .string (⟨#[]⟩ : ByteArray), .int .i64 0, .int .i64 0, .slice none 0 0] 30 (0, 0)) :: H, R, φ102⟩ (fun _ h => h) ?_
  refine d_then ?_
  refine c_seq ?_
  refine c_seq ?_
  refine c_region ?_
  refine g_v rfl (r_field (n := 4) Try.underlying30 rfl Try.sizeOf28 rfl rfl) ?_
  refine g_v rfl (r_loadA (tag := 100040) rfl rfl Try.isAgg28 Try.sizeOf28 rfl rfl) ?_
  replace hm := bnd hm
  obtain ⟨x103, hx104, hm⟩ := hm
  refine g_cn ⟨w0, M, _, _, φ102⟩ (fun _ h => h) Try.call25 rfl rfl (c_plog_Check (⟨i96, i97, l98⟩ : GLog) A99 c100 hc100 (fun W hS => f101 W hS.now) _ hx104) (fun _ _ => ?_)
  refine g_v rfl (r_neq rfl rfl) ?_
  refine g_v rfl r_move ?_
  refine g_if rfl rfl rfl rfl rfl (fun h105 => ?_) (fun h105 => ?_)
  ·
   replace hm := ite_f hm (of_decide_eq_false h105)
   refine g_v rfl (r_field (n := 0) Try.underlying30 rfl Try.sizeOf3 rfl rfl) ?_
   refine g_do rfl rfl rfl rfl rfl h105 ?_
   refine g_v rfl (r_load (tag := 100040) rfl rfl rfl Try.isAgg3) ?_
   refine g_do rfl rfl rfl rfl rfl h105 ?_
   replace hm := bnd hm
   obtain ⟨x106, hx107, hm⟩ := hm
   refine g_cn ⟨w0, M, _, _, φ102⟩ (fun _ h => h) Try.call26 rfl rfl (c_plog_within i89 _ hx107) (fun _ _ => ?_)
   refine g_do rfl rfl rfl rfl rfl h105 ?_
   refine g_v rfl (r_not rfl) ?_
   refine g_v rfl (r_pick0 rfl h105) ?_
   refine g_v rfl r_move ?_
   refine g_if rfl rfl rfl rfl rfl (fun h108 => ?_) (fun h108 => ?_)
   ·
    have h108' : x106 = true := by revert h108; cases x106 <;> simp
    replace hm := ite_t hm h108'
    refine g_v rfl (r_field (n := 1) Try.underlying30 rfl Try.sizeOf3 rfl rfl) ?_
    refine g_do rfl rfl rfl rfl rfl h108 ?_
    refine g_v rfl (r_load (tag := 100040) rfl rfl rfl Try.isAgg3) ?_
    refine g_do rfl rfl rfl rfl rfl h108 ?_
    replace hm := bnd hm
    obtain ⟨x109, hx110, hm⟩ := hm
    refine g_cn ⟨w0, M, _, _, φ102⟩ (fun _ h => h) Try.call26 rfl rfl (c_plog_within i90 _ hx110) (fun _ _ => ?_)
    refine g_do rfl rfl rfl rfl rfl h108 ?_
    refine g_v rfl (r_not rfl) ?_
    refine g_v rfl (r_pick0 rfl h108) ?_
    refine g_nil ?_
    refine d_then ?_
    refine c_flat [(2, .pointer (some ⟨g1, 0, none⟩)), (4, .pointer (some ⟨g2, 0, none⟩)), (54, .bool (!x109))] ⟨rfl, rfl, rfl, trivial⟩ (fun u => ?_)
    refine c_sta ⟨w0, M, (100040, g2, .cells #[.int .i64 i89, .int .i64 i90, .slice A92 l91.length c93, .string s95, .int .i64 i96, .int .i64 i97, .slice A99 l98.length c100] 30 (0, 0)) :: (100020, g1, .cells #[.int .i64 0, .int .i64 0, .slice none 0 0, .string (⟨#[]⟩ : ByteArray), .int .i64 0, .int .i64 0, .slice none 0 0] 30 (0, 0)) :: H, R, φ102⟩ (fun _ h => h) ?_
    refine c_cond rfl (fun h111 => ?_) (fun h111 => ?_)
    ·
     have h111' : x109 = false := by revert h111; cases x109 <;> simp
     replace hm := ite_f hm (bool_nt h111')
     refine c_seq ?_
     refine c_region ?_
     refine g_v rfl (r_build _ rfl (bld30_12)) ?_
     refine g_storeL (tag := 100020) rfl rfl rfl rfl Try.sizeOf30 rfl rfl ?_
     refine g_v rfl r_assign ?_
     refine g_nil ?_
     refine d_then ?_
     refine c_ret ?_
     refine d_ret_then ?_
     replace hm := Option.some.inj hm
     subst hm
     refine d_retC (none, 0, none, 0) Try.results8 ?_ ⟨(Nat.le_refl 0), (Nat.le_refl 0)⟩ (fun W h => ok_pre (H1 := [_, _]) (R1 := []) h (fun W hφ => ⟨(q102 _ hφ), (fun W _ => Cl.nil _ _) W hφ, (fun W _ => Cl.nil _ _) W hφ⟩)) (.inr rfl)
     refine res_agg (tag := 100020) rfl rfl Try.isAgg30 Try.sizeOf30 ?_
     refine res_tmp ?_
     refine res_nil ?_
     exact rfl
    ·
     have h111' : x109 = true := by revert h111; cases x109 <;> simp
     replace hm := ite_t hm h111'
     refine c_skip ?_
     refine d_then ?_
     refine c_seq ?_
     refine c_region ?_
     refine g_v rfl (r_loadA (tag := 100040) rfl rfl Try.isAgg30 Try.sizeOf30 rfl rfl) ?_
     refine g_storeL (tag := 100020) rfl rfl rfl rfl Try.sizeOf30 rfl rfl ?_
     refine g_v rfl r_assign ?_
     refine g_nil ?_
     refine d_then ?_
     refine c_ret ?_
     replace hm := Option.some.inj hm
     subst hm
     refine d_retC (A92, c93, A99, c100) Try.results8 ?_ ⟨hc93, hc100⟩ (fun W h => ok_pre (H1 := [_, _]) (R1 := []) h (fun W hφ => ⟨(q102 _ hφ), (fun W h => f94 W h) W hφ, (fun W h => f101 W h) W hφ⟩)) (.inr rfl)
     refine res_agg (tag := 100020) rfl rfl Try.isAgg30 Try.sizeOf30 ?_
     refine res_tmp ?_
     refine res_nil ?_
     exact rfl
   ·
    have h108' : x106 = false := by revert h108; cases x106 <;> simp
    replace hm := ite_f hm (bool_nt h108')
    refine g_no rfl rfl rfl rfl rfl h108 ?_
    refine g_no rfl rfl rfl rfl rfl h108 ?_
    refine g_no rfl rfl rfl rfl rfl h108 ?_
    refine g_v rfl (r_pick1 rfl h108) ?_
    refine g_nil ?_
    refine d_then ?_
    refine c_flat [(2, .pointer (some ⟨g1, 0, none⟩)), (4, .pointer (some ⟨g2, 0, none⟩)), (54, .bool true)] ⟨rfl, rfl, rfl, trivial⟩ (fun u => ?_)
    refine c_sta ⟨w0, M, (100040, g2, .cells #[.int .i64 i89, .int .i64 i90, .slice A92 l91.length c93, .string s95, .int .i64 i96, .int .i64 i97, .slice A99 l98.length c100] 30 (0, 0)) :: (100020, g1, .cells #[.int .i64 0, .int .i64 0, .slice none 0 0, .string (⟨#[]⟩ : ByteArray), .int .i64 0, .int .i64 0, .slice none 0 0] 30 (0, 0)) :: H, R, φ102⟩ (fun _ h => h) ?_
    refine c_cond1 rfl rfl ?_
    refine c_seq ?_
    refine c_region ?_
    refine g_v rfl (r_build _ rfl (bld30_12)) ?_
    refine g_storeL (tag := 100020) rfl rfl rfl rfl Try.sizeOf30 rfl rfl ?_
    refine g_v rfl r_assign ?_
    refine g_nil ?_
    refine d_then ?_
    refine c_ret ?_
    refine d_ret_then ?_
    replace hm := Option.some.inj hm
    subst hm
    refine d_retC (none, 0, none, 0) Try.results8 ?_ ⟨(Nat.le_refl 0), (Nat.le_refl 0)⟩ (fun W h => ok_pre (H1 := [_, _]) (R1 := []) h (fun W hφ => ⟨(q102 _ hφ), (fun W _ => Cl.nil _ _) W hφ, (fun W _ => Cl.nil _ _) W hφ⟩)) (.inr rfl)
    refine res_agg (tag := 100020) rfl rfl Try.isAgg30 Try.sizeOf30 ?_
    refine res_tmp ?_
    refine res_nil ?_
    exact rfl
  ·
   replace hm := ite_t hm (of_decide_eq_true h105)
   refine g_no rfl rfl rfl rfl rfl h105 ?_
   refine g_no rfl rfl rfl rfl rfl h105 ?_
   refine g_no rfl rfl rfl rfl rfl h105 ?_
   refine g_v rfl (r_pick1 rfl h105) ?_
   refine g_v rfl r_move ?_
   refine g_no rfl rfl rfl rfl rfl rfl ?_
   refine g_no rfl rfl rfl rfl rfl rfl ?_
   refine g_no rfl rfl rfl rfl rfl rfl ?_
   refine g_no rfl rfl rfl rfl rfl rfl ?_
   refine g_v rfl (r_pick1 rfl rfl) ?_
   refine g_nil ?_
   refine d_then ?_
   refine c_cond1 rfl rfl ?_
   refine c_seq ?_
   refine c_region ?_
   refine g_v rfl (r_build _ rfl (bld30_12)) ?_
   refine g_storeL (tag := 100020) rfl rfl rfl rfl Try.sizeOf30 rfl rfl ?_
   refine g_v rfl r_assign ?_
   refine g_nil ?_
   refine d_then ?_
   refine c_flat [(2, .pointer (some ⟨g1, 0, none⟩)), (3, .int .i64 10)] ⟨rfl, rfl, trivial⟩ (fun u => ?_)
   refine c_sta ⟨w0, M, (100040, g2, .cells #[.int .i64 i89, .int .i64 i90, .slice A92 l91.length c93, .string s95, .int .i64 i96, .int .i64 i97, .slice A99 l98.length c100] 30 (0, 0)) :: (100020, g1, .cells #[.int .i64 0, .int .i64 0, .slice none 0 0, .string (⟨#[]⟩ : ByteArray), .int .i64 0, .int .i64 0, .slice none 0 0] 30 (0, 0)) :: H, R, φ102⟩ (fun _ h => h) ?_
   refine c_ret ?_
   refine d_ret_then ?_
   replace hm := Option.some.inj hm
   subst hm
   refine d_retC (none, 0, none, 0) Try.results8 ?_ ⟨(Nat.le_refl 0), (Nat.le_refl 0)⟩ (fun W h => ok_pre (H1 := [_, _]) (R1 := []) h (fun W hφ => ⟨(q102 _ hφ), (fun W _ => Cl.nil _ _) W hφ, (fun W _ => Cl.nil _ _) W hφ⟩)) (.inr rfl)
   refine res_agg (tag := 100020) rfl rfl Try.isAgg30 Try.sizeOf30 ?_
   refine res_tmp ?_
   refine res_nil ?_
   exact rfl

theorem eqq46 (a b : GEntry) : ∀ d W, (Op.equalIn (d + 5) 46 (.agg #[.int .i64 a.fTerm, .int .i64 a.fKind, .string a.fData]) (.agg #[.int .i64 b.fTerm, .int .i64 b.fKind, .string b.fData])).run Try.prog W = .ok (decide (a = b)) W := by
  intro d W
  have h := eqs_of (d := d + 4) (xs := #[.int .i64 a.fTerm, .int .i64 a.fKind, .string a.fData]) (ys := #[.int .i64 b.fTerm, .int .i64 b.fKind, .string b.fData]) (w := W) Try.underlying46 (by kernel_rfl) (eqs_cons (a := .int .i64 a.fTerm) (b := .int .i64 b.fTerm) rfl (by kernel_rfl) (by kernel_rfl) (eqs_int Try.underlying3) (eqs_cons (a := .int .i64 a.fKind) (b := .int .i64 b.fKind) rfl (by kernel_rfl) (by kernel_rfl) (eqs_int Try.underlying3) (eqs_cons (a := .string a.fData) (b := .string b.fData) rfl (by kernel_rfl) (by kernel_rfl) (eqs_str Try.underlying9) eqs_nil)))
  refine h.trans ?_
  congr 1
  cases a; cases b
  simp only [GEntry.mk.injEq, Bool.and_true]
  simp only [Bool.decide_and]
theorem eqg46 : Try.prog.eqGuardType Try.prog.depth 46 = false := by kernel_rfl
noncomputable def m_plog_shared_19_j1  (i67 : Int) : Option Int :=
  some i67
noncomputable def m_plog_shared_19_s2 (p0 : List GEntry) (p1 : List GEntry) (i100 : Int) : Option (Int ⊕ Int) :=
  if i100 < (p0.length : Int) then
    if i100 < (p1.length : Int) then
      (at_ p0 i100).bind fun x156 =>
      (at_ p1 i100).bind fun x160 =>
      if x156 = x160 then
        some (.inl (w64 (i100 + 1)))
      else
        some (.inr i100)
    else
      some (.inr i100)
  else
    some (.inr i100)
noncomputable def m_plog_shared_19 (p0 : List GEntry) (p1 : List GEntry) : Option Int :=
  (loop (fun s => m_plog_shared_19_s2 p0 p1 s) 0).bind fun e => m_plog_shared_19_j1 e
theorem c_plog_shared_19 {w0 : World} {M : Nat → Prop} {H : List (Nat × Nat × Obj)} {R : List (Nat × Row)} {φ : World → Prop} (p0 : List GEntry) (Ap0_0 : Option Addr) (cp0_0 : Nat) (hcp0_0 : p0.length ≤ cp0_0) (fp0_0 : ∀ W, (Sta.mk w0 M H R φ).ok W → Cl W Ap0_0 (p0.flatMap GEntry.enc)) (p1 : List GEntry) (Ap1_0 : Option Addr) (cp1_0 : Nat) (hcp1_0 : p1.length ≤ cp1_0) (fp1_0 : ∀ W, (Sta.mk w0 M H R φ).ok W → Cl W Ap1_0 (p1.flatMap GEntry.enc)) (r : Int) (hm : m_plog_shared_19 p0 p1 = some r) :
    Cn Try.prog 19 #[.slice Ap0_0 p0.length cp0_0, .slice Ap1_0 p1.length cp1_0] ⟨w0, M, H, R, φ⟩ (fun x : Unit => .int .i64 r) (fun x => True) (fun x => ⟨w0, M, H, R, φ⟩) := by
 unfold m_plog_shared_19 at hm
 refine cn_intro (fn := Try.f19) (N := 30) Try.func19 rfl Try.ntmps19 rfl ?_
 refine c_seq ?_
 refine c_region ?_
 refine g_v rfl r_assign ?_
 refine g_nil ?_
 refine d_then ?_
 refine c_seq ?_
 refine c_region ?_
 refine g_v rfl r_assign ?_
 refine g_nil ?_
 refine d_then ?_
 refine c_seq ?_
 refine c_cut (ι := Int) [5] (fun i67 => [(5, .int .i64 i67)]) (fun i67 => ⟨w0, M, H, R, φ⟩) (fun i67 => m_plog_shared_19_j1 i67 = some r) ?_ (fun i67 u hm => ?_)
 ·
  refine c_block ?_
  replace hm := bnd hm
  obtain ⟨out2, hl2, hr2⟩ := hm
  obtain ⟨n133', hl2⟩ := loop_lp hl2
  refine c_loopU (ι := Nat × Int) [0, 1, 5] (fun ⟨n133, i100⟩ => [(5, .int .i64 i100)]) (fun ⟨n133, i100⟩ => ⟨w0, M, H, R, φ⟩) (fun ⟨n133, i100⟩ => Lp (fun s => m_plog_shared_19_s2 p0 p1 s) n133 i100 out2) (fun ⟨n133, i100⟩ => n133) (n133', 0) hl2 ⟨rfl, rfl, rfl, trivial⟩ (fun W h => h.phi (fun W hφ => hφ)) (fun ⟨n133, i100⟩ u hlp => ?_)
  obtain ⟨o2, hm, hnx2⟩ := lp_step hlp
  clear hlp
  replace hm : m_plog_shared_19_s2 p0 p1 i100 = some o2 := hm
  unfold m_plog_shared_19_s2 at hm
  refine c_flat [(0, .slice Ap0_0 p0.length cp0_0), (1, .slice Ap1_0 p1.length cp1_0), (5, .int .i64 i100)] ⟨rfl, rfl, rfl, trivial⟩ (fun u => ?_)
  refine c_sta ⟨w0, M, H, R, φ⟩ (fun _ h => h) ?_
  refine c_seq ?_
  refine c_seq ?_
  refine ga_start (n := 21) ⟨w0, M, H, R, φ⟩ [] #[false, false, false, false, false, false, false, false, false, false, false, false, false, false, false, false, false, false, false, false, false] (fun W h => h.phi (fun W hφ => hφ)) mixed rfl rfl ?_
  refine ga_v (i := 0) #[true, false, false, false, false, false, false, false, false, false, false, false, false, false, false, false, false, false, false, false, false] rfl (by kernel_rfl) (fun _ _ _ _ h => h) rfl (r_move) ?_
  refine ga_r (i := 1) #[true, true, false, false, false, false, false, false, false, false, false, false, false, false, false, false, false, false, false, false, false] rfl (by kernel_rfl) (by decide) rfl (r_move) ?_
  refine ga_r (i := 2) #[true, true, true, false, false, false, false, false, false, false, false, false, false, false, false, false, false, false, false, false, false] rfl (by kernel_rfl) (by decide) rfl (r_lenL Try.underlying26 rfl) ?_
  refine ga_r (i := 3) #[true, true, true, true, false, false, false, false, false, false, false, false, false, false, false, false, false, false, false, false, false] rfl (by kernel_rfl) (by decide) rfl (r_lss rfl rfl) ?_
  refine ga_r (i := 4) #[true, true, true, true, true, false, false, false, false, false, false, false, false, false, false, false, false, false, false, false, false] rfl (by kernel_rfl) (by decide) rfl (r_move) ?_
  refine ga_if (t := 10) rfl (fun h154 => ?_) (fun h154 => ?_)
  ·
   replace hm := ite_t hm (of_decide_eq_true h154)
   refine ga_do (i := 5) #[true, true, true, true, true, true, false, false, false, false, false, false, false, false, false, false, false, false, false, false, false] rfl (by kernel_rfl) (fun _ _ _ _ h => h) rfl rfl rfl rfl rfl h154 (r_move) ?_
   refine ga_rG (i := 6) #[true, true, true, true, true, true, true, false, false, false, false, false, false, false, false, false, false, false, false, false, false] rfl (by kernel_rfl) (by decide) rfl rfl rfl rfl rfl h154 (r_move) ?_
   refine ga_rG (i := 7) #[true, true, true, true, true, true, true, true, false, false, false, false, false, false, false, false, false, false, false, false, false] rfl (by kernel_rfl) (by decide) rfl rfl rfl rfl rfl h154 (r_lenL Try.underlying26 rfl) ?_
   refine ga_rG (i := 8) #[true, true, true, true, true, true, true, true, true, false, false, false, false, false, false, false, false, false, false, false, false] rfl (by kernel_rfl) (by decide) rfl rfl rfl rfl rfl h154 (r_lss rfl rfl) ?_
   refine ga_r (i := 9) #[true, true, true, true, true, true, true, true, true, true, false, false, false, false, false, false, false, false, false, false, false] rfl (by kernel_rfl) (by decide) rfl (r_pick1 rfl h154) ?_
   refine ga_r (i := 10) #[true, true, true, true, true, true, true, true, true, true, true, false, false, false, false, false, false, false, false, false, false] rfl (by kernel_rfl) (by decide) rfl (r_move) ?_
   refine ga_if (t := 16) rfl (fun h155 => ?_) (fun h155 => ?_)
   ·
    replace hm := ite_t hm (of_decide_eq_true h155)
    refine ga_do (i := 11) #[true, true, true, true, true, true, true, true, true, true, true, true, false, false, false, false, false, false, false, false, false] rfl (by kernel_rfl) (fun _ _ _ _ h => h) rfl rfl rfl rfl rfl h155 (r_move) ?_
    refine ga_do (i := 12) #[true, true, true, true, true, true, true, true, true, true, true, true, true, false, false, false, false, false, false, false, false] rfl (by kernel_rfl) (fun _ _ _ _ h => h) rfl rfl rfl rfl rfl h155 (r_move) ?_
    replace hm := bnd hm
    obtain ⟨x156, hx156, hm⟩ := hm
    refine ga_know _ (fun W hS => cl_at (p := (Sta.mk w0 M H R φ).ok) (sz := 3) (fun _ => rfl) (by decide) (ok_pre (H1 := []) (R1 := []) hS (fun W h => h)) fp0_0 hx156) ?_
    rintro ⟨ad157, hA159, f158⟩
    refine ga_do (i := 13) #[true, true, true, true, true, true, true, true, true, true, true, true, true, true, false, false, false, false, false, false, false] rfl (by kernel_rfl) (fun _ _ _ _ h => h) rfl rfl rfl rfl rfl h155 (r_ix Try.underlying26 Try.sizeOf46 rfl hA159 rfl hx156) ?_
    refine ga_do (i := 14) #[true, true, true, true, true, true, true, true, true, true, true, true, true, true, true, false, false, false, false, false, false] rfl (by kernel_rfl) (fun _ _ _ _ h => h) rfl rfl rfl rfl rfl h155 (r_ldA rfl Try.isAgg46 Try.sizeOf46 (fun W hS => (f158 W (ok_pre (H1 := []) (R1 := []) hS (fun W h => h))).take 3) rfl) ?_
    refine ga_do (i := 15) #[true, true, true, true, true, true, true, true, true, true, true, true, true, true, true, true, false, false, false, false, false] rfl (by kernel_rfl) (fun _ _ _ _ h => h) rfl rfl rfl rfl rfl h155 (r_move) ?_
    refine ga_rG (i := 16) #[true, true, true, true, true, true, true, true, true, true, true, true, true, true, true, true, true, false, false, false, false] rfl (by kernel_rfl) (by decide) rfl rfl rfl rfl rfl h155 (r_move) ?_
    replace hm := bnd hm
    obtain ⟨x160, hx160, hm⟩ := hm
    refine ga_know _ (fun W hS => cl_at (p := (Sta.mk w0 M H R φ).ok) (sz := 3) (fun _ => rfl) (by decide) (ok_pre (H1 := []) (R1 := []) hS (fun W h => h)) fp1_0 hx160) ?_
    rintro ⟨ad161, hA163, f162⟩
    refine ga_rG (i := 17) #[true, true, true, true, true, true, true, true, true, true, true, true, true, true, true, true, true, true, false, false, false] rfl (by kernel_rfl) (by decide) rfl rfl rfl rfl rfl h155 (r_ix Try.underlying26 Try.sizeOf46 rfl hA163 rfl hx160) ?_
    refine ga_rG (i := 18) #[true, true, true, true, true, true, true, true, true, true, true, true, true, true, true, true, true, true, true, false, false] rfl (by kernel_rfl) (by decide) rfl rfl rfl rfl rfl h155 (r_ldA rfl Try.isAgg46 Try.sizeOf46 (fun W hS => (f162 W (ok_pre (H1 := []) (R1 := []) hS (fun W h => h))).take 3) rfl) ?_
    refine ga_rG (i := 19) #[true, true, true, true, true, true, true, true, true, true, true, true, true, true, true, true, true, true, true, true, false] rfl (by kernel_rfl) (by decide) rfl rfl rfl rfl rfl h155 (r_eqlA rfl rfl eqg46 (eqq46 x156 x160)) ?_
    refine ga_r (i := 20) #[true, true, true, true, true, true, true, true, true, true, true, true, true, true, true, true, true, true, true, true, true] rfl (by kernel_rfl) (by decide) rfl (r_pick1 rfl h155) ?_
    refine ga_done (by kernel_rfl) ?_
    refine d_then ?_
    refine c_flat [(0, .slice Ap0_0 p0.length cp0_0), (1, .slice Ap1_0 p1.length cp1_0), (5, .int .i64 i100), (26, .bool (decide (x156 = x160)))] ⟨rfl, rfl, rfl, rfl, trivial⟩ (fun u => ?_)
    refine c_sta ⟨w0, M, H, R, φ⟩ (fun _ h => h) ?_
    refine c_cond rfl (fun h164 => ?_) (fun h164 => ?_)
    ·
     replace hm := ite_t hm (of_decide_eq_true h164)
     refine c_skip ?_
     refine d_then ?_
     refine c_block ?_
     refine c_region ?_
     refine g_v rfl r_move ?_
     refine g_v rfl (r_add rfl rfl rfl) ?_
     refine g_v rfl r_assign ?_
     refine g_nil ?_
     refine d_normal_block ?_
     obtain ⟨n165, hn165, hlp⟩ := nx_inl hm hnx2
     exact d_round (n165, w64 (i100 + 1)) hlp hn165 ⟨rfl, rfl, rfl, trivial⟩ (fun W h => h.phi (fun W hφ => hφ))
    ·
     replace hm := ite_f hm (of_decide_eq_false h164)
     refine c_exit ?_
     refine d_exit_then ?_
     refine d_exit_then ?_
     refine d_exit_block ?_
     replace hm := nx_out (C := (fun e => m_plog_shared_19_j1 e = some r)) hm hnx2 hr2
     exact d_round i100 hm Nat.zero_lt_one ⟨rfl, trivial⟩ (fun W h => h.phi (fun W hφ => hφ))
   ·
    replace hm := ite_f hm (of_decide_eq_false h155)
    refine ga_no (i := 11) #[true, true, true, true, true, true, true, true, true, true, true, true, false, false, false, false, false, false, false, false, false] rfl (by kernel_rfl) (fun _ _ _ _ h => h) rfl rfl rfl rfl rfl h155 ?_
    refine ga_no (i := 12) #[true, true, true, true, true, true, true, true, true, true, true, true, true, false, false, false, false, false, false, false, false] rfl (by kernel_rfl) (fun _ _ _ _ h => h) rfl rfl rfl rfl rfl h155 ?_
    refine ga_no (i := 13) #[true, true, true, true, true, true, true, true, true, true, true, true, true, true, false, false, false, false, false, false, false] rfl (by kernel_rfl) (fun _ _ _ _ h => h) rfl rfl rfl rfl rfl h155 ?_
    refine ga_no (i := 14) #[true, true, true, true, true, true, true, true, true, true, true, true, true, true, true, false, false, false, false, false, false] rfl (by kernel_rfl) (fun _ _ _ _ h => h) rfl rfl rfl rfl rfl h155 ?_
    refine ga_no (i := 15) #[true, true, true, true, true, true, true, true, true, true, true, true, true, true, true, true, false, false, false, false, false] rfl (by kernel_rfl) (fun _ _ _ _ h => h) rfl rfl rfl rfl rfl h155 ?_
    refine ga_no (i := 16) #[true, true, true, true, true, true, true, true, true, true, true, true, true, true, true, true, true, false, false, false, false] rfl (by kernel_rfl) (fun _ _ _ _ h => h) rfl rfl rfl rfl rfl h155 ?_
    refine ga_no (i := 17) #[true, true, true, true, true, true, true, true, true, true, true, true, true, true, true, true, true, true, false, false, false] rfl (by kernel_rfl) (fun _ _ _ _ h => h) rfl rfl rfl rfl rfl h155 ?_
    refine ga_no (i := 18) #[true, true, true, true, true, true, true, true, true, true, true, true, true, true, true, true, true, true, true, false, false] rfl (by kernel_rfl) (fun _ _ _ _ h => h) rfl rfl rfl rfl rfl h155 ?_
    refine ga_no (i := 19) #[true, true, true, true, true, true, true, true, true, true, true, true, true, true, true, true, true, true, true, true, false] rfl (by kernel_rfl) (fun _ _ _ _ h => h) rfl rfl rfl rfl rfl h155 ?_
    refine ga_r (i := 20) #[true, true, true, true, true, true, true, true, true, true, true, true, true, true, true, true, true, true, true, true, true] rfl (by kernel_rfl) (by decide) rfl (r_pick0 rfl h155) ?_
    refine ga_done (by kernel_rfl) ?_
    refine d_then ?_
    refine c_flat [(0, .slice Ap0_0 p0.length cp0_0), (1, .slice Ap1_0 p1.length cp1_0), (5, .int .i64 i100), (26, .bool false)] ⟨rfl, rfl, rfl, rfl, trivial⟩ (fun u => ?_)
    refine c_sta ⟨w0, M, H, R, φ⟩ (fun _ h => h) ?_
    refine c_cond0 rfl rfl ?_
    refine c_exit ?_
    refine d_exit_then ?_
    refine d_exit_then ?_
    refine d_exit_block ?_
    replace hm := nx_out (C := (fun e => m_plog_shared_19_j1 e = some r)) hm hnx2 hr2
    exact d_round i100 hm Nat.zero_lt_one ⟨rfl, trivial⟩ (fun W h => h.phi (fun W hφ => hφ))
  ·
   replace hm := ite_f hm (of_decide_eq_false h154)
   refine ga_no (i := 5) #[true, true, true, true, true, true, false, false, false, false, false, false, false, false, false, false, false, false, false, false, false] rfl (by kernel_rfl) (fun _ _ _ _ h => h) rfl rfl rfl rfl rfl h154 ?_
   refine ga_no (i := 6) #[true, true, true, true, true, true, true, false, false, false, false, false, false, false, false, false, false, false, false, false, false] rfl (by kernel_rfl) (fun _ _ _ _ h => h) rfl rfl rfl rfl rfl h154 ?_
   refine ga_no (i := 7) #[true, true, true, true, true, true, true, true, false, false, false, false, false, false, false, false, false, false, false, false, false] rfl (by kernel_rfl) (fun _ _ _ _ h => h) rfl rfl rfl rfl rfl h154 ?_
   refine ga_no (i := 8) #[true, true, true, true, true, true, true, true, true, false, false, false, false, false, false, false, false, false, false, false, false] rfl (by kernel_rfl) (fun _ _ _ _ h => h) rfl rfl rfl rfl rfl h154 ?_
   refine ga_r (i := 9) #[true, true, true, true, true, true, true, true, true, true, false, false, false, false, false, false, false, false, false, false, false] rfl (by kernel_rfl) (by decide) rfl (r_pick0 rfl h154) ?_
   refine ga_r (i := 10) #[true, true, true, true, true, true, true, true, true, true, true, false, false, false, false, false, false, false, false, false, false] rfl (by kernel_rfl) (by decide) rfl (r_move) ?_
   refine ga_no (i := 11) #[true, true, true, true, true, true, true, true, true, true, true, true, false, false, false, false, false, false, false, false, false] rfl (by kernel_rfl) (fun _ _ _ _ h => h) rfl rfl rfl rfl rfl rfl ?_
   refine ga_no (i := 12) #[true, true, true, true, true, true, true, true, true, true, true, true, true, false, false, false, false, false, false, false, false] rfl (by kernel_rfl) (fun _ _ _ _ h => h) rfl rfl rfl rfl rfl rfl ?_
   refine ga_no (i := 13) #[true, true, true, true, true, true, true, true, true, true, true, true, true, true, false, false, false, false, false, false, false] rfl (by kernel_rfl) (fun _ _ _ _ h => h) rfl rfl rfl rfl rfl rfl ?_
   refine ga_no (i := 14) #[true, true, true, true, true, true, true, true, true, true, true, true, true, true, true, false, false, false, false, false, false] rfl (by kernel_rfl) (fun _ _ _ _ h => h) rfl rfl rfl rfl rfl rfl ?_
   refine ga_no (i := 15) #[true, true, true, true, true, true, true, true, true, true, true, true, true, true, true, true, false, false, false, false, false] rfl (by kernel_rfl) (fun _ _ _ _ h => h) rfl rfl rfl rfl rfl rfl ?_
   refine ga_no (i := 16) #[true, true, true, true, true, true, true, true, true, true, true, true, true, true, true, true, true, false, false, false, false] rfl (by kernel_rfl) (fun _ _ _ _ h => h) rfl rfl rfl rfl rfl rfl ?_
   refine ga_no (i := 17) #[true, true, true, true, true, true, true, true, true, true, true, true, true, true, true, true, true, true, false, false, false] rfl (by kernel_rfl) (fun _ _ _ _ h => h) rfl rfl rfl rfl rfl rfl ?_
   refine ga_no (i := 18) #[true, true, true, true, true, true, true, true, true, true, true, true, true, true, true, true, true, true, true, false, false] rfl (by kernel_rfl) (fun _ _ _ _ h => h) rfl rfl rfl rfl rfl rfl ?_
   refine ga_no (i := 19) #[true, true, true, true, true, true, true, true, true, true, true, true, true, true, true, true, true, true, true, true, false] rfl (by kernel_rfl) (fun _ _ _ _ h => h) rfl rfl rfl rfl rfl rfl ?_
   refine ga_r (i := 20) #[true, true, true, true, true, true, true, true, true, true, true, true, true, true, true, true, true, true, true, true, true] rfl (by kernel_rfl) (by decide) rfl (r_pick0 rfl rfl) ?_
   refine ga_done (by kernel_rfl) ?_
   refine d_then ?_
   refine c_cond0 rfl rfl ?_
   refine c_exit ?_
   refine d_exit_then ?_
   refine d_exit_then ?_
   refine d_exit_block ?_
   replace hm := nx_out (C := (fun e => m_plog_shared_19_j1 e = some r)) hm hnx2 hr2
   exact d_round i100 hm Nat.zero_lt_one ⟨rfl, trivial⟩ (fun W h => h.phi (fun W hφ => hφ))
 ·
  unfold m_plog_shared_19_j1 at hm
  refine d_flat [(5, .int .i64 i67)] ⟨rfl, trivial⟩ (fun u => ?_)
  refine d_sta ⟨w0, M, H, R, φ⟩ (fun _ h => h) ?_
  refine d_then ?_
  refine c_seq ?_
  refine c_region ?_
  refine g_v rfl r_move ?_
  refine g_v rfl r_assign ?_
  refine g_nil ?_
  refine d_then ?_
  refine c_ret ?_
  replace hm := Option.some.inj hm
  subst hm
  refine d_retC () Try.results19 ?_ trivial (fun W h => ok_pre (H1 := []) (R1 := []) h (fun W hφ => hφ)) (.inr rfl)
  refine res_tmp ?_
  refine res_nil ?_
  exact rfl

theorem lit5_13 (z0 : Int) : Try.prog.builtSlice 5 1 [(0, .int .u8 z0)] = some #[.int .u8 z0] := by kernel_rfl
theorem lit3_14 (z0 : Int) (z1 : Int) (z2 : Int) (z3 : Int) (z4 : Int) : Try.prog.builtSlice 3 5 [(0, .int .i64 z0), (1, .int .i64 z1), (2, .int .i64 z2), (3, .int .i64 z3), (4, .int .i64 z4)] = some #[.int .i64 z0, .int .i64 z1, .int .i64 z2, .int .i64 z3, .int .i64 z4] := by kernel_rfl
noncomputable def m_plog_numbers_j1  (l76 : List Int) : Option (List Int) :=
  some l76
noncomputable def m_plog_numbers_j3 (i117 : Int) (l182 : List Int) : Option (((List Int) × Int) ⊕ (List Int)) :=
  some (.inl (l182, w64 (i117 + 1)))
noncomputable def m_plog_numbers_s4 (x155 : Int) (l194 : List Int) (i197 : Int) : Option (((List Int) × Int) ⊕ (List Int)) :=
  if i197 < 8 then
    (shOk (w64 (56 - (w64 (8 * i197))))).bind fun u210 =>
    (app 1 l194 [IntKind.u8.wrap (shrI .i64 x155 (w64 (56 - (w64 (8 * i197)))))]).bind fun l212 =>
    some (.inl (l212, w64 (i197 + 1)))
  else
    some (.inr l194)
noncomputable def m_plog_numbers_s2 (p1 : List Int) (l114 : List Int) (i117 : Int) : Option (((List Int) × Int) ⊕ (List Int)) :=
  if i117 < (p1.length : Int) then
    (at_ p1 i117).bind fun x155 =>
    (loop (fun s => m_plog_numbers_s4 x155 s.1 s.2) (l114, 0)).bind fun e => m_plog_numbers_j3 i117 e
  else
    some (.inr l114)
noncomputable def m_plog_numbers (p0 : List Int) (p1 : List Int) : Option (List Int) :=
  (loop (fun s => m_plog_numbers_s2 p1 s.1 s.2) (p0, 0)).bind fun e => m_plog_numbers_j1 e
theorem c_plog_numbers {w0 : World} {M : Nat → Prop} {H : List (Nat × Nat × Obj)} {R : List (Nat × Row)} {φ : World → Prop} (p0 : List Int) (Ap0_0 : Option Addr) (cp0_0 : Nat) (hcp0_0 : p0.length ≤ cp0_0) (p1 : List Int) (Ap1_0 : Option Addr) (cp1_0 : Nat) (hcp1_0 : p1.length ≤ cp1_0) (fp1_0 : ∀ W, (Sta.mk w0 M H R φ).ok W → Cl W Ap1_0 (p1.flatMap (fun x : Int => [Value.int .i64 x]))) (r : (List Int)) (hm : m_plog_numbers p0 p1 = some r) :
    Cn Try.prog 22 #[.slice Ap0_0 p0.length cp0_0, .slice Ap1_0 p1.length cp1_0] ⟨w0, M, H, (1000, ⟨.slice Ap0_0 p0.length cp0_0, 5, 1, p0.length, p0.flatMap (fun x : Int => [Value.int .u8 x])⟩) :: R, φ⟩ (fun x : Option Addr × Nat => .slice x.1 r.length x.2) (fun x => r.length ≤ x.2) (fun x => ⟨w0, M, H, (2000, ⟨.slice x.1 r.length x.2, 5, 1, r.length, r.flatMap (fun x : Int => [Value.int .u8 x])⟩) :: R, φ⟩) := by
 unfold m_plog_numbers at hm
 refine cn_intro (fn := Try.f22) (N := 29) Try.func22 rfl Try.ntmps22 rfl ?_
 refine c_seq ?_
 refine c_region ?_
 refine g_v rfl r_assign ?_
 refine g_nil ?_
 refine d_then ?_
 refine c_seq ?_
 refine c_seq ?_
 refine c_region ?_
 refine g_v rfl r_move ?_
 refine g_v rfl (r_lenL Try.underlying25 rfl) ?_
 refine g_v rfl r_move ?_
 refine g_nil ?_
 refine d_then ?_
 refine c_cut (ι := (List Int) × Option Addr × Nat) [0] (fun ⟨l76, A77, c78⟩ => [(0, .slice A77 l76.length c78)]) (fun ⟨l76, A77, c78⟩ => ⟨w0, M, H, (1000, ⟨.slice A77 l76.length c78, 5, 1, l76.length, l76.flatMap (fun x : Int => [Value.int .u8 x])⟩) :: R, φ⟩) (fun ⟨l76, A77, c78⟩ => m_plog_numbers_j1 l76 = some r ∧ l76.length ≤ c78) ?_ (fun ⟨l76, A77, c78⟩ u ⟨hm, hc78⟩ => ?_)
 ·
  refine c_block ?_
  replace hm := bnd hm
  obtain ⟨out2, hl2, hr2⟩ := hm
  obtain ⟨n153', hl2⟩ := loop_lp hl2
  refine c_loopU (ι := Nat × (List Int) × Int × Option Addr × Nat) [0, 8, 9, 10] (fun ⟨n153, l114, i117, A115, c116⟩ => [(0, .slice A115 l114.length c116), (10, .int .i64 i117)]) (fun ⟨n153, l114, i117, A115, c116⟩ => ⟨w0, M, H, (1000, ⟨.slice A115 l114.length c116, 5, 1, l114.length, l114.flatMap (fun x : Int => [Value.int .u8 x])⟩) :: R, φ⟩) (fun ⟨n153, l114, i117, A115, c116⟩ => Lp (fun s => m_plog_numbers_s2 p1 s.1 s.2) n153 (l114, i117) out2 ∧ l114.length ≤ c116) (fun ⟨n153, l114, i117, A115, c116⟩ => n153) (n153', p0, 0, Ap0_0, cp0_0) ⟨hl2, hcp0_0⟩ ⟨rfl, rfl, rfl, rfl, trivial⟩ (fun W h => h.phi (fun W hφ => hφ)) (fun ⟨n153, l114, i117, A115, c116⟩ u ⟨hlp, hc116⟩ => ?_)
  obtain ⟨o2, hm, hnx2⟩ := lp_step hlp
  clear hlp
  replace hm : m_plog_numbers_s2 p1 l114 i117 = some o2 := hm
  unfold m_plog_numbers_s2 at hm
  refine c_flat [(0, .slice A115 l114.length c116), (8, .slice Ap1_0 p1.length cp1_0), (9, .int .i64 (p1.length : Int)), (10, .int .i64 i117)] ⟨rfl, rfl, rfl, rfl, trivial⟩ (fun u => ?_)
  refine c_sta ⟨w0, M, H, (1000, ⟨.slice A115 l114.length c116, 5, 1, l114.length, l114.flatMap (fun x : Int => [Value.int .u8 x])⟩) :: R, φ⟩ (fun _ h => h) ?_
  refine c_seq ?_
  refine c_region ?_
  refine g_v rfl (r_lss rfl rfl) ?_
  refine g_nil ?_
  refine d_then ?_
  refine c_seq ?_
  refine c_cond rfl (fun h154 => ?_) (fun h154 => ?_)
  ·
   replace hm := ite_t hm (of_decide_eq_true h154)
   refine c_skip ?_
   refine d_then ?_
   refine c_seq ?_
   refine c_block ?_
   refine c_seq ?_
   refine c_region ?_
   replace hm := bnd hm
   obtain ⟨x155, hx155, hm⟩ := hm
   refine g_know _ (fun W hS => cl_at (p := (Sta.mk w0 M H R φ).ok) (sz := 1) (fun _ => rfl) (by decide) (ok_pre (H1 := []) (R1 := [_]) hS (fun W h => h)) fp1_0 hx155) ?_
   rintro ⟨ad156, hA158, f157⟩
   refine g_v rfl (r_ix Try.underlying25 Try.sizeOf3 rfl hA158 rfl hx155) ?_
   refine g_v rfl (r_ld rfl Try.isAgg3 (fun W hS => Cl.head (f157 W (ok_pre (H1 := []) (R1 := [_]) hS (fun W h => h))))) ?_
   refine g_v rfl r_assign ?_
   refine g_nil ?_
   refine d_then ?_
   refine c_seq ?_
   refine c_region ?_
   refine g_v rfl r_move ?_
   refine g_nil ?_
   refine d_then ?_
   refine c_cut (ι := (List Int) × Option Addr × Nat) [0, 8, 9, 10] (fun ⟨l182, A183, c184⟩ => [(0, .slice A183 l182.length c184)]) (fun ⟨l182, A183, c184⟩ => ⟨w0, M, H, (1000, ⟨.slice A183 l182.length c184, 5, 1, l182.length, l182.flatMap (fun x : Int => [Value.int .u8 x])⟩) :: R, φ⟩) (fun ⟨l182, A183, c184⟩ => m_plog_numbers_j3 i117 l182 = some o2 ∧ l182.length ≤ c184) ?_ (fun ⟨l182, A183, c184⟩ u ⟨hm, hc184⟩ => ?_)
   ·
    refine c_block ?_
    replace hm := bnd hm
    obtain ⟨out4, hl4, hr4⟩ := hm
    obtain ⟨n208', hl4⟩ := loop_lp hl4
    refine c_loopU (ι := Nat × (List Int) × Int × Option Addr × Nat) [0, 6, 8, 9, 10, 14] (fun ⟨n208, l194, i197, A195, c196⟩ => [(0, .slice A195 l194.length c196), (14, .int .i64 i197)]) (fun ⟨n208, l194, i197, A195, c196⟩ => ⟨w0, M, H, (1000, ⟨.slice A195 l194.length c196, 5, 1, l194.length, l194.flatMap (fun x : Int => [Value.int .u8 x])⟩) :: R, φ⟩) (fun ⟨n208, l194, i197, A195, c196⟩ => Lp (fun s => m_plog_numbers_s4 x155 s.1 s.2) n208 (l194, i197) out4 ∧ l194.length ≤ c196) (fun ⟨n208, l194, i197, A195, c196⟩ => n208) (n208', l114, 0, A115, c116) ⟨hl4, hc116⟩ ⟨rfl, rfl, rfl, rfl, rfl, rfl, trivial⟩ (fun W h => h.phi (fun W hφ => hφ)) (fun ⟨n208, l194, i197, A195, c196⟩ u ⟨hlp, hc196⟩ => ?_)
    obtain ⟨o4, hm, hnx4⟩ := lp_step hlp
    clear hlp
    replace hm : m_plog_numbers_s4 x155 l194 i197 = some o4 := hm
    unfold m_plog_numbers_s4 at hm
    refine c_flat [(0, .slice A195 l194.length c196), (6, .int .i64 x155), (8, .slice Ap1_0 p1.length cp1_0), (9, .int .i64 (p1.length : Int)), (10, .int .i64 i117), (14, .int .i64 i197)] ⟨rfl, rfl, rfl, rfl, rfl, rfl, trivial⟩ (fun u => ?_)
    refine c_sta ⟨w0, M, H, (1000, ⟨.slice A195 l194.length c196, 5, 1, l194.length, l194.flatMap (fun x : Int => [Value.int .u8 x])⟩) :: R, φ⟩ (fun _ h => h) ?_
    refine c_seq ?_
    refine c_region ?_
    refine g_v rfl (r_lss rfl rfl) ?_
    refine g_nil ?_
    refine d_then ?_
    refine c_seq ?_
    refine c_cond rfl (fun h209 => ?_) (fun h209 => ?_)
    ·
     replace hm := ite_t hm (of_decide_eq_true h209)
     refine c_skip ?_
     refine d_then ?_
     refine c_seq ?_
     refine c_block ?_
     refine c_seq ?_
     refine c_region ?_
     refine g_v rfl r_move ?_
     refine g_v rfl r_assign ?_
     refine g_nil ?_
     refine d_then ?_
     refine c_region ?_
     refine g_v rfl r_move ?_
     refine g_v rfl r_move ?_
     refine g_v rfl r_move ?_
     refine g_v rfl (r_mul rfl rfl rfl) ?_
     refine g_v rfl (r_sub rfl rfl rfl) ?_
     replace hm := bnd hm
     obtain ⟨u210, hu210, hm⟩ := hm
     refine g_v rfl (r_shrV rfl rfl hu210) ?_
     refine g_v rfl (r_conv Try.underlying3 Try.underlying5 rfl rfl) ?_
     refine g_e rfl (e_lit (tag := 100240) (l := [IntKind.u8.wrap (shrI .i64 x155 (w64 (56 - (w64 (8 * i197)))))]) (enc := (fun x : Int => [Value.int .u8 x])) (sz := 1) rfl Try.underlying56 (lit5_13 _) rfl rfl (fun _ => rfl)) (fun g211 _ => ?_)
     replace hm := bnd hm
     obtain ⟨l212, hl212, hm⟩ := hm
     refine g_e rfl (e_appR (enc := (fun x : Int => [Value.int .u8 x])) (l := l194) (l1 := [IntKind.u8.wrap (shrI .i64 x155 (w64 (56 - (w64 (8 * i197)))))]) (l2 := l212) (tag := 1000) Try.underlying56 inf5_7 rfl (by decide) (by decide) (fun _ => rfl) (fun _ => rfl) rfl hc196 rfl rfl (fun W hS => rowCl (tag := 100240) rfl W hS) hl212) (fun ⟨A213, c214⟩ hc214 => ?_)
     refine g_v rfl r_assign ?_
     refine g_nil ?_
     refine d_normal_block ?_
     refine d_then ?_
     refine c_flat [(0, .slice A213 l212.length c214), (6, .int .i64 x155), (8, .slice Ap1_0 p1.length cp1_0), (9, .int .i64 (p1.length : Int)), (10, .int .i64 i117), (14, .int .i64 i197)] ⟨rfl, rfl, rfl, rfl, rfl, rfl, trivial⟩ (fun u => ?_)
     refine c_sta ⟨w0, M, H, (100240, ⟨.slice (some ⟨g211, 0, none⟩) [IntKind.u8.wrap (shrI .i64 x155 (w64 (56 - (w64 (8 * i197)))))].length 1, 5, 1, [IntKind.u8.wrap (shrI .i64 x155 (w64 (56 - (w64 (8 * i197)))))].length, [IntKind.u8.wrap (shrI .i64 x155 (w64 (56 - (w64 (8 * i197)))))].flatMap (fun x : Int => [Value.int .u8 x])⟩) :: (1000, ⟨.slice A213 l212.length c214, 5, 1, l212.length, l212.flatMap (fun x : Int => [Value.int .u8 x])⟩) :: R, φ⟩ (fun _ h => h) ?_
     refine c_region ?_
     refine g_v rfl (r_add rfl rfl rfl) ?_
     refine g_v rfl r_move ?_
     refine g_nil ?_
     obtain ⟨n215, hn215, hlp⟩ := nx_inl hm hnx4
     exact d_round (n215, l212, w64 (i197 + 1), A213, c214) ⟨hlp, hc214⟩ hn215 ⟨rfl, rfl, rfl, rfl, rfl, rfl, trivial⟩ (fun W h => ((h.shut (t := 100240) rfl).phi (fun _ hh => hh.1)).phi (fun W hφ => hφ))
    ·
     replace hm := ite_f hm (of_decide_eq_false h209)
     refine c_exit ?_
     refine d_exit_then ?_
     refine d_exit_then ?_
     refine d_exit_block ?_
     replace hm := nx_out (C := (fun e => m_plog_numbers_j3 i117 e = some o2)) hm hnx4 hr4
     exact d_round (l194, A195, c196) ⟨hm, hc196⟩ Nat.zero_lt_one ⟨rfl, rfl, rfl, rfl, trivial⟩ (fun W h => h.phi (fun W hφ => hφ))
   ·
    unfold m_plog_numbers_j3 at hm
    refine d_flat [(0, .slice A183 l182.length c184), (8, .slice Ap1_0 p1.length cp1_0), (9, .int .i64 (p1.length : Int)), (10, .int .i64 i117)] ⟨rfl, rfl, rfl, rfl, trivial⟩ (fun u => ?_)
    refine d_sta ⟨w0, M, H, (1000, ⟨.slice A183 l182.length c184, 5, 1, l182.length, l182.flatMap (fun x : Int => [Value.int .u8 x])⟩) :: R, φ⟩ (fun _ h => h) ?_
    refine d_normal_block ?_
    refine d_then ?_
    refine c_region ?_
    refine g_v rfl (r_add rfl rfl rfl) ?_
    refine g_v rfl r_move ?_
    refine g_nil ?_
    obtain ⟨n185, hn185, hlp⟩ := nx_inl hm hnx2
    exact d_round (n185, l182, w64 (i117 + 1), A183, c184) ⟨hlp, hc184⟩ hn185 ⟨rfl, rfl, rfl, rfl, trivial⟩ (fun W h => h.phi (fun W hφ => hφ))
  ·
   replace hm := ite_f hm (of_decide_eq_false h154)
   refine c_exit ?_
   refine d_exit_then ?_
   refine d_exit_then ?_
   refine d_exit_block ?_
   replace hm := nx_out (C := (fun e => m_plog_numbers_j1 e = some r)) hm hnx2 hr2
   exact d_round (l114, A115, c116) ⟨hm, hc116⟩ Nat.zero_lt_one ⟨rfl, trivial⟩ (fun W h => h.phi (fun W hφ => hφ))
 ·
  unfold m_plog_numbers_j1 at hm
  refine d_flat [(0, .slice A77 l76.length c78)] ⟨rfl, trivial⟩ (fun u => ?_)
  refine d_sta ⟨w0, M, H, (1000, ⟨.slice A77 l76.length c78, 5, 1, l76.length, l76.flatMap (fun x : Int => [Value.int .u8 x])⟩) :: R, φ⟩ (fun _ h => h) ?_
  refine d_then ?_
  refine c_seq ?_
  refine c_region ?_
  refine g_v rfl r_move ?_
  refine g_v rfl r_assign ?_
  refine g_nil ?_
  refine d_then ?_
  refine c_ret ?_
  replace hm := Option.some.inj hm
  subst hm
  refine d_sta _ (fun W h => ok_frontR (t := 1000) (t' := 2000) h rfl) ?_
  refine d_retC (A77, c78) Try.results22 ?_ hc78 (fun W h => h.phi (fun W hφ => hφ)) (.inr rfl)
  refine res_tmp ?_
  refine res_nil ?_
  exact rfl

noncomputable def m_plog_entry (p0 : GLog) (p1 : Int) : Option ByteArray :=
  (at_ p0.fEntries p1).bind fun x2 =>
  (m_plog_numbers [69] [w64 ((w64 (p0.fBase + 1)) + p1), x2.fTerm]).bind fun x9 =>
  (app 1 x9 [IntKind.u8.wrap x2.fKind]).bind fun l29 =>
  (app 1 l29 (bytesI x2.fData)).bind fun l32 =>
  some (strOfNums l32)
theorem c_plog_entry {w0 : World} {M : Nat → Prop} {H : List (Nat × Nat × Obj)} {R : List (Nat × Row)} {φ : World → Prop} (p0 : GLog) (Ap0_0 : Option Addr) (cp0_0 : Nat) (hcp0_0 : p0.fEntries.length ≤ cp0_0) (fp0_0 : ∀ W, (Sta.mk w0 M H R φ).ok W → Cl W Ap0_0 (p0.fEntries.flatMap GEntry.enc)) (p1 : Int) (r : ByteArray) (hm : m_plog_entry p0 p1 = some r) :
    Cn Try.prog 34 #[.agg #[.int .i64 p0.fBase, .int .i64 p0.fBaseTerm, .slice Ap0_0 p0.fEntries.length cp0_0], .int .i64 p1] ⟨w0, M, H, R, φ⟩ (fun x : Unit => .string r) (fun x => True) (fun x => ⟨w0, M, H, R, φ⟩) := by
 unfold m_plog_entry at hm
 refine cn_intro (fn := Try.f34) (N := 32) Try.func34 rfl Try.ntmps34 rfl ?_
 refine c_seq ?_
 refine c_region ?_
 refine g_e rfl (e_box 100020 rfl) (fun g1 _ => ?_)
 refine g_v rfl r_assign ?_
 refine g_nil ?_
 refine d_then ?_
 refine c_seq ?_
 refine c_region ?_
 refine g_v rfl (r_field (n := 2) Try.underlying28 rfl Try.sizeOf26 rfl rfl) ?_
 refine g_v rfl (r_load (tag := 100020) rfl rfl rfl Try.isAgg26) ?_
 refine g_v rfl r_move ?_
 replace hm := bnd hm
 obtain ⟨x2, hx2, hm⟩ := hm
 refine g_know _ (fun W hS => cl_at (p := (Sta.mk w0 M H R φ).ok) (sz := 3) (fun _ => rfl) (by decide) (ok_pre (H1 := [_]) (R1 := []) hS (fun W h => h)) fp0_0 hx2) ?_
 rintro ⟨ad3, hA5, f4⟩
 refine g_v rfl (r_ix Try.underlying26 Try.sizeOf46 rfl hA5 rfl hx2) ?_
 refine g_v rfl (r_ldA rfl Try.isAgg46 Try.sizeOf46 (fun W hS => (f4 W (ok_pre (H1 := [_]) (R1 := []) hS (fun W h => h))).take 3) rfl) ?_
 refine g_e rfl (e_alloc 100050 Try.zeroValue46) (fun g6 _ => ?_)
 refine g_storeL (tag := 100050) rfl rfl rfl rfl Try.sizeOf46 rfl rfl ?_
 refine g_nil ?_
 refine d_then ?_
 refine c_flat [(1, .int .i64 p1), (2, .pointer (some ⟨g1, 0, none⟩)), (5, .pointer (some ⟨g6, 0, none⟩))] ⟨rfl, rfl, rfl, trivial⟩ (fun u => ?_)
 refine c_sta ⟨w0, M, (100050, g6, .cells #[.int .i64 x2.fTerm, .int .i64 x2.fKind, .string x2.fData] 46 (0, 0)) :: (100020, g1, .cells #[.int .i64 p0.fBase, .int .i64 p0.fBaseTerm, .slice Ap0_0 p0.fEntries.length cp0_0] 28 (0, 0)) :: H, R, φ⟩ (fun _ h => h) ?_
 refine c_seq ?_
 refine c_region ?_
 refine g_e rfl (e_lit (tag := 100120) (l := [69]) (enc := (fun x : Int => [Value.int .u8 x])) (sz := 1) rfl Try.underlying56 (lit5_13 _) rfl rfl (fun _ => rfl)) (fun g7 _ => ?_)
 refine g_v rfl (r_field (n := 0) Try.underlying28 rfl Try.sizeOf3 rfl rfl) ?_
 refine g_v rfl (r_load (tag := 100020) rfl rfl rfl Try.isAgg3) ?_
 refine g_v rfl (r_add rfl rfl rfl) ?_
 refine g_v rfl r_move ?_
 refine g_v rfl (r_add rfl rfl rfl) ?_
 refine g_v rfl (r_field (n := 0) Try.underlying46 rfl Try.sizeOf3 rfl rfl) ?_
 refine g_v rfl (r_load (tag := 100050) rfl rfl rfl Try.isAgg3) ?_
 refine g_e rfl (e_lit (tag := 100200) (l := [w64 ((w64 (p0.fBase + 1)) + p1), x2.fTerm]) (enc := (fun x : Int => [Value.int .i64 x])) (sz := 1) rfl Try.underlying25 (lit3_6 _ _) rfl rfl (fun _ => rfl)) (fun g8 _ => ?_)
 replace hm := bnd hm
 obtain ⟨x9, hx10, hm⟩ := hm
 refine g_cn ⟨w0, M, (100050, g6, .cells #[.int .i64 x2.fTerm, .int .i64 x2.fKind, .string x2.fData] 46 (0, 0)) :: (100020, g1, .cells #[.int .i64 p0.fBase, .int .i64 p0.fBaseTerm, .slice Ap0_0 p0.fEntries.length cp0_0] 28 (0, 0)) :: H, (1000, ⟨.slice (some ⟨g7, 0, none⟩) [69].length 1, 5, 1, [69].length, [69].flatMap (fun x : Int => [Value.int .u8 x])⟩) :: (100200, ⟨.slice (some ⟨g8, 0, none⟩) [w64 ((w64 (p0.fBase + 1)) + p1), x2.fTerm].length 2, 3, 1, [w64 ((w64 (p0.fBase + 1)) + p1), x2.fTerm].length, [w64 ((w64 (p0.fBase + 1)) + p1), x2.fTerm].flatMap (fun x : Int => [Value.int .i64 x])⟩) :: R, φ⟩ (fun W h => (ok_frontR (t := 100120) (t' := 1000) h rfl)) Try.call22 rfl rfl (c_plog_numbers [69] (some ⟨g7, 0, none⟩) 1 (Nat.le_refl _) [w64 ((w64 (p0.fBase + 1)) + p1), x2.fTerm] (some ⟨g8, 0, none⟩) 2 (Nat.le_refl _) (fun W hS => rowCl (tag := 100200) rfl W hS) _ hx10) (fun ⟨A11, c12⟩ hc12 => ?_)
 refine g_sta _ (fun W h => (ok_frontR (t := 2000) (t' := 100210) h rfl)) ?_
 refine g_v rfl r_assign ?_
 refine g_nil ?_
 refine d_then ?_
 refine c_flat [(5, .pointer (some ⟨g6, 0, none⟩)), (6, .slice A11 x9.length c12)] ⟨rfl, rfl, trivial⟩ (fun u => ?_)
 refine c_sta ⟨w0, M, (100050, g6, .cells #[.int .i64 x2.fTerm, .int .i64 x2.fKind, .string x2.fData] 46 (0, 0)) :: (100020, g1, .cells #[.int .i64 p0.fBase, .int .i64 p0.fBaseTerm, .slice Ap0_0 p0.fEntries.length cp0_0] 28 (0, 0)) :: H, (100210, ⟨.slice A11 x9.length c12, 5, 1, x9.length, x9.flatMap (fun x : Int => [Value.int .u8 x])⟩) :: (100200, ⟨.slice (some ⟨g8, 0, none⟩) [w64 ((w64 (p0.fBase + 1)) + p1), x2.fTerm].length 2, 3, 1, [w64 ((w64 (p0.fBase + 1)) + p1), x2.fTerm].length, [w64 ((w64 (p0.fBase + 1)) + p1), x2.fTerm].flatMap (fun x : Int => [Value.int .i64 x])⟩) :: R, φ⟩ (fun _ h => h) ?_
 refine c_seq ?_
 refine ga_start (n := 11) ⟨w0, M, (100050, g6, .cells #[.int .i64 x2.fTerm, .int .i64 x2.fKind, .string x2.fData] 46 (0, 0)) :: (100020, g1, .cells #[.int .i64 p0.fBase, .int .i64 p0.fBaseTerm, .slice Ap0_0 p0.fEntries.length cp0_0] 28 (0, 0)) :: H, (100200, ⟨.slice (some ⟨g8, 0, none⟩) [w64 ((w64 (p0.fBase + 1)) + p1), x2.fTerm].length 2, 3, 1, [w64 ((w64 (p0.fBase + 1)) + p1), x2.fTerm].length, [w64 ((w64 (p0.fBase + 1)) + p1), x2.fTerm].flatMap (fun x : Int => [Value.int .i64 x])⟩) :: R, φ⟩ [] #[false, false, false, false, false, false, false, false, false, false, false] (fun W h => ((h.shut (t := 100210) rfl).phi (fun _ hh => hh.1)).phi (fun W hφ => hφ)) mixed rfl rfl ?_
 refine ga_v (i := 0) #[true, false, false, false, false, false, false, false, false, false, false] rfl (by kernel_rfl) (fun _ _ _ _ h => h) rfl (r_move) ?_
 refine ga_v (i := 1) #[true, true, false, false, false, false, false, false, false, false, false] rfl (by kernel_rfl) (fun _ _ _ _ h => h) rfl (r_field (n := 1) Try.underlying46 rfl Try.sizeOf3 rfl rfl) ?_
 refine ga_v (i := 2) #[true, true, true, false, false, false, false, false, false, false, false] rfl (by kernel_rfl) (fun _ _ _ _ h => h) rfl (r_load (tag := 100050) rfl rfl rfl Try.isAgg3) ?_
 refine ga_v (i := 3) #[true, true, true, true, false, false, false, false, false, false, false] rfl (by kernel_rfl) (fun _ _ _ _ h => h) rfl (r_conv Try.underlying3 Try.underlying5 rfl rfl) ?_
 refine ga_v (i := 6) #[true, true, true, true, false, false, true, false, false, false, false] rfl (by kernel_rfl) (fun _ _ _ _ h => h) rfl (r_field (n := 2) Try.underlying46 rfl Try.sizeOf9 rfl rfl) ?_
 refine ga_v (i := 7) #[true, true, true, true, false, false, true, true, false, false, false] rfl (by kernel_rfl) (fun _ _ _ _ h => h) rfl (r_load (tag := 100050) rfl rfl rfl Try.isAgg9) ?_
 refine ga_e (i := 4) #[true, true, true, true, true, false, true, true, false, false, false] rfl (by kernel_rfl) (by decide) rfl  (e_lit (tag := 100260) (l := [IntKind.u8.wrap x2.fKind]) (enc := (fun x : Int => [Value.int .u8 x])) (sz := 1) rfl Try.underlying56 (lit5_13 _) rfl rfl (fun _ => rfl)) (fun g28 W _ h => ((((h.shut (t := 100260) rfl).phi (fun _ hh => hh.1)).shut (t := 100210) rfl).phi (fun _ hh => hh.1)).phi (fun W hφ => hφ)) (fun g28 _ => ?_)
 replace hm := bnd hm
 obtain ⟨l29, hl29, hm⟩ := hm
 refine ga_e (i := 5) #[true, true, true, true, true, true, true, true, false, false, false] rfl (by kernel_rfl) (by decide) rfl  (e_appR (enc := (fun x : Int => [Value.int .u8 x])) (l := x9) (l1 := [IntKind.u8.wrap x2.fKind]) (l2 := l29) (tag := 100210) Try.underlying56 inf5_7 rfl (by decide) (by decide) (fun _ => rfl) (fun _ => rfl) rfl hc12 rfl rfl (fun W hS => rowCl (tag := 100260) rfl W hS) hl29) (fun ⟨A30, c31⟩ W hc31 h => ((((h.shut (t := 100260) rfl).phi (fun _ hh => hh.1)).shut (t := 100210) rfl).phi (fun _ hh => hh.1)).phi (fun W hφ => hφ)) (fun ⟨A30, c31⟩ hc31 => ?_)
 replace hm := bnd hm
 obtain ⟨l32, hl32, hm⟩ := hm
 refine ga_e (i := 8) #[true, true, true, true, true, true, true, true, true, false, false] rfl (by kernel_rfl) (by decide) rfl  (e_appRS (l := l29) (l2 := l32) (tag := 100210) Try.underlying56 Try.underlying9 inf5_7 rfl hc31 rfl rfl hl32) (fun ⟨A33, c34⟩ W hc34 h => ((((h.shut (t := 100260) rfl).phi (fun _ hh => hh.1)).shut (t := 100210) rfl).phi (fun _ hh => hh.1)).phi (fun W hφ => hφ)) (fun ⟨A33, c34⟩ hc34 => ?_)
 refine ga_r (i := 9) #[true, true, true, true, true, true, true, true, true, true, false] rfl (by kernel_rfl) (by decide) rfl (r_textE Try.underlying56 Try.underlying5 Try.underlying9 rfl (fun W hS => rowCl (tag := 100210) rfl W hS)) ?_
 refine ga_r (i := 10) #[true, true, true, true, true, true, true, true, true, true, true] rfl (by kernel_rfl) (by decide) rfl (r_assign) ?_
 refine ga_done (by kernel_rfl) ?_
 refine d_then ?_
 refine c_flat [(4, .string (strOfNums l32))] ⟨rfl, trivial⟩ (fun u => ?_)
 refine c_sta ⟨w0, M, (100050, g6, .cells #[.int .i64 x2.fTerm, .int .i64 x2.fKind, .string x2.fData] 46 (0, 0)) :: (100020, g1, .cells #[.int .i64 p0.fBase, .int .i64 p0.fBaseTerm, .slice Ap0_0 p0.fEntries.length cp0_0] 28 (0, 0)) :: H, (100260, ⟨.slice (some ⟨g28, 0, none⟩) [IntKind.u8.wrap x2.fKind].length 1, 5, 1, [IntKind.u8.wrap x2.fKind].length, [IntKind.u8.wrap x2.fKind].flatMap (fun x : Int => [Value.int .u8 x])⟩) :: (100210, ⟨.slice A33 l32.length c34, 5, 1, l32.length, l32.flatMap (fun x : Int => [Value.int .u8 x])⟩) :: (100200, ⟨.slice (some ⟨g8, 0, none⟩) [w64 ((w64 (p0.fBase + 1)) + p1), x2.fTerm].length 2, 3, 1, [w64 ((w64 (p0.fBase + 1)) + p1), x2.fTerm].length, [w64 ((w64 (p0.fBase + 1)) + p1), x2.fTerm].flatMap (fun x : Int => [Value.int .i64 x])⟩) :: R, φ⟩ (fun _ h => h) ?_
 refine c_ret ?_
 replace hm := Option.some.inj hm
 subst hm
 refine d_retC () Try.results34 ?_ trivial (fun W h => ok_pre (H1 := [_, _]) (R1 := [_, _, _]) h (fun W hφ => hφ)) (.inr rfl)
 refine res_tmp ?_
 refine res_nil ?_
 exact rfl

theorem lit9_15 (z0 : ByteArray) : Try.prog.builtSlice 9 1 [(0, .string z0)] = some #[.string z0] := by kernel_rfl
theorem inf9_16  : (Try.prog.info? 9).map (fun i => (i.zero, i.size, i.bytes)) = some (some (.string (⟨#[]⟩ : ByteArray)), 1, 16) := by kernel_rfl
noncomputable def m_plog_entries_j1  (l72 : List ByteArray) : Option (List ByteArray) :=
  some l72
noncomputable def m_plog_entries_s2 (p0 : GLog) (p1 : Int) (l88 : List ByteArray) (i91 : Int) (i92 : Int) : Option (((List ByteArray) × Int × Int) ⊕ (List ByteArray)) :=
  if i92 < i91 then
    (m_plog_entry p0 (w64 (p1 + i92))).bind fun x107 =>
    (app 16 l88 [x107]).bind fun l110 =>
    some (.inl (l110, i91, w64 (i92 + 1)))
  else
    some (.inr l88)
noncomputable def m_plog_entries (p0 : GLog) (p1 : Int) : Option (List ByteArray) :=
  (loop (fun s => m_plog_entries_s2 p0 p1 s.1 s.2.1 s.2.2) (([] : List ByteArray), w64 ((p0.fEntries.length : Int) - p1), 0)).bind fun e => m_plog_entries_j1 e
theorem c_plog_entries {w0 : World} {M : Nat → Prop} {H : List (Nat × Nat × Obj)} {R : List (Nat × Row)} {φ : World → Prop} (p0 : GLog) (Ap0_0 : Option Addr) (cp0_0 : Nat) (hcp0_0 : p0.fEntries.length ≤ cp0_0) (fp0_0 : ∀ W, (Sta.mk w0 M H R φ).ok W → Cl W Ap0_0 (p0.fEntries.flatMap GEntry.enc)) (p1 : Int) (r : (List ByteArray)) (hm : m_plog_entries p0 p1 = some r) :
    Cn Try.prog 23 #[.agg #[.int .i64 p0.fBase, .int .i64 p0.fBaseTerm, .slice Ap0_0 p0.fEntries.length cp0_0], .int .i64 p1] ⟨w0, M, H, R, φ⟩ (fun x : Option Addr × Nat => .slice x.1 r.length x.2) (fun x => r.length ≤ x.2) (fun x => ⟨w0, M, H, (2000, ⟨.slice x.1 r.length x.2, 9, 1, r.length, r.flatMap (fun x : ByteArray => [Value.string x])⟩) :: R, φ⟩) := by
 unfold m_plog_entries at hm
 refine cn_intro (fn := Try.f23) (N := 25) Try.func23 rfl Try.ntmps23 rfl ?_
 refine c_seq ?_
 refine c_region ?_
 refine g_e rfl (e_box 100020 rfl) (fun g1 _ => ?_)
 refine g_v rfl r_assign ?_
 refine g_nil ?_
 refine d_then ?_
 refine c_seq ?_
 refine c_region ?_
 refine g_v rfl r_assign ?_
 refine g_nil ?_
 refine d_then ?_
 refine c_seq ?_
 refine c_seq ?_
 refine c_region ?_
 refine g_v rfl (r_field (n := 2) Try.underlying28 rfl Try.sizeOf26 rfl rfl) ?_
 refine g_v rfl (r_load (tag := 100020) rfl rfl rfl Try.isAgg26) ?_
 refine g_v rfl (r_lenL Try.underlying26 rfl) ?_
 refine g_v rfl r_move ?_
 refine g_v rfl (r_sub rfl rfl rfl) ?_
 refine g_v rfl r_move ?_
 refine g_nil ?_
 refine d_then ?_
 refine c_flat [(1, .int .i64 p1), (2, .pointer (some ⟨g1, 0, none⟩)), (5, .slice none 0 0), (11, .int .i64 (w64 ((p0.fEntries.length : Int) - p1))), (12, .int .i64 0)] ⟨rfl, rfl, rfl, rfl, rfl, trivial⟩ (fun u => ?_)
 refine c_sta ⟨w0, M, (100020, g1, .cells #[.int .i64 p0.fBase, .int .i64 p0.fBaseTerm, .slice Ap0_0 p0.fEntries.length cp0_0] 28 (0, 0)) :: H, R, φ⟩ (fun _ h => h) ?_
 refine c_sta _ (fun W h => nilR h 3 9 1) ?_
 refine c_cut (ι := (List ByteArray) × Option Addr × Nat) [5] (fun ⟨l72, A73, c74⟩ => [(5, .slice A73 l72.length c74)]) (fun ⟨l72, A73, c74⟩ => ⟨w0, M, H, (3, ⟨.slice A73 l72.length c74, 9, 1, l72.length, l72.flatMap (fun x : ByteArray => [Value.string x])⟩) :: R, φ⟩) (fun ⟨l72, A73, c74⟩ => m_plog_entries_j1 l72 = some r ∧ l72.length ≤ c74) ?_ (fun ⟨l72, A73, c74⟩ u ⟨hm, hc74⟩ => ?_)
 ·
  refine c_block ?_
  replace hm := bnd hm
  obtain ⟨out2, hl2, hr2⟩ := hm
  obtain ⟨n105', hl2⟩ := loop_lp hl2
  refine c_loopU (ι := Nat × (List ByteArray) × Int × Int × Option Addr × Nat) [1, 2, 5, 11, 12] (fun ⟨n105, l88, i91, i92, A89, c90⟩ => [(5, .slice A89 l88.length c90), (11, .int .i64 i91), (12, .int .i64 i92)]) (fun ⟨n105, l88, i91, i92, A89, c90⟩ => ⟨w0, M, (100020, g1, .cells #[.int .i64 p0.fBase, .int .i64 p0.fBaseTerm, .slice Ap0_0 p0.fEntries.length cp0_0] 28 (0, 0)) :: H, (3, ⟨.slice A89 l88.length c90, 9, 1, l88.length, l88.flatMap (fun x : ByteArray => [Value.string x])⟩) :: R, φ⟩) (fun ⟨n105, l88, i91, i92, A89, c90⟩ => Lp (fun s => m_plog_entries_s2 p0 p1 s.1 s.2.1 s.2.2) n105 (l88, i91, i92) out2 ∧ l88.length ≤ c90) (fun ⟨n105, l88, i91, i92, A89, c90⟩ => n105) (n105', ([] : List ByteArray), w64 ((p0.fEntries.length : Int) - p1), 0, none, 0) ⟨hl2, (Nat.le_refl 0)⟩ ⟨rfl, rfl, rfl, rfl, rfl, trivial⟩ (fun W h => h.phi (fun W hφ => hφ)) (fun ⟨n105, l88, i91, i92, A89, c90⟩ u ⟨hlp, hc90⟩ => ?_)
  obtain ⟨o2, hm, hnx2⟩ := lp_step hlp
  clear hlp
  replace hm : m_plog_entries_s2 p0 p1 l88 i91 i92 = some o2 := hm
  unfold m_plog_entries_s2 at hm
  refine c_flat [(1, .int .i64 p1), (2, .pointer (some ⟨g1, 0, none⟩)), (5, .slice A89 l88.length c90), (11, .int .i64 i91), (12, .int .i64 i92)] ⟨rfl, rfl, rfl, rfl, rfl, trivial⟩ (fun u => ?_)
  refine c_sta ⟨w0, M, (100020, g1, .cells #[.int .i64 p0.fBase, .int .i64 p0.fBaseTerm, .slice Ap0_0 p0.fEntries.length cp0_0] 28 (0, 0)) :: H, (3, ⟨.slice A89 l88.length c90, 9, 1, l88.length, l88.flatMap (fun x : ByteArray => [Value.string x])⟩) :: R, φ⟩ (fun _ h => h) ?_
  refine c_seq ?_
  refine c_region ?_
  refine g_v rfl (r_lss rfl rfl) ?_
  refine g_nil ?_
  refine d_then ?_
  refine c_seq ?_
  refine c_cond rfl (fun h106 => ?_) (fun h106 => ?_)
  ·
   replace hm := ite_t hm (of_decide_eq_true h106)
   refine c_skip ?_
   refine d_then ?_
   refine c_seq ?_
   refine c_block ?_
   refine c_seq ?_
   refine c_region ?_
   refine g_v rfl r_move ?_
   refine g_v rfl r_assign ?_
   refine g_nil ?_
   refine d_then ?_
   refine c_region ?_
   refine g_v rfl r_move ?_
   refine g_v rfl (r_loadA (tag := 100020) rfl rfl Try.isAgg28 Try.sizeOf28 rfl rfl) ?_
   refine g_v rfl r_move ?_
   refine g_v rfl r_move ?_
   refine g_v rfl (r_add rfl rfl rfl) ?_
   replace hm := bnd hm
   obtain ⟨x107, hx108, hm⟩ := hm
   refine g_cn ⟨w0, M, _, _, φ⟩ (fun _ h => h) Try.call34 rfl rfl (c_plog_entry p0 Ap0_0 cp0_0 hcp0_0 (fun W hS => fp0_0 W (ok_pre (H1 := [_]) (R1 := [_]) hS (fun W h => h))) (w64 (p1 + i92)) _ hx108) (fun _ _ => ?_)
   refine g_e rfl (e_lit (tag := 100210) (l := [x107]) (enc := (fun x : ByteArray => [Value.string x])) (sz := 1) rfl Try.underlying24 (lit9_15 _) rfl rfl (fun _ => rfl)) (fun g109 _ => ?_)
   replace hm := bnd hm
   obtain ⟨l110, hl110, hm⟩ := hm
   refine g_e rfl (e_appR (enc := (fun x : ByteArray => [Value.string x])) (l := l88) (l1 := [x107]) (l2 := l110) (tag := 3) Try.underlying24 inf9_16 rfl (by decide) (by decide) (fun _ => rfl) (fun _ => rfl) rfl hc90 rfl rfl (fun W hS => rowCl (tag := 100210) rfl W hS) hl110) (fun ⟨A111, c112⟩ hc112 => ?_)
   refine g_v rfl r_assign ?_
   refine g_nil ?_
   refine d_normal_block ?_
   refine d_then ?_
   refine c_flat [(1, .int .i64 p1), (2, .pointer (some ⟨g1, 0, none⟩)), (5, .slice A111 l110.length c112), (11, .int .i64 i91), (12, .int .i64 i92)] ⟨rfl, rfl, rfl, rfl, rfl, trivial⟩ (fun u => ?_)
   refine c_sta ⟨w0, M, (100020, g1, .cells #[.int .i64 p0.fBase, .int .i64 p0.fBaseTerm, .slice Ap0_0 p0.fEntries.length cp0_0] 28 (0, 0)) :: H, (100210, ⟨.slice (some ⟨g109, 0, none⟩) [x107].length 1, 9, 1, [x107].length, [x107].flatMap (fun x : ByteArray => [Value.string x])⟩) :: (3, ⟨.slice A111 l110.length c112, 9, 1, l110.length, l110.flatMap (fun x : ByteArray => [Value.string x])⟩) :: R, φ⟩ (fun _ h => h) ?_
   refine c_region ?_
   refine g_v rfl (r_add rfl rfl rfl) ?_
   refine g_v rfl r_move ?_
   refine g_nil ?_
   obtain ⟨n113, hn113, hlp⟩ := nx_inl hm hnx2
   exact d_round (n113, l110, i91, w64 (i92 + 1), A111, c112) ⟨hlp, hc112⟩ hn113 ⟨rfl, rfl, rfl, rfl, rfl, trivial⟩ (fun W h => ((h.shut (t := 100210) rfl).phi (fun _ hh => hh.1)).phi (fun W hφ => hφ))
  ·
   replace hm := ite_f hm (of_decide_eq_false h106)
   refine c_exit ?_
   refine d_exit_then ?_
   refine d_exit_then ?_
   refine d_exit_block ?_
   replace hm := nx_out (C := (fun e => m_plog_entries_j1 e = some r)) hm hnx2 hr2
   exact d_round (l88, A89, c90) ⟨hm, hc90⟩ Nat.zero_lt_one ⟨rfl, trivial⟩ (fun W h => (h.dropH (t := 100020) rfl).phi (fun W hφ => hφ))
 ·
  unfold m_plog_entries_j1 at hm
  refine d_flat [(5, .slice A73 l72.length c74)] ⟨rfl, trivial⟩ (fun u => ?_)
  refine d_sta ⟨w0, M, H, (3, ⟨.slice A73 l72.length c74, 9, 1, l72.length, l72.flatMap (fun x : ByteArray => [Value.string x])⟩) :: R, φ⟩ (fun _ h => h) ?_
  refine d_then ?_
  refine c_seq ?_
  refine c_region ?_
  refine g_v rfl r_move ?_
  refine g_v rfl r_assign ?_
  refine g_nil ?_
  refine d_then ?_
  refine c_ret ?_
  replace hm := Option.some.inj hm
  subst hm
  refine d_sta _ (fun W h => ok_frontR (t := 3) (t' := 2000) h rfl) ?_
  refine d_retC (A73, c74) Try.results23 ?_ hc74 (fun W h => h.phi (fun W hφ => hφ)) (.inr rfl)
  refine res_tmp ?_
  refine res_nil ?_
  exact rfl

noncomputable def m_plog_anew_j1 (p0 : GHard) (l120 : List Int) : Option (List ByteArray) :=
  (app 1 l120 (bytesI p0.fSnap)).bind fun l177 =>
  (m_plog_entries p0.fLog 0).bind fun x180 =>
  (app 16 [strOfNums l177] x180).bind fun l187 =>
  some l187
noncomputable def m_plog_anew (p0 : GHard) : Option (List ByteArray) :=
  (m_plog_numbers [87] [p0.fTerm, p0.fVote, p0.fLog.fBase, p0.fLog.fBaseTerm, (p0.fVoters.length : Int)]).bind fun x4 =>
  (m_plog_Data p0.fVoters).bind fun x245 =>
  (app 1 x4 (bytesI x245)).bind fun l248 =>
  (m_plog_numbers l248 [(p0.fSnap.size : Int)]).bind fun x252 =>
  m_plog_anew_j1 p0 x252
theorem c_plog_anew {w0 : World} {M : Nat → Prop} {H : List (Nat × Nat × Obj)} {R : List (Nat × Row)} {φ : World → Prop} (p0 : GHard) (Ap0_0 : Option Addr) (cp0_0 : Nat) (hcp0_0 : p0.fVoters.length ≤ cp0_0) (fp0_0 : ∀ W, (Sta.mk w0 M H R φ).ok W → Cl W Ap0_0 (p0.fVoters.flatMap (fun x : Int => [Value.int .i64 x]))) (Ap0_1 : Option Addr) (cp0_1 : Nat) (hcp0_1 : p0.fLog.fEntries.length ≤ cp0_1) (fp0_1 : ∀ W, (Sta.mk w0 M H R φ).ok W → Cl W Ap0_1 (p0.fLog.fEntries.flatMap GEntry.enc)) (r : (List ByteArray)) (hm : m_plog_anew p0 = some r) :
    Cn Try.prog 20 #[.agg #[.int .i64 p0.fTerm, .int .i64 p0.fVote, .slice Ap0_0 p0.fVoters.length cp0_0, .string p0.fSnap, .int .i64 p0.fLog.fBase, .int .i64 p0.fLog.fBaseTerm, .slice Ap0_1 p0.fLog.fEntries.length cp0_1]] ⟨w0, M, H, R, φ⟩ (fun x : Option Addr × Nat => .slice x.1 r.length x.2) (fun x => r.length ≤ x.2) (fun x => ⟨w0, M, H, (2000, ⟨.slice x.1 r.length x.2, 9, 1, r.length, r.flatMap (fun x : ByteArray => [Value.string x])⟩) :: R, φ⟩) := by
 unfold m_plog_anew at hm
 refine cn_intro (fn := Try.f20) (N := 40) Try.func20 rfl Try.ntmps20 rfl ?_
 refine c_seq ?_
 refine c_region ?_
 refine g_e rfl (e_box 100010 rfl) (fun g1 _ => ?_)
 refine g_v rfl r_assign ?_
 refine g_nil ?_
 refine d_then ?_
 refine c_seq ?_
 refine c_region ?_
 refine g_e rfl (e_lit (tag := 100040) (l := [87]) (enc := (fun x : Int => [Value.int .u8 x])) (sz := 1) rfl Try.underlying56 (lit5_13 _) rfl rfl (fun _ => rfl)) (fun g2 _ => ?_)
 refine g_v rfl (r_field (n := 0) Try.underlying30 rfl Try.sizeOf3 rfl rfl) ?_
 refine g_v rfl (r_load (tag := 100010) rfl rfl rfl Try.isAgg3) ?_
 refine g_v rfl (r_field (n := 1) Try.underlying30 rfl Try.sizeOf3 rfl rfl) ?_
 refine g_v rfl (r_load (tag := 100010) rfl rfl rfl Try.isAgg3) ?_
 refine g_v rfl (r_field (n := 4) Try.underlying30 rfl Try.sizeOf28 rfl rfl) ?_
 refine g_v rfl (r_field (n := 4) Try.underlying28 rfl Try.sizeOf3 rfl rfl) ?_
 refine g_v rfl (r_load (tag := 100010) rfl rfl rfl Try.isAgg3) ?_
 refine g_v rfl (r_field (n := 4) Try.underlying30 rfl Try.sizeOf28 rfl rfl) ?_
 refine g_v rfl (r_field (n := 5) Try.underlying28 rfl Try.sizeOf3 rfl rfl) ?_
 refine g_v rfl (r_load (tag := 100010) rfl rfl rfl Try.isAgg3) ?_
 refine g_v rfl (r_field (n := 2) Try.underlying30 rfl Try.sizeOf25 rfl rfl) ?_
 refine g_v rfl (r_load (tag := 100010) rfl rfl rfl Try.isAgg25) ?_
 refine g_v rfl (r_lenL Try.underlying25 rfl) ?_
 refine g_e rfl (e_lit (tag := 100180) (l := [p0.fTerm, p0.fVote, p0.fLog.fBase, p0.fLog.fBaseTerm, (p0.fVoters.length : Int)]) (enc := (fun x : Int => [Value.int .i64 x])) (sz := 1) rfl Try.underlying25 (lit3_14 _ _ _ _ _) rfl rfl (fun _ => rfl)) (fun g3 _ => ?_)
 replace hm := bnd hm
 obtain ⟨x4, hx5, hm⟩ := hm
 refine g_cn ⟨w0, M, (100010, g1, .cells #[.int .i64 p0.fTerm, .int .i64 p0.fVote, .slice Ap0_0 p0.fVoters.length cp0_0, .string p0.fSnap, .int .i64 p0.fLog.fBase, .int .i64 p0.fLog.fBaseTerm, .slice Ap0_1 p0.fLog.fEntries.length cp0_1] 30 (0, 0)) :: H, (1000, ⟨.slice (some ⟨g2, 0, none⟩) [87].length 1, 5, 1, [87].length, [87].flatMap (fun x : Int => [Value.int .u8 x])⟩) :: (100180, ⟨.slice (some ⟨g3, 0, none⟩) [p0.fTerm, p0.fVote, p0.fLog.fBase, p0.fLog.fBaseTerm, (p0.fVoters.length : Int)].length 5, 3, 1, [p0.fTerm, p0.fVote, p0.fLog.fBase, p0.fLog.fBaseTerm, (p0.fVoters.length : Int)].length, [p0.fTerm, p0.fVote, p0.fLog.fBase, p0.fLog.fBaseTerm, (p0.fVoters.length : Int)].flatMap (fun x : Int => [Value.int .i64 x])⟩) :: R, φ⟩ (fun W h => (ok_frontR (t := 100040) (t' := 1000) h rfl)) Try.call22 rfl rfl (c_plog_numbers [87] (some ⟨g2, 0, none⟩) 1 (Nat.le_refl _) [p0.fTerm, p0.fVote, p0.fLog.fBase, p0.fLog.fBaseTerm, (p0.fVoters.length : Int)] (some ⟨g3, 0, none⟩) 5 (Nat.le_refl _) (fun W hS => rowCl (tag := 100180) rfl W hS) _ hx5) (fun ⟨A6, c7⟩ hc7 => ?_)
 refine g_sta _ (fun W h => (ok_frontR (t := 2000) (t' := 100190) h rfl)) ?_
 refine g_v rfl r_assign ?_
 refine g_nil ?_
 refine d_then ?_
 refine c_flat [(1, .pointer (some ⟨g1, 0, none⟩)), (3, .slice A6 x4.length c7)] ⟨rfl, rfl, trivial⟩ (fun u => ?_)
 refine c_sta ⟨w0, M, (100010, g1, .cells #[.int .i64 p0.fTerm, .int .i64 p0.fVote, .slice Ap0_0 p0.fVoters.length cp0_0, .string p0.fSnap, .int .i64 p0.fLog.fBase, .int .i64 p0.fLog.fBaseTerm, .slice Ap0_1 p0.fLog.fEntries.length cp0_1] 30 (0, 0)) :: H, (100190, ⟨.slice A6 x4.length c7, 5, 1, x4.length, x4.flatMap (fun x : Int => [Value.int .u8 x])⟩) :: (100180, ⟨.slice (some ⟨g3, 0, none⟩) [p0.fTerm, p0.fVote, p0.fLog.fBase, p0.fLog.fBaseTerm, (p0.fVoters.length : Int)].length 5, 3, 1, [p0.fTerm, p0.fVote, p0.fLog.fBase, p0.fLog.fBaseTerm, (p0.fVoters.length : Int)].length, [p0.fTerm, p0.fVote, p0.fLog.fBase, p0.fLog.fBaseTerm, (p0.fVoters.length : Int)].flatMap (fun x : Int => [Value.int .i64 x])⟩) :: R, φ⟩ (fun _ h => h) ?_
 refine c_seq ?_
 refine c_cut (ι := (List Int) × Option Addr × Nat) [1, 3] (fun ⟨l120, A121, c122⟩ => [(3, .slice A121 l120.length c122)]) (fun ⟨l120, A121, c122⟩ => ⟨w0, M, (100010, g1, .cells #[.int .i64 p0.fTerm, .int .i64 p0.fVote, .slice Ap0_0 p0.fVoters.length cp0_0, .string p0.fSnap, .int .i64 p0.fLog.fBase, .int .i64 p0.fLog.fBaseTerm, .slice Ap0_1 p0.fLog.fEntries.length cp0_1] 30 (0, 0)) :: H, (100290, ⟨.slice A121 l120.length c122, 5, 1, l120.length, l120.flatMap (fun x : Int => [Value.int .u8 x])⟩) :: R, φ⟩) (fun ⟨l120, A121, c122⟩ => m_plog_anew_j1 p0 l120 = some r ∧ l120.length ≤ c122) ?_ (fun ⟨l120, A121, c122⟩ u ⟨hm, hc122⟩ => ?_)
 ·
  refine ga_start (n := 11) ⟨w0, M, (100010, g1, .cells #[.int .i64 p0.fTerm, .int .i64 p0.fVote, .slice Ap0_0 p0.fVoters.length cp0_0, .string p0.fSnap, .int .i64 p0.fLog.fBase, .int .i64 p0.fLog.fBaseTerm, .slice Ap0_1 p0.fLog.fEntries.length cp0_1] 30 (0, 0)) :: H, (100180, ⟨.slice (some ⟨g3, 0, none⟩) [p0.fTerm, p0.fVote, p0.fLog.fBase, p0.fLog.fBaseTerm, (p0.fVoters.length : Int)].length 5, 3, 1, [p0.fTerm, p0.fVote, p0.fLog.fBase, p0.fLog.fBaseTerm, (p0.fVoters.length : Int)].length, [p0.fTerm, p0.fVote, p0.fLog.fBase, p0.fLog.fBaseTerm, (p0.fVoters.length : Int)].flatMap (fun x : Int => [Value.int .i64 x])⟩) :: R, φ⟩ [] #[false, false, false, false, false, false, false, false, false, false, false] (fun W h => ((h.shut (t := 100190) rfl).phi (fun _ hh => hh.1)).phi (fun W hφ => hφ)) mixed rfl rfl ?_
  refine ga_v (i := 0) #[true, false, false, false, false, false, false, false, false, false, false] rfl (by kernel_rfl) (fun _ _ _ _ h => h) rfl (r_move) ?_
  refine ga_v (i := 1) #[true, true, false, false, false, false, false, false, false, false, false] rfl (by kernel_rfl) (fun _ _ _ _ h => h) rfl (r_field (n := 2) Try.underlying30 rfl Try.sizeOf25 rfl rfl) ?_
  refine ga_v (i := 2) #[true, true, true, false, false, false, false, false, false, false, false] rfl (by kernel_rfl) (fun _ _ _ _ h => h) rfl (r_load (tag := 100010) rfl rfl rfl Try.isAgg25) ?_
  refine ga_v (i := 5) #[true, true, true, false, false, true, false, false, false, false, false] rfl (by kernel_rfl) (fun _ _ _ _ h => h) rfl (r_field (n := 3) Try.underlying30 rfl Try.sizeOf9 rfl rfl) ?_
  refine ga_v (i := 6) #[true, true, true, false, false, true, true, false, false, false, false] rfl (by kernel_rfl) (fun _ _ _ _ h => h) rfl (r_load (tag := 100010) rfl rfl rfl Try.isAgg9) ?_
  refine ga_v (i := 7) #[true, true, true, false, false, true, true, true, false, false, false] rfl (by kernel_rfl) (fun _ _ _ _ h => h) rfl (r_len Try.underlying9 rfl) ?_
  replace hm := bnd hm
  obtain ⟨x245, hx246, hm⟩ := hm
  refine ga_two (i := 3) (j := 8) #[true, true, true, true, false, true, true, true, false, false, false] #[true, true, true, false, false, true, true, true, true, false, false] rfl rfl (by kernel_rfl) (by decide) (by decide) ?_ ?_
  ·
   refine ex_cn (first := #[]) ⟨w0, M, _, _, φ⟩ (fun _ h => h) Try.call15 rfl rfl rfl (c_plog_Data p0.fVoters Ap0_0 cp0_0 hcp0_0 (fun W hS => fp0_0 W (ok_pre (H1 := [_]) (R1 := [_, _]) hS (fun W h => h))) _ hx246) (fun _ W _ h => ((h.shut (t := 100190) rfl).phi (fun _ hh => hh.1)).phi (fun W hφ => hφ)) (fun _ _ => ?_)
   replace hm := bnd hm
   obtain ⟨l248, hl248, hm⟩ := hm
   refine ga_two (i := 4) (j := 8) #[true, true, true, true, true, true, true, true, false, false, false] #[true, true, true, true, false, true, true, true, true, false, false] rfl rfl (by kernel_rfl) (by decide) (by decide) ?_ ?_
   ·
    refine ex_e rfl (e_appRS (l := x4) (l2 := l248) (tag := 100190) Try.underlying56 Try.underlying9 inf5_7 rfl hc7 rfl rfl hl248) (fun ⟨A249, c250⟩ W hc250 h => ((h.shut (t := 100190) rfl).phi (fun _ hh => hh.1)).phi (fun W hφ => hφ)) (fun ⟨A249, c250⟩ hc250 => ?_)
    refine ga_e (i := 8) #[true, true, true, true, true, true, true, true, true, false, false] rfl (by kernel_rfl) (by decide) rfl  (e_lit (tag := 100280) (l := [(p0.fSnap.size : Int)]) (enc := (fun x : Int => [Value.int .i64 x])) (sz := 1) rfl Try.underlying25 (lit3_10 _) rfl rfl (fun _ => rfl)) (fun g251 W _ h => ((((h.shut (t := 100280) rfl).phi (fun _ hh => hh.1)).shut (t := 100190) rfl).phi (fun _ hh => hh.1)).phi (fun W hφ => hφ)) (fun g251 _ => ?_)
    replace hm := bnd hm
    obtain ⟨x252, hx253, hm⟩ := hm
    refine ga_cn (first := #[]) (i := 9) #[true, true, true, true, true, true, true, true, true, true, false] rfl (by kernel_rfl) (by decide)  ⟨w0, M, (100010, g1, .cells #[.int .i64 p0.fTerm, .int .i64 p0.fVote, .slice Ap0_0 p0.fVoters.length cp0_0, .string p0.fSnap, .int .i64 p0.fLog.fBase, .int .i64 p0.fLog.fBaseTerm, .slice Ap0_1 p0.fLog.fEntries.length cp0_1] 30 (0, 0)) :: H, (1000, ⟨.slice A249 l248.length c250, 5, 1, l248.length, l248.flatMap (fun x : Int => [Value.int .u8 x])⟩) :: (100280, ⟨.slice (some ⟨g251, 0, none⟩) [(p0.fSnap.size : Int)].length 1, 3, 1, [(p0.fSnap.size : Int)].length, [(p0.fSnap.size : Int)].flatMap (fun x : Int => [Value.int .i64 x])⟩) :: (100180, ⟨.slice (some ⟨g3, 0, none⟩) [p0.fTerm, p0.fVote, p0.fLog.fBase, p0.fLog.fBaseTerm, (p0.fVoters.length : Int)].length 5, 3, 1, [p0.fTerm, p0.fVote, p0.fLog.fBase, p0.fLog.fBaseTerm, (p0.fVoters.length : Int)].length, [p0.fTerm, p0.fVote, p0.fLog.fBase, p0.fLog.fBaseTerm, (p0.fVoters.length : Int)].flatMap (fun x : Int => [Value.int .i64 x])⟩) :: R, φ⟩ (fun W h => (ok_frontR (t := 100190) (t' := 1000) h rfl)) Try.call22 rfl rfl rfl (c_plog_numbers l248 A249 c250 hc250 [(p0.fSnap.size : Int)] (some ⟨g251, 0, none⟩) 1 (Nat.le_refl _) (fun W hS => rowCl (tag := 100280) rfl W hS) _ hx253) (fun ⟨A254, c255⟩ W hc255 h => (((((ok_frontR (t := 2000) (t' := 100290) h rfl).shut (t := 100290) rfl).phi (fun _ hh => hh.1)).shut (t := 100280) rfl).phi (fun _ hh => hh.1)).phi (fun W hφ => hφ)) (fun ⟨A254, c255⟩ hc255 => ?_)
    refine ga_sta _ (fun W h => (ok_frontR (t := 2000) (t' := 100290) h rfl)) ?_
    refine ga_r (i := 10) #[true, true, true, true, true, true, true, true, true, true, true] rfl (by kernel_rfl) (by decide) rfl (r_assign) ?_
    refine ga_done (by kernel_rfl) ?_
    exact d_round (x252, A254, c255) ⟨hm, hc255⟩ Nat.zero_lt_one ⟨rfl, rfl, trivial⟩ (fun W h => ((((h.shut (t := 100280) rfl).phi (fun _ hh => hh.1)).shut (t := 100180) rfl).phi (fun _ hh => hh.1)).phi (fun W hφ => hφ))
   ·
    refine ex_e rfl (e_lit (tag := 100280) (l := [(p0.fSnap.size : Int)]) (enc := (fun x : Int => [Value.int .i64 x])) (sz := 1) rfl Try.underlying25 (lit3_10 _) rfl rfl (fun _ => rfl)) (fun g257 W _ h => ((((h.shut (t := 100280) rfl).phi (fun _ hh => hh.1)).shut (t := 100190) rfl).phi (fun _ hh => hh.1)).phi (fun W hφ => hφ)) (fun g257 _ => ?_)
    refine ga_e (i := 4) #[true, true, true, true, true, true, true, true, true, false, false] rfl (by kernel_rfl) (by decide) rfl  (e_appRS (l := x4) (l2 := l248) (tag := 100190) Try.underlying56 Try.underlying9 inf5_7 rfl hc7 rfl rfl hl248) (fun ⟨A258, c259⟩ W hc259 h => ((((h.shut (t := 100280) rfl).phi (fun _ hh => hh.1)).shut (t := 100190) rfl).phi (fun _ hh => hh.1)).phi (fun W hφ => hφ)) (fun ⟨A258, c259⟩ hc259 => ?_)
    replace hm := bnd hm
    obtain ⟨x260, hx261, hm⟩ := hm
    refine ga_cn (first := #[]) (i := 9) #[true, true, true, true, true, true, true, true, true, true, false] rfl (by kernel_rfl) (by decide)  ⟨w0, M, (100010, g1, .cells #[.int .i64 p0.fTerm, .int .i64 p0.fVote, .slice Ap0_0 p0.fVoters.length cp0_0, .string p0.fSnap, .int .i64 p0.fLog.fBase, .int .i64 p0.fLog.fBaseTerm, .slice Ap0_1 p0.fLog.fEntries.length cp0_1] 30 (0, 0)) :: H, (1000, ⟨.slice A258 l248.length c259, 5, 1, l248.length, l248.flatMap (fun x : Int => [Value.int .u8 x])⟩) :: (100280, ⟨.slice (some ⟨g257, 0, none⟩) [(p0.fSnap.size : Int)].length 1, 3, 1, [(p0.fSnap.size : Int)].length, [(p0.fSnap.size : Int)].flatMap (fun x : Int => [Value.int .i64 x])⟩) :: (100180, ⟨.slice (some ⟨g3, 0, none⟩) [p0.fTerm, p0.fVote, p0.fLog.fBase, p0.fLog.fBaseTerm, (p0.fVoters.length : Int)].length 5, 3, 1, [p0.fTerm, p0.fVote, p0.fLog.fBase, p0.fLog.fBaseTerm, (p0.fVoters.length : Int)].length, [p0.fTerm, p0.fVote, p0.fLog.fBase, p0.fLog.fBaseTerm, (p0.fVoters.length : Int)].flatMap (fun x : Int => [Value.int .i64 x])⟩) :: R, φ⟩ (fun W h => (ok_frontR (t := 100190) (t' := 1000) h rfl)) Try.call22 rfl rfl rfl (c_plog_numbers l248 A258 c259 hc259 [(p0.fSnap.size : Int)] (some ⟨g257, 0, none⟩) 1 (Nat.le_refl _) (fun W hS => rowCl (tag := 100280) rfl W hS) _ hx261) (fun ⟨A262, c263⟩ W hc263 h => (((((ok_frontR (t := 2000) (t' := 100290) h rfl).shut (t := 100290) rfl).phi (fun _ hh => hh.1)).shut (t := 100280) rfl).phi (fun _ hh => hh.1)).phi (fun W hφ => hφ)) (fun ⟨A262, c263⟩ hc263 => ?_)
    refine ga_sta _ (fun W h => (ok_frontR (t := 2000) (t' := 100290) h rfl)) ?_
    refine ga_r (i := 10) #[true, true, true, true, true, true, true, true, true, true, true] rfl (by kernel_rfl) (by decide) rfl (r_assign) ?_
    refine ga_done (by kernel_rfl) ?_
    exact d_round (x260, A262, c263) ⟨hm, hc263⟩ Nat.zero_lt_one ⟨rfl, rfl, trivial⟩ (fun W h => ((((h.shut (t := 100280) rfl).phi (fun _ hh => hh.1)).shut (t := 100180) rfl).phi (fun _ hh => hh.1)).phi (fun W hφ => hφ))
  ·
   refine ex_e rfl (e_lit (tag := 100280) (l := [(p0.fSnap.size : Int)]) (enc := (fun x : Int => [Value.int .i64 x])) (sz := 1) rfl Try.underlying25 (lit3_10 _) rfl rfl (fun _ => rfl)) (fun g265 W _ h => ((((h.shut (t := 100280) rfl).phi (fun _ hh => hh.1)).shut (t := 100190) rfl).phi (fun _ hh => hh.1)).phi (fun W hφ => hφ)) (fun g265 _ => ?_)
   refine ga_cn (first := #[]) (i := 3) #[true, true, true, true, false, true, true, true, true, false, false] rfl (by kernel_rfl) (by decide)  ⟨w0, M, _, _, φ⟩ (fun _ h => h) Try.call15 rfl rfl rfl (c_plog_Data p0.fVoters Ap0_0 cp0_0 hcp0_0 (fun W hS => fp0_0 W (ok_pre (H1 := [_]) (R1 := [_, _, _]) hS (fun W h => h))) _ hx246) (fun _ W _ h => ((((h.shut (t := 100280) rfl).phi (fun _ hh => hh.1)).shut (t := 100190) rfl).phi (fun _ hh => hh.1)).phi (fun W hφ => hφ)) (fun _ _ => ?_)
   replace hm := bnd hm
   obtain ⟨l266, hl266, hm⟩ := hm
   refine ga_e (i := 4) #[true, true, true, true, true, true, true, true, true, false, false] rfl (by kernel_rfl) (by decide) rfl  (e_appRS (l := x4) (l2 := l266) (tag := 100190) Try.underlying56 Try.underlying9 inf5_7 rfl hc7 rfl rfl hl266) (fun ⟨A267, c268⟩ W hc268 h => ((((h.shut (t := 100280) rfl).phi (fun _ hh => hh.1)).shut (t := 100190) rfl).phi (fun _ hh => hh.1)).phi (fun W hφ => hφ)) (fun ⟨A267, c268⟩ hc268 => ?_)
   replace hm := bnd hm
   obtain ⟨x269, hx270, hm⟩ := hm
   refine ga_cn (first := #[]) (i := 9) #[true, true, true, true, true, true, true, true, true, true, false] rfl (by kernel_rfl) (by decide)  ⟨w0, M, (100010, g1, .cells #[.int .i64 p0.fTerm, .int .i64 p0.fVote, .slice Ap0_0 p0.fVoters.length cp0_0, .string p0.fSnap, .int .i64 p0.fLog.fBase, .int .i64 p0.fLog.fBaseTerm, .slice Ap0_1 p0.fLog.fEntries.length cp0_1] 30 (0, 0)) :: H, (1000, ⟨.slice A267 l266.length c268, 5, 1, l266.length, l266.flatMap (fun x : Int => [Value.int .u8 x])⟩) :: (100280, ⟨.slice (some ⟨g265, 0, none⟩) [(p0.fSnap.size : Int)].length 1, 3, 1, [(p0.fSnap.size : Int)].length, [(p0.fSnap.size : Int)].flatMap (fun x : Int => [Value.int .i64 x])⟩) :: (100180, ⟨.slice (some ⟨g3, 0, none⟩) [p0.fTerm, p0.fVote, p0.fLog.fBase, p0.fLog.fBaseTerm, (p0.fVoters.length : Int)].length 5, 3, 1, [p0.fTerm, p0.fVote, p0.fLog.fBase, p0.fLog.fBaseTerm, (p0.fVoters.length : Int)].length, [p0.fTerm, p0.fVote, p0.fLog.fBase, p0.fLog.fBaseTerm, (p0.fVoters.length : Int)].flatMap (fun x : Int => [Value.int .i64 x])⟩) :: R, φ⟩ (fun W h => (ok_frontR (t := 100190) (t' := 1000) h rfl)) Try.call22 rfl rfl rfl (c_plog_numbers l266 A267 c268 hc268 [(p0.fSnap.size : Int)] (some ⟨g265, 0, none⟩) 1 (Nat.le_refl _) (fun W hS => rowCl (tag := 100280) rfl W hS) _ hx270) (fun ⟨A271, c272⟩ W hc272 h => (((((ok_frontR (t := 2000) (t' := 100290) h rfl).shut (t := 100290) rfl).phi (fun _ hh => hh.1)).shut (t := 100280) rfl).phi (fun _ hh => hh.1)).phi (fun W hφ => hφ)) (fun ⟨A271, c272⟩ hc272 => ?_)
   refine ga_sta _ (fun W h => (ok_frontR (t := 2000) (t' := 100290) h rfl)) ?_
   refine ga_r (i := 10) #[true, true, true, true, true, true, true, true, true, true, true] rfl (by kernel_rfl) (by decide) rfl (r_assign) ?_
   refine ga_done (by kernel_rfl) ?_
   exact d_round (x269, A271, c272) ⟨hm, hc272⟩ Nat.zero_lt_one ⟨rfl, rfl, trivial⟩ (fun W h => ((((h.shut (t := 100280) rfl).phi (fun _ hh => hh.1)).shut (t := 100180) rfl).phi (fun _ hh => hh.1)).phi (fun W hφ => hφ))
 ·
  unfold m_plog_anew_j1 at hm
  refine d_flat [(1, .pointer (some ⟨g1, 0, none⟩)), (3, .slice A121 l120.length c122)] ⟨rfl, rfl, trivial⟩ (fun u => ?_)
  refine d_sta ⟨w0, M, (100010, g1, .cells #[.int .i64 p0.fTerm, .int .i64 p0.fVote, .slice Ap0_0 p0.fVoters.length cp0_0, .string p0.fSnap, .int .i64 p0.fLog.fBase, .int .i64 p0.fLog.fBaseTerm, .slice Ap0_1 p0.fLog.fEntries.length cp0_1] 30 (0, 0)) :: H, (100290, ⟨.slice A121 l120.length c122, 5, 1, l120.length, l120.flatMap (fun x : Int => [Value.int .u8 x])⟩) :: R, φ⟩ (fun _ h => h) ?_
  refine d_then ?_
  refine c_seq ?_
  refine ga_start (n := 11) ⟨w0, M, (100010, g1, .cells #[.int .i64 p0.fTerm, .int .i64 p0.fVote, .slice Ap0_0 p0.fVoters.length cp0_0, .string p0.fSnap, .int .i64 p0.fLog.fBase, .int .i64 p0.fLog.fBaseTerm, .slice Ap0_1 p0.fLog.fEntries.length cp0_1] 30 (0, 0)) :: H, R, φ⟩ [] #[false, false, false, false, false, false, false, false, false, false, false] (fun W h => ((h.shut (t := 100290) rfl).phi (fun _ hh => hh.1)).phi (fun W hφ => hφ)) mixed rfl rfl ?_
  refine ga_v (i := 0) #[true, false, false, false, false, false, false, false, false, false, false] rfl (by kernel_rfl) (fun _ _ _ _ h => h) rfl (r_move) ?_
  refine ga_v (i := 1) #[true, true, false, false, false, false, false, false, false, false, false] rfl (by kernel_rfl) (fun _ _ _ _ h => h) rfl (r_field (n := 3) Try.underlying30 rfl Try.sizeOf9 rfl rfl) ?_
  refine ga_v (i := 2) #[true, true, true, false, false, false, false, false, false, false, false] rfl (by kernel_rfl) (fun _ _ _ _ h => h) rfl (r_load (tag := 100010) rfl rfl rfl Try.isAgg9) ?_
  refine ga_v (i := 6) #[true, true, true, false, false, false, true, false, false, false, false] rfl (by kernel_rfl) (fun _ _ _ _ h => h) rfl (r_field (n := 4) Try.underlying30 rfl Try.sizeOf28 rfl rfl) ?_
  refine ga_v (i := 7) #[true, true, true, false, false, false, true, true, false, false, false] rfl (by kernel_rfl) (fun _ _ _ _ h => h) rfl (r_loadA (tag := 100010) rfl rfl Try.isAgg28 Try.sizeOf28 rfl rfl) ?_
  replace hm := bnd hm
  obtain ⟨l177, hl177, hm⟩ := hm
  refine ga_e (i := 3) #[true, true, true, true, false, false, true, true, false, false, false] rfl (by kernel_rfl) (by decide) rfl  (e_appRS (l := l120) (l2 := l177) (tag := 100290) Try.underlying56 Try.underlying9 inf5_7 rfl hc122 rfl rfl hl177) (fun ⟨A178, c179⟩ W hc179 h => ((h.shut (t := 100290) rfl).phi (fun _ hh => hh.1)).phi (fun W hφ => hφ)) (fun ⟨A178, c179⟩ hc179 => ?_)
  replace hm := bnd hm
  obtain ⟨x180, hx181, hm⟩ := hm
  refine ga_two (i := 4) (j := 8) #[true, true, true, true, true, false, true, true, false, false, false] #[true, true, true, true, false, false, true, true, true, false, false] rfl rfl (by kernel_rfl) (by decide) (by decide) ?_ ?_
  ·
   refine ex_r rfl (r_textE Try.underlying56 Try.underlying5 Try.underlying9 rfl (fun W hS => rowCl (tag := 100290) rfl W hS)) ?_
   refine ga_two (i := 5) (j := 8) #[true, true, true, true, true, true, true, true, false, false, false] #[true, true, true, true, true, false, true, true, true, false, false] rfl rfl (by kernel_rfl) (by decide) (by decide) ?_ ?_
   ·
    refine ex_e rfl (e_lit (tag := 100350) (l := [strOfNums l177]) (enc := (fun x : ByteArray => [Value.string x])) (sz := 1) rfl Try.underlying24 (lit9_15 _) rfl rfl (fun _ => rfl)) (fun g183 W _ h => ((((h.shut (t := 100350) rfl).phi (fun _ hh => hh.1)).shut (t := 100290) rfl).phi (fun _ hh => hh.1)).phi (fun W hφ => hφ)) (fun g183 _ => ?_)
    refine ga_cn (first := #[]) (i := 8) #[true, true, true, true, true, true, true, true, true, false, false] rfl (by kernel_rfl) (by decide)  ⟨w0, M, _, _, φ⟩ (fun _ h => h) Try.call23 rfl rfl rfl (c_plog_entries p0.fLog Ap0_1 cp0_1 hcp0_1 (fun W hS => fp0_1 W (ok_pre (H1 := [_]) (R1 := [_, _]) hS (fun W h => h))) 0 _ hx181) (fun ⟨A184, c185⟩ W hc185 h => (((((((ok_frontR (t := 2000) (t' := 100380) h rfl).shut (t := 100380) rfl).phi (fun _ hh => hh.1)).shut (t := 100350) rfl).phi (fun _ hh => hh.1)).shut (t := 100290) rfl).phi (fun _ hh => hh.1)).phi (fun W hφ => hφ)) (fun ⟨A184, c185⟩ hc185 => ?_)
    refine ga_sta _ (fun W h => (ok_frontR (t := 2000) (t' := 100380) h rfl)) ?_
    replace hm := bnd hm
    obtain ⟨l187, hl187, hm⟩ := hm
    refine ga_e (i := 9) #[true, true, true, true, true, true, true, true, true, true, false] rfl (by kernel_rfl) (by decide) rfl  (e_appR (enc := (fun x : ByteArray => [Value.string x])) (l := [strOfNums l177]) (l1 := x180) (l2 := l187) (tag := 100350) Try.underlying24 inf9_16 rfl (by decide) (by decide) (fun _ => rfl) (fun _ => rfl) rfl (Nat.le_refl _) rfl rfl (fun W hS => rowCl (tag := 100380) rfl W hS) hl187) (fun ⟨A188, c189⟩ W hc189 h => ((((((h.shut (t := 100380) rfl).phi (fun _ hh => hh.1)).shut (t := 100350) rfl).phi (fun _ hh => hh.1)).shut (t := 100290) rfl).phi (fun _ hh => hh.1)).phi (fun W hφ => hφ)) (fun ⟨A188, c189⟩ hc189 => ?_)
    refine ga_r (i := 10) #[true, true, true, true, true, true, true, true, true, true, true] rfl (by kernel_rfl) (by decide) rfl (r_assign) ?_
    refine ga_done (by kernel_rfl) ?_
    refine d_then ?_
    refine c_flat [(2, .slice A188 l187.length c189)] ⟨rfl, trivial⟩ (fun u => ?_)
    refine c_sta ⟨w0, M, (100010, g1, .cells #[.int .i64 p0.fTerm, .int .i64 p0.fVote, .slice Ap0_0 p0.fVoters.length cp0_0, .string p0.fSnap, .int .i64 p0.fLog.fBase, .int .i64 p0.fLog.fBaseTerm, .slice Ap0_1 p0.fLog.fEntries.length cp0_1] 30 (0, 0)) :: H, (100380, ⟨.slice A184 x180.length c185, 9, 1, x180.length, x180.flatMap (fun x : ByteArray => [Value.string x])⟩) :: (100350, ⟨.slice A188 l187.length c189, 9, 1, l187.length, l187.flatMap (fun x : ByteArray => [Value.string x])⟩) :: (100290, ⟨.slice A178 l177.length c179, 5, 1, l177.length, l177.flatMap (fun x : Int => [Value.int .u8 x])⟩) :: R, φ⟩ (fun _ h => h) ?_
    refine c_ret ?_
    replace hm := Option.some.inj hm
    subst hm
    refine d_sta _ (fun W h => ok_frontR (t := 100350) (t' := 2000) h rfl) ?_
    refine d_retC (A188, c189) Try.results20 ?_ hc189 (fun W h => (((((h.shut (t := 100380) rfl).phi (fun _ hh => hh.1)).shut (t := 100290) rfl).phi (fun _ hh => hh.1)).dropH (t := 100010) rfl).phi (fun W hφ => hφ)) (.inr rfl)
    refine res_tmp ?_
    refine res_nil ?_
    exact rfl
   ·
    refine ex_cn (first := #[]) ⟨w0, M, _, _, φ⟩ (fun _ h => h) Try.call23 rfl rfl rfl (c_plog_entries p0.fLog Ap0_1 cp0_1 hcp0_1 (fun W hS => fp0_1 W (ok_pre (H1 := [_]) (R1 := [_]) hS (fun W h => h))) 0 _ hx181) (fun ⟨A190, c191⟩ W hc191 h => (((((ok_frontR (t := 2000) (t' := 100380) h rfl).shut (t := 100380) rfl).phi (fun _ hh => hh.1)).shut (t := 100290) rfl).phi (fun _ hh => hh.1)).phi (fun W hφ => hφ)) (fun ⟨A190, c191⟩ hc191 => ?_)
    refine ga_sta _ (fun W h => (ok_frontR (t := 2000) (t' := 100380) h rfl)) ?_
    refine ga_e (i := 5) #[true, true, true, true, true, true, true, true, true, false, false] rfl (by kernel_rfl) (by decide) rfl  (e_lit (tag := 100350) (l := [strOfNums l177]) (enc := (fun x : ByteArray => [Value.string x])) (sz := 1) rfl Try.underlying24 (lit9_15 _) rfl rfl (fun _ => rfl)) (fun g193 W _ h => ((((((h.shut (t := 100350) rfl).phi (fun _ hh => hh.1)).shut (t := 100380) rfl).phi (fun _ hh => hh.1)).shut (t := 100290) rfl).phi (fun _ hh => hh.1)).phi (fun W hφ => hφ)) (fun g193 _ => ?_)
    replace hm := bnd hm
    obtain ⟨l194, hl194, hm⟩ := hm
    refine ga_e (i := 9) #[true, true, true, true, true, true, true, true, true, true, false] rfl (by kernel_rfl) (by decide) rfl  (e_appR (enc := (fun x : ByteArray => [Value.string x])) (l := [strOfNums l177]) (l1 := x180) (l2 := l194) (tag := 100350) Try.underlying24 inf9_16 rfl (by decide) (by decide) (fun _ => rfl) (fun _ => rfl) rfl (Nat.le_refl _) rfl rfl (fun W hS => rowCl (tag := 100380) rfl W hS) hl194) (fun ⟨A195, c196⟩ W hc196 h => ((((((h.shut (t := 100350) rfl).phi (fun _ hh => hh.1)).shut (t := 100380) rfl).phi (fun _ hh => hh.1)).shut (t := 100290) rfl).phi (fun _ hh => hh.1)).phi (fun W hφ => hφ)) (fun ⟨A195, c196⟩ hc196 => ?_)
    refine ga_r (i := 10) #[true, true, true, true, true, true, true, true, true, true, true] rfl (by kernel_rfl) (by decide) rfl (r_assign) ?_
    refine ga_done (by kernel_rfl) ?_
    refine d_then ?_
    refine c_flat [(2, .slice A195 l194.length c196)] ⟨rfl, trivial⟩ (fun u => ?_)
    refine c_sta ⟨w0, M, (100010, g1, .cells #[.int .i64 p0.fTerm, .int .i64 p0.fVote, .slice Ap0_0 p0.fVoters.length cp0_0, .string p0.fSnap, .int .i64 p0.fLog.fBase, .int .i64 p0.fLog.fBaseTerm, .slice Ap0_1 p0.fLog.fEntries.length cp0_1] 30 (0, 0)) :: H, (100350, ⟨.slice A195 l194.length c196, 9, 1, l194.length, l194.flatMap (fun x : ByteArray => [Value.string x])⟩) :: (100380, ⟨.slice A190 x180.length c191, 9, 1, x180.length, x180.flatMap (fun x : ByteArray => [Value.string x])⟩) :: (100290, ⟨.slice A178 l177.length c179, 5, 1, l177.length, l177.flatMap (fun x : Int => [Value.int .u8 x])⟩) :: R, φ⟩ (fun _ h => h) ?_
    refine c_ret ?_
    replace hm := Option.some.inj hm
    subst hm
    refine d_sta _ (fun W h => ok_frontR (t := 100350) (t' := 2000) h rfl) ?_
    refine d_retC (A195, c196) Try.results20 ?_ hc196 (fun W h => (((((h.shut (t := 100380) rfl).phi (fun _ hh => hh.1)).shut (t := 100290) rfl).phi (fun _ hh => hh.1)).dropH (t := 100010) rfl).phi (fun W hφ => hφ)) (.inr rfl)
    refine res_tmp ?_
    refine res_nil ?_
    exact rfl
  ·
   refine ex_cn (first := #[]) ⟨w0, M, _, _, φ⟩ (fun _ h => h) Try.call23 rfl rfl rfl (c_plog_entries p0.fLog Ap0_1 cp0_1 hcp0_1 (fun W hS => fp0_1 W (ok_pre (H1 := [_]) (R1 := [_]) hS (fun W h => h))) 0 _ hx181) (fun ⟨A197, c198⟩ W hc198 h => (((((ok_frontR (t := 2000) (t' := 100380) h rfl).shut (t := 100380) rfl).phi (fun _ hh => hh.1)).shut (t := 100290) rfl).phi (fun _ hh => hh.1)).phi (fun W hφ => hφ)) (fun ⟨A197, c198⟩ hc198 => ?_)
   refine ga_sta _ (fun W h => (ok_frontR (t := 2000) (t' := 100380) h rfl)) ?_
   refine ga_r (i := 4) #[true, true, true, true, true, false, true, true, true, false, false] rfl (by kernel_rfl) (by decide) rfl (r_textE Try.underlying56 Try.underlying5 Try.underlying9 rfl (fun W hS => rowCl (tag := 100290) rfl W hS)) ?_
   refine ga_e (i := 5) #[true, true, true, true, true, true, true, true, true, false, false] rfl (by kernel_rfl) (by decide) rfl  (e_lit (tag := 100350) (l := [strOfNums l177]) (enc := (fun x : ByteArray => [Value.string x])) (sz := 1) rfl Try.underlying24 (lit9_15 _) rfl rfl (fun _ => rfl)) (fun g200 W _ h => ((((((h.shut (t := 100350) rfl).phi (fun _ hh => hh.1)).shut (t := 100380) rfl).phi (fun _ hh => hh.1)).shut (t := 100290) rfl).phi (fun _ hh => hh.1)).phi (fun W hφ => hφ)) (fun g200 _ => ?_)
   replace hm := bnd hm
   obtain ⟨l201, hl201, hm⟩ := hm
   refine ga_e (i := 9) #[true, true, true, true, true, true, true, true, true, true, false] rfl (by kernel_rfl) (by decide) rfl  (e_appR (enc := (fun x : ByteArray => [Value.string x])) (l := [strOfNums l177]) (l1 := x180) (l2 := l201) (tag := 100350) Try.underlying24 inf9_16 rfl (by decide) (by decide) (fun _ => rfl) (fun _ => rfl) rfl (Nat.le_refl _) rfl rfl (fun W hS => rowCl (tag := 100380) rfl W hS) hl201) (fun ⟨A202, c203⟩ W hc203 h => ((((((h.shut (t := 100350) rfl).phi (fun _ hh => hh.1)).shut (t := 100380) rfl).phi (fun _ hh => hh.1)).shut (t := 100290) rfl).phi (fun _ hh => hh.1)).phi (fun W hφ => hφ)) (fun ⟨A202, c203⟩ hc203 => ?_)
   refine ga_r (i := 10) #[true, true, true, true, true, true, true, true, true, true, true] rfl (by kernel_rfl) (by decide) rfl (r_assign) ?_
   refine ga_done (by kernel_rfl) ?_
   refine d_then ?_
   refine c_flat [(2, .slice A202 l201.length c203)] ⟨rfl, trivial⟩ (fun u => ?_)
   refine c_sta ⟨w0, M, (100010, g1, .cells #[.int .i64 p0.fTerm, .int .i64 p0.fVote, .slice Ap0_0 p0.fVoters.length cp0_0, .string p0.fSnap, .int .i64 p0.fLog.fBase, .int .i64 p0.fLog.fBaseTerm, .slice Ap0_1 p0.fLog.fEntries.length cp0_1] 30 (0, 0)) :: H, (100350, ⟨.slice A202 l201.length c203, 9, 1, l201.length, l201.flatMap (fun x : ByteArray => [Value.string x])⟩) :: (100380, ⟨.slice A197 x180.length c198, 9, 1, x180.length, x180.flatMap (fun x : ByteArray => [Value.string x])⟩) :: (100290, ⟨.slice A178 l177.length c179, 5, 1, l177.length, l177.flatMap (fun x : Int => [Value.int .u8 x])⟩) :: R, φ⟩ (fun _ h => h) ?_
   refine c_ret ?_
   replace hm := Option.some.inj hm
   subst hm
   refine d_sta _ (fun W h => ok_frontR (t := 100350) (t' := 2000) h rfl) ?_
   refine d_retC (A202, c203) Try.results20 ?_ hc203 (fun W h => (((((h.shut (t := 100380) rfl).phi (fun _ hh => hh.1)).shut (t := 100290) rfl).phi (fun _ hh => hh.1)).dropH (t := 100010) rfl).phi (fun W hφ => hφ)) (.inr rfl)
   refine res_tmp ?_
   refine res_nil ?_
   exact rfl

noncomputable def m_slices_Equal_21_j1  : Option Bool :=
  some true
noncomputable def m_slices_Equal_21_s2 (p0 : List Int) (p1 : List Int) (i85 : Int) : Option (Int ⊕ (Unit ⊕ Bool)) :=
  if i85 < (p0.length : Int) then
    (at_ p0 i85).bind fun x131 =>
    (at_ p1 i85).bind fun x135 =>
    if x131 ≠ x135 then
      some (.inr (.inr false))
    else
      some (.inl (w64 (i85 + 1)))
  else
    some (.inr (.inl ()))
noncomputable def m_slices_Equal_21 (p0 : List Int) (p1 : List Int) : Option Bool :=
  if (p0.length : Int) ≠ (p1.length : Int) then
    some false
  else
    (loop (fun s => m_slices_Equal_21_s2 p0 p1 s) 0).bind fun e => Sum.elim (fun e => m_slices_Equal_21_j1) (fun x => some x) e
theorem c_slices_Equal_21 {w0 : World} {M : Nat → Prop} {H : List (Nat × Nat × Obj)} {R : List (Nat × Row)} {φ : World → Prop} (p0 : List Int) (Ap0_0 : Option Addr) (cp0_0 : Nat) (hcp0_0 : p0.length ≤ cp0_0) (fp0_0 : ∀ W, (Sta.mk w0 M H R φ).ok W → Cl W Ap0_0 (p0.flatMap (fun x : Int => [Value.int .i64 x]))) (p1 : List Int) (Ap1_0 : Option Addr) (cp1_0 : Nat) (hcp1_0 : p1.length ≤ cp1_0) (fp1_0 : ∀ W, (Sta.mk w0 M H R φ).ok W → Cl W Ap1_0 (p1.flatMap (fun x : Int => [Value.int .i64 x]))) (r : Bool) (hm : m_slices_Equal_21 p0 p1 = some r) :
    Cn Try.prog 21 #[.slice Ap0_0 p0.length cp0_0, .slice Ap1_0 p1.length cp1_0] ⟨w0, M, H, R, φ⟩ (fun x : Unit => .bool r) (fun x => True) (fun x => ⟨w0, M, H, R, φ⟩) := by
 unfold m_slices_Equal_21 at hm
 refine cn_intro (fn := Try.f21) (N := 26) Try.func21 rfl Try.ntmps21 rfl ?_
 refine c_seq ?_
 refine c_region ?_
 refine g_v rfl r_assign ?_
 refine g_nil ?_
 refine d_then ?_
 refine c_seq ?_
 refine c_seq ?_
 refine c_region ?_
 refine g_v rfl r_move ?_
 refine g_v rfl (r_lenL Try.underlying25 rfl) ?_
 refine g_v rfl r_move ?_
 refine g_v rfl (r_lenL Try.underlying25 rfl) ?_
 refine g_v rfl (r_neq rfl rfl) ?_
 refine g_nil ?_
 refine d_then ?_
 refine c_cond rfl (fun h1 => ?_) (fun h1 => ?_)
 ·
  replace hm := ite_t hm (of_decide_eq_true h1)
  refine c_seq ?_
  refine c_region ?_
  refine g_v rfl r_assign ?_
  refine g_nil ?_
  refine d_then ?_
  refine c_ret ?_
  refine d_ret_then ?_
  replace hm := Option.some.inj hm
  subst hm
  refine d_retC () Try.results21 ?_ trivial (fun W h => ok_pre (H1 := []) (R1 := []) h (fun W hφ => hφ)) (.inr rfl)
  refine res_tmp ?_
  refine res_nil ?_
  exact rfl
 ·
  replace hm := ite_f hm (of_decide_eq_false h1)
  refine c_skip ?_
  refine d_then ?_
  refine c_seq ?_
  refine c_seq ?_
  refine c_region ?_
  refine g_v rfl r_move ?_
  refine g_v rfl (r_lenL Try.underlying25 rfl) ?_
  refine g_v rfl r_move ?_
  refine g_nil ?_
  refine d_then ?_
  refine c_flat [(0, .slice Ap0_0 p0.length cp0_0), (1, .slice Ap1_0 p1.length cp1_0), (12, .int .i64 (p0.length : Int)), (13, .int .i64 0)] ⟨rfl, rfl, rfl, rfl, trivial⟩ (fun u => ?_)
  refine c_sta ⟨w0, M, H, R, φ⟩ (fun _ h => h) ?_
  refine c_cut (ι := Unit) [] (fun _ => []) (fun _ => ⟨w0, M, H, R, φ⟩) (fun _ => m_slices_Equal_21_j1 = some r) ?_ (fun _ u hm => ?_)
  ·
   refine c_block ?_
   replace hm := bnd hm
   obtain ⟨out2, hl2, hr2⟩ := hm
   obtain ⟨n113', hl2⟩ := loop_lp hl2
   refine c_loopU (ι := Nat × Int) [0, 1, 12, 13] (fun ⟨n113, i85⟩ => [(13, .int .i64 i85)]) (fun ⟨n113, i85⟩ => ⟨w0, M, H, R, φ⟩) (fun ⟨n113, i85⟩ => Lp (fun s => m_slices_Equal_21_s2 p0 p1 s) n113 i85 out2) (fun ⟨n113, i85⟩ => n113) (n113', 0) hl2 ⟨rfl, rfl, rfl, rfl, trivial⟩ (fun W h => h.phi (fun W hφ => hφ)) (fun ⟨n113, i85⟩ u hlp => ?_)
   obtain ⟨o2, hm, hnx2⟩ := lp_step hlp
   clear hlp
   replace hm : m_slices_Equal_21_s2 p0 p1 i85 = some o2 := hm
   unfold m_slices_Equal_21_s2 at hm
   refine c_flat [(0, .slice Ap0_0 p0.length cp0_0), (1, .slice Ap1_0 p1.length cp1_0), (12, .int .i64 (p0.length : Int)), (13, .int .i64 i85)] ⟨rfl, rfl, rfl, rfl, trivial⟩ (fun u => ?_)
   refine c_sta ⟨w0, M, H, R, φ⟩ (fun _ h => h) ?_
   refine c_seq ?_
   refine c_region ?_
   refine g_v rfl (r_lss rfl rfl) ?_
   refine g_nil ?_
   refine d_then ?_
   refine c_seq ?_
   refine c_cond rfl (fun h114 => ?_) (fun h114 => ?_)
   ·
    replace hm := ite_t hm (of_decide_eq_true h114)
    refine c_skip ?_
    refine d_then ?_
    refine c_seq ?_
    refine c_block ?_
    refine c_seq ?_
    refine c_region ?_
    refine g_v rfl r_move ?_
    refine g_v rfl r_assign ?_
    refine g_nil ?_
    refine d_then ?_
    refine c_seq ?_
    refine ga_start (n := 9) ⟨w0, M, H, R, φ⟩ [] #[false, false, false, false, false, false, false, false, false] (fun W h => h.phi (fun W hφ => hφ)) mixed rfl rfl ?_
    refine ga_v (i := 0) #[true, false, false, false, false, false, false, false, false] rfl (by kernel_rfl) (fun _ _ _ _ h => h) rfl (r_move) ?_
    refine ga_v (i := 1) #[true, true, false, false, false, false, false, false, false] rfl (by kernel_rfl) (fun _ _ _ _ h => h) rfl (r_move) ?_
    replace hm := bnd hm
    obtain ⟨x131, hx131, hm⟩ := hm
    refine ga_know _ (fun W hS => cl_at (p := (Sta.mk w0 M H R φ).ok) (sz := 1) (fun _ => rfl) (by decide) (ok_pre (H1 := []) (R1 := []) hS (fun W h => h)) fp0_0 hx131) ?_
    rintro ⟨ad132, hA134, f133⟩
    refine ga_v (i := 2) #[true, true, true, false, false, false, false, false, false] rfl (by kernel_rfl) (fun _ _ _ _ h => h) rfl (r_ix Try.underlying25 Try.sizeOf3 rfl hA134 rfl hx131) ?_
    refine ga_v (i := 3) #[true, true, true, true, false, false, false, false, false] rfl (by kernel_rfl) (fun _ _ _ _ h => h) rfl (r_ld rfl Try.isAgg3 (fun W hS => Cl.head (f133 W (ok_pre (H1 := []) (R1 := []) hS (fun W h => h))))) ?_
    refine ga_v (i := 4) #[true, true, true, true, true, false, false, false, false] rfl (by kernel_rfl) (fun _ _ _ _ h => h) rfl (r_move) ?_
    refine ga_r (i := 5) #[true, true, true, true, true, true, false, false, false] rfl (by kernel_rfl) (by decide) rfl (r_move) ?_
    replace hm := bnd hm
    obtain ⟨x135, hx135, hm⟩ := hm
    refine ga_know _ (fun W hS => cl_at (p := (Sta.mk w0 M H R φ).ok) (sz := 1) (fun _ => rfl) (by decide) (ok_pre (H1 := []) (R1 := []) hS (fun W h => h)) fp1_0 hx135) ?_
    rintro ⟨ad136, hA138, f137⟩
    refine ga_r (i := 6) #[true, true, true, true, true, true, true, false, false] rfl (by kernel_rfl) (by decide) rfl (r_ix Try.underlying25 Try.sizeOf3 rfl hA138 rfl hx135) ?_
    refine ga_r (i := 7) #[true, true, true, true, true, true, true, true, false] rfl (by kernel_rfl) (by decide) rfl (r_ld rfl Try.isAgg3 (fun W hS => Cl.head (f137 W (ok_pre (H1 := []) (R1 := []) hS (fun W h => h))))) ?_
    refine ga_r (i := 8) #[true, true, true, true, true, true, true, true, true] rfl (by kernel_rfl) (by decide) rfl (r_neq rfl rfl) ?_
    refine ga_done (by kernel_rfl) ?_
    refine d_then ?_
    refine c_flat [(0, .slice Ap0_0 p0.length cp0_0), (1, .slice Ap1_0 p1.length cp1_0), (12, .int .i64 (p0.length : Int)), (13, .int .i64 i85), (24, .bool (decide (x131 ≠ x135)))] ⟨rfl, rfl, rfl, rfl, rfl, trivial⟩ (fun u => ?_)
    refine c_sta ⟨w0, M, H, R, φ⟩ (fun _ h => h) ?_
    refine c_cond rfl (fun h139 => ?_) (fun h139 => ?_)
    ·
     replace hm := ite_t hm (of_decide_eq_true h139)
     refine c_seq ?_
     refine c_region ?_
     refine g_v rfl r_assign ?_
     refine g_nil ?_
     refine d_then ?_
     refine c_ret ?_
     refine d_ret_block ?_
     refine d_ret_then ?_
     refine d_ret_then ?_
     refine d_ret_block ?_
     refine d_ret_then ?_
     refine d_ret_then ?_
     replace hm := nx_out (C := (fun e => Sum.elim (fun e => m_slices_Equal_21_j1) (fun x => some x) e = some r)) hm hnx2 hr2
     replace hm : some false = some r := hm
     replace hm := Option.some.inj hm
     subst hm
     refine d_retC () Try.results21 ?_ trivial (fun W h => ok_pre (H1 := []) (R1 := []) h (fun W hφ => hφ)) (.inr rfl)
     refine res_tmp ?_
     refine res_nil ?_
     exact rfl
    ·
     replace hm := ite_f hm (of_decide_eq_false h139)
     refine c_skip ?_
     refine d_normal_block ?_
     refine d_then ?_
     refine c_region ?_
     refine g_v rfl (r_add rfl rfl rfl) ?_
     refine g_v rfl r_move ?_
     refine g_nil ?_
     obtain ⟨n140, hn140, hlp⟩ := nx_inl hm hnx2
     exact d_round (n140, w64 (i85 + 1)) hlp hn140 ⟨rfl, rfl, rfl, rfl, trivial⟩ (fun W h => h.phi (fun W hφ => hφ))
   ·
    replace hm := ite_f hm (of_decide_eq_false h114)
    refine c_exit ?_
    refine d_exit_then ?_
    refine d_exit_then ?_
    refine d_exit_block ?_
    replace hm := nx_out (C := (fun e => Sum.elim (fun e => m_slices_Equal_21_j1) (fun x => some x) e = some r)) hm hnx2 hr2
    exact d_round () hm Nat.zero_lt_one trivial (fun W h => h.phi (fun W hφ => hφ))
  ·
   unfold m_slices_Equal_21_j1 at hm
   refine d_flat [] trivial (fun u => ?_)
   refine d_sta ⟨w0, M, H, R, φ⟩ (fun _ h => h) ?_
   refine d_then ?_
   refine c_seq ?_
   refine c_region ?_
   refine g_v rfl r_assign ?_
   refine g_nil ?_
   refine d_then ?_
   refine c_ret ?_
   replace hm := Option.some.inj hm
   subst hm
   refine d_retC () Try.results21 ?_ trivial (fun W h => ok_pre (H1 := []) (R1 := []) h (fun W hφ => hφ)) (.inr rfl)
   refine res_tmp ?_
   refine res_nil ?_
   exact rfl

noncomputable def m_plog_Save_j2 (p1 : GHard) (x3 : Int) (l86 : List ByteArray) : Option ((List ByteArray) × Bool) :=
  (m_plog_entries p1.fLog x3).bind fun x89 =>
  (app 16 l86 x89).bind fun l94 =>
  some (l94, false)
noncomputable def m_plog_Save_j1 (p0 : GHard) (p1 : GHard) (x3 : Int) : Option ((List ByteArray) × Bool) :=
  if p0.fTerm ≠ p1.fTerm then
    (m_plog_numbers [84] [p1.fTerm, p1.fVote]).bind fun x112 =>
    (app 16 ([] : List ByteArray) [strOfNums x112]).bind fun l118 =>
    m_plog_Save_j2 p1 x3 l118
  else
    if p0.fVote ≠ p1.fVote then
      (m_plog_numbers [84] [p1.fTerm, p1.fVote]).bind fun x101 =>
      (app 16 ([] : List ByteArray) [strOfNums x101]).bind fun l107 =>
      m_plog_Save_j2 p1 x3 l107
    else
      m_plog_Save_j2 p1 x3 ([] : List ByteArray)
noncomputable def m_plog_Save (p0 : GHard) (p1 : GHard) : Option ((List ByteArray) × Bool) :=
  (m_plog_shared_19 p0.fLog.fEntries p1.fLog.fEntries).bind fun x3 =>
  if p0.fLog.fBase ≠ p1.fLog.fBase then
    (m_plog_anew p1).bind fun x149 =>
    some (x149, true)
  else
    if p0.fLog.fBaseTerm ≠ p1.fLog.fBaseTerm then
      (m_plog_anew p1).bind fun x144 =>
      some (x144, true)
    else
      if p0.fSnap = p1.fSnap then
        (m_slices_Equal_21 p0.fVoters p1.fVoters).bind fun x129 =>
        if x129 = true then
          if x3 = (p1.fLog.fEntries.length : Int) then
            if x3 < (p0.fLog.fEntries.length : Int) then
              (m_plog_anew p1).bind fun x134 =>
              some (x134, true)
            else
              m_plog_Save_j1 p0 p1 x3
          else
            m_plog_Save_j1 p0 p1 x3
        else
          (m_plog_anew p1).bind fun x139 =>
          some (x139, true)
      else
        (m_plog_anew p1).bind fun x124 =>
        some (x124, true)
theorem c_plog_Save {w0 : World} {M : Nat → Prop} {H : List (Nat × Nat × Obj)} {R : List (Nat × Row)} {φ : World → Prop} (p0 : GHard) (Ap0_0 : Option Addr) (cp0_0 : Nat) (hcp0_0 : p0.fVoters.length ≤ cp0_0) (fp0_0 : ∀ W, (Sta.mk w0 M H R φ).ok W → Cl W Ap0_0 (p0.fVoters.flatMap (fun x : Int => [Value.int .i64 x]))) (Ap0_1 : Option Addr) (cp0_1 : Nat) (hcp0_1 : p0.fLog.fEntries.length ≤ cp0_1) (fp0_1 : ∀ W, (Sta.mk w0 M H R φ).ok W → Cl W Ap0_1 (p0.fLog.fEntries.flatMap GEntry.enc)) (p1 : GHard) (Ap1_0 : Option Addr) (cp1_0 : Nat) (hcp1_0 : p1.fVoters.length ≤ cp1_0) (fp1_0 : ∀ W, (Sta.mk w0 M H R φ).ok W → Cl W Ap1_0 (p1.fVoters.flatMap (fun x : Int => [Value.int .i64 x]))) (Ap1_1 : Option Addr) (cp1_1 : Nat) (hcp1_1 : p1.fLog.fEntries.length ≤ cp1_1) (fp1_1 : ∀ W, (Sta.mk w0 M H R φ).ok W → Cl W Ap1_1 (p1.fLog.fEntries.flatMap GEntry.enc)) (r : (List ByteArray) × Bool) (hm : m_plog_Save p0 p1 = some r) :
    Cn Try.prog 7 #[.agg #[.int .i64 p0.fTerm, .int .i64 p0.fVote, .slice Ap0_0 p0.fVoters.length cp0_0, .string p0.fSnap, .int .i64 p0.fLog.fBase, .int .i64 p0.fLog.fBaseTerm, .slice Ap0_1 p0.fLog.fEntries.length cp0_1], .agg #[.int .i64 p1.fTerm, .int .i64 p1.fVote, .slice Ap1_0 p1.fVoters.length cp1_0, .string p1.fSnap, .int .i64 p1.fLog.fBase, .int .i64 p1.fLog.fBaseTerm, .slice Ap1_1 p1.fLog.fEntries.length cp1_1]] ⟨w0, M, H, R, φ⟩ (fun x : Option Addr × Nat => .tuple #[.slice x.1 r.1.length x.2, .bool r.2]) (fun x => r.1.length ≤ x.2) (fun x => ⟨w0, M, H, (2000, ⟨.slice x.1 r.1.length x.2, 9, 1, r.1.length, r.1.flatMap (fun x : ByteArray => [Value.string x])⟩) :: R, φ⟩) := by
 unfold m_plog_Save at hm
 refine cn_intro (fn := Try.f7) (N := 95) Try.func7 rfl Try.ntmps7 rfl ?_
 refine c_seq ?_
 refine c_region ?_
 refine g_e rfl (e_box 100020 rfl) (fun g1 _ => ?_)
 refine g_e rfl (e_box 100030 rfl) (fun g2 _ => ?_)
 refine g_v rfl r_assign ?_
 refine g_v rfl r_assign ?_
 refine g_nil ?_
 refine d_then ?_
 refine c_seq ?_
 refine c_region ?_
 refine g_v rfl (r_field (n := 4) Try.underlying30 rfl Try.sizeOf28 rfl rfl) ?_
 refine g_v rfl (r_field (n := 6) Try.underlying28 rfl Try.sizeOf26 rfl rfl) ?_
 refine g_v rfl (r_load (tag := 100020) rfl rfl rfl Try.isAgg26) ?_
 refine g_v rfl (r_field (n := 4) Try.underlying30 rfl Try.sizeOf28 rfl rfl) ?_
 refine g_v rfl (r_field (n := 6) Try.underlying28 rfl Try.sizeOf26 rfl rfl) ?_
 refine g_v rfl (r_load (tag := 100030) rfl rfl rfl Try.isAgg26) ?_
 replace hm := bnd hm
 obtain ⟨x3, hx4, hm⟩ := hm
 refine g_cn ⟨w0, M, _, _, φ⟩ (fun _ h => h) Try.call19 rfl rfl (c_plog_shared_19 p0.fLog.fEntries Ap0_1 cp0_1 hcp0_1 (fun W hS => fp0_1 W (ok_pre (H1 := [_, _]) (R1 := []) hS (fun W h => h))) p1.fLog.fEntries Ap1_1 cp1_1 hcp1_1 (fun W hS => fp1_1 W (ok_pre (H1 := [_, _]) (R1 := []) hS (fun W h => h))) _ hx4) (fun _ _ => ?_)
 refine g_v rfl r_assign ?_
 refine g_nil ?_
 refine d_then ?_
 refine c_flat [(2, .pointer (some ⟨g1, 0, none⟩)), (3, .pointer (some ⟨g2, 0, none⟩)), (6, .int .i64 x3)] ⟨rfl, rfl, rfl, trivial⟩ (fun u => ?_)
 refine c_sta ⟨w0, M, (100030, g2, .cells #[.int .i64 p1.fTerm, .int .i64 p1.fVote, .slice Ap1_0 p1.fVoters.length cp1_0, .string p1.fSnap, .int .i64 p1.fLog.fBase, .int .i64 p1.fLog.fBaseTerm, .slice Ap1_1 p1.fLog.fEntries.length cp1_1] 30 (0, 0)) :: (100020, g1, .cells #[.int .i64 p0.fTerm, .int .i64 p0.fVote, .slice Ap0_0 p0.fVoters.length cp0_0, .string p0.fSnap, .int .i64 p0.fLog.fBase, .int .i64 p0.fLog.fBaseTerm, .slice Ap0_1 p0.fLog.fEntries.length cp0_1] 30 (0, 0)) :: H, R, φ⟩ (fun _ h => h) ?_
 refine c_seq ?_
 refine c_cut (ι := Unit) [2, 3, 6] (fun _ => []) (fun _ => ⟨w0, M, (100030, g2, .cells #[.int .i64 p1.fTerm, .int .i64 p1.fVote, .slice Ap1_0 p1.fVoters.length cp1_0, .string p1.fSnap, .int .i64 p1.fLog.fBase, .int .i64 p1.fLog.fBaseTerm, .slice Ap1_1 p1.fLog.fEntries.length cp1_1] 30 (0, 0)) :: (100020, g1, .cells #[.int .i64 p0.fTerm, .int .i64 p0.fVote, .slice Ap0_0 p0.fVoters.length cp0_0, .string p0.fSnap, .int .i64 p0.fLog.fBase, .int .i64 p0.fLog.fBaseTerm, .slice Ap0_1 p0.fLog.fEntries.length cp0_1] 30 (0, 0)) :: H, R, φ⟩) (fun _ => m_plog_Save_j1 p0 p1 x3 = some r) ?_ (fun _ u hm => ?_)
 ·
  refine c_block ?_
  refine c_seq ?_
  refine c_region ?_
  refine g_v rfl (r_field (n := 4) Try.underlying30 rfl Try.sizeOf28 rfl rfl) ?_
  refine g_v rfl (r_field (n := 4) Try.underlying28 rfl Try.sizeOf3 rfl rfl) ?_
  refine g_v rfl (r_load (tag := 100020) rfl rfl rfl Try.isAgg3) ?_
  refine g_v rfl (r_field (n := 4) Try.underlying30 rfl Try.sizeOf28 rfl rfl) ?_
  refine g_v rfl (r_field (n := 4) Try.underlying28 rfl Try.sizeOf3 rfl rfl) ?_
  refine g_v rfl (r_load (tag := 100030) rfl rfl rfl Try.isAgg3) ?_
  refine g_v rfl (r_neq rfl rfl) ?_
  refine g_v rfl r_move ?_
  refine g_if rfl rfl rfl rfl rfl (fun h121 => ?_) (fun h121 => ?_)
  ·
   replace hm := ite_f hm (of_decide_eq_false h121)
   refine g_v rfl (r_field (n := 4) Try.underlying30 rfl Try.sizeOf28 rfl rfl) ?_
   refine g_do rfl rfl rfl rfl rfl h121 ?_
   refine g_v rfl (r_field (n := 5) Try.underlying28 rfl Try.sizeOf3 rfl rfl) ?_
   refine g_do rfl rfl rfl rfl rfl h121 ?_
   refine g_v rfl (r_load (tag := 100020) rfl rfl rfl Try.isAgg3) ?_
   refine g_do rfl rfl rfl rfl rfl h121 ?_
   refine g_v rfl (r_field (n := 4) Try.underlying30 rfl Try.sizeOf28 rfl rfl) ?_
   refine g_do rfl rfl rfl rfl rfl h121 ?_
   refine g_v rfl (r_field (n := 5) Try.underlying28 rfl Try.sizeOf3 rfl rfl) ?_
   refine g_do rfl rfl rfl rfl rfl h121 ?_
   refine g_v rfl (r_load (tag := 100030) rfl rfl rfl Try.isAgg3) ?_
   refine g_do rfl rfl rfl rfl rfl h121 ?_
   refine g_v rfl (r_neq rfl rfl) ?_
   refine g_v rfl (r_pick0 rfl h121) ?_
   refine g_v rfl r_move ?_
   refine g_if rfl rfl rfl rfl rfl (fun h122 => ?_) (fun h122 => ?_)
   ·
    replace hm := ite_f hm (of_decide_eq_false h122)
    refine g_v rfl (r_field (n := 3) Try.underlying30 rfl Try.sizeOf9 rfl rfl) ?_
    refine g_do rfl rfl rfl rfl rfl h122 ?_
    refine g_v rfl (r_load (tag := 100020) rfl rfl rfl Try.isAgg9) ?_
    refine g_do rfl rfl rfl rfl rfl h122 ?_
    refine g_v rfl (r_field (n := 3) Try.underlying30 rfl Try.sizeOf9 rfl rfl) ?_
    refine g_do rfl rfl rfl rfl rfl h122 ?_
    refine g_v rfl (r_load (tag := 100030) rfl rfl rfl Try.isAgg9) ?_
    refine g_do rfl rfl rfl rfl rfl h122 ?_
    refine g_v rfl (r_neqT rfl rfl) ?_
    refine g_v rfl (r_pick0 rfl h122) ?_
    refine g_v rfl r_assign ?_
    refine g_nil ?_
    refine d_then ?_
    refine c_flat [(2, .pointer (some ⟨g1, 0, none⟩)), (3, .pointer (some ⟨g2, 0, none⟩)), (6, .int .i64 x3), (15, .bool (!(decide (p0.fSnap = p1.fSnap))))] ⟨rfl, rfl, rfl, rfl, trivial⟩ (fun u => ?_)
    refine c_sta ⟨w0, M, (100030, g2, .cells #[.int .i64 p1.fTerm, .int .i64 p1.fVote, .slice Ap1_0 p1.fVoters.length cp1_0, .string p1.fSnap, .int .i64 p1.fLog.fBase, .int .i64 p1.fLog.fBaseTerm, .slice Ap1_1 p1.fLog.fEntries.length cp1_1] 30 (0, 0)) :: (100020, g1, .cells #[.int .i64 p0.fTerm, .int .i64 p0.fVote, .slice Ap0_0 p0.fVoters.length cp0_0, .string p0.fSnap, .int .i64 p0.fLog.fBase, .int .i64 p0.fLog.fBaseTerm, .slice Ap0_1 p0.fLog.fEntries.length cp0_1] 30 (0, 0)) :: H, R, φ⟩ (fun _ h => h) ?_
    refine c_cond rfl (fun h123 => ?_) (fun h123 => ?_)
    ·
     have h123' : (decide (p0.fSnap = p1.fSnap)) = false := by revert h123; cases (decide (p0.fSnap = p1.fSnap)) <;> simp
     replace hm := ite_f hm (of_decide_eq_false h123')
     refine c_seq ?_
     refine c_region ?_
     refine g_v rfl (r_loadA (tag := 100030) rfl rfl Try.isAgg30 Try.sizeOf30 rfl rfl) ?_
     replace hm := bnd hm
     obtain ⟨x124, hx125, hm⟩ := hm
     refine g_cn ⟨w0, M, _, _, φ⟩ (fun _ h => h) Try.call20 rfl rfl (c_plog_anew p1 Ap1_0 cp1_0 hcp1_0 (fun W hS => fp1_0 W (ok_pre (H1 := [_, _]) (R1 := []) hS (fun W h => h))) Ap1_1 cp1_1 hcp1_1 (fun W hS => fp1_1 W (ok_pre (H1 := [_, _]) (R1 := []) hS (fun W h => h))) _ hx125) (fun ⟨A126, c127⟩ hc127 => ?_)
     refine g_sta _ (fun W h => (ok_frontR (t := 2000) (t' := 100400) h rfl)) ?_
     refine g_v rfl r_assign ?_
     refine g_v rfl r_assign ?_
     refine g_nil ?_
     refine d_then ?_
     refine c_ret ?_
     refine d_ret_block ?_
     refine d_ret_then ?_
     refine d_ret_then ?_
     replace hm := Option.some.inj hm
     subst hm
     refine d_sta _ (fun W h => ok_frontR (t := 100400) (t' := 2000) h rfl) ?_
     refine d_retC (A126, c127) Try.results7 ?_ hc127 (fun W h => ((h.dropH (t := 100030) rfl).dropH (t := 100020) rfl).phi (fun W hφ => hφ)) (.inr rfl)
     refine res_tmp ?_
     refine res_tmp ?_
     refine res_nil ?_
     exact rfl
    ·
     have h123' : (decide (p0.fSnap = p1.fSnap)) = true := by revert h123; cases (decide (p0.fSnap = p1.fSnap)) <;> simp
     replace hm := ite_t hm (of_decide_eq_true h123')
     refine c_seq ?_
     refine c_region ?_
     refine g_v rfl (r_field (n := 2) Try.underlying30 rfl Try.sizeOf25 rfl rfl) ?_
     refine g_v rfl (r_load (tag := 100020) rfl rfl rfl Try.isAgg25) ?_
     refine g_v rfl (r_field (n := 2) Try.underlying30 rfl Try.sizeOf25 rfl rfl) ?_
     refine g_v rfl (r_load (tag := 100030) rfl rfl rfl Try.isAgg25) ?_
     replace hm := bnd hm
     obtain ⟨x129, hx130, hm⟩ := hm
     refine g_cn ⟨w0, M, _, _, φ⟩ (fun _ h => h) Try.call21 rfl rfl (c_slices_Equal_21 p0.fVoters Ap0_0 cp0_0 hcp0_0 (fun W hS => fp0_0 W (ok_pre (H1 := [_, _]) (R1 := []) hS (fun W h => h))) p1.fVoters Ap1_0 cp1_0 hcp1_0 (fun W hS => fp1_0 W (ok_pre (H1 := [_, _]) (R1 := []) hS (fun W h => h))) _ hx130) (fun _ _ => ?_)
     refine g_v rfl (r_not rfl) ?_
     refine g_v rfl r_move ?_
     refine g_if rfl rfl rfl rfl rfl (fun h131 => ?_) (fun h131 => ?_)
     ·
      have h131' : x129 = true := by revert h131; cases x129 <;> simp
      replace hm := ite_t hm h131'
      refine g_v rfl r_move ?_
      refine g_do rfl rfl rfl rfl rfl h131 ?_
      refine g_v rfl (r_field (n := 4) Try.underlying30 rfl Try.sizeOf28 rfl rfl) ?_
      refine g_do rfl rfl rfl rfl rfl h131 ?_
      refine g_v rfl (r_field (n := 6) Try.underlying28 rfl Try.sizeOf26 rfl rfl) ?_
      refine g_do rfl rfl rfl rfl rfl h131 ?_
      refine g_v rfl (r_load (tag := 100030) rfl rfl rfl Try.isAgg26) ?_
      refine g_do rfl rfl rfl rfl rfl h131 ?_
      refine g_v rfl (r_lenL Try.underlying26 rfl) ?_
      refine g_do rfl rfl rfl rfl rfl h131 ?_
      refine g_v rfl (r_eql rfl rfl) ?_
      refine g_do rfl rfl rfl rfl rfl h131 ?_
      refine g_v rfl r_move ?_
      refine g_if rfl rfl rfl rfl rfl (fun h132 => ?_) (fun h132 => ?_)
      ·
       replace hm := ite_t hm (of_decide_eq_true h132)
       refine g_v rfl r_move ?_
       refine g_do rfl rfl rfl rfl rfl h132 ?_
       refine g_v rfl (r_field (n := 4) Try.underlying30 rfl Try.sizeOf28 rfl rfl) ?_
       refine g_do rfl rfl rfl rfl rfl h132 ?_
       refine g_v rfl (r_field (n := 6) Try.underlying28 rfl Try.sizeOf26 rfl rfl) ?_
       refine g_do rfl rfl rfl rfl rfl h132 ?_
       refine g_v rfl (r_load (tag := 100020) rfl rfl rfl Try.isAgg26) ?_
       refine g_do rfl rfl rfl rfl rfl h132 ?_
       refine g_v rfl (r_lenL Try.underlying26 rfl) ?_
       refine g_do rfl rfl rfl rfl rfl h132 ?_
       refine g_v rfl (r_lss rfl rfl) ?_
       refine g_do rfl rfl rfl rfl rfl h131 ?_
       refine g_v rfl (r_pick1 rfl h132) ?_
       refine g_v rfl (r_pick0 rfl h131) ?_
       refine g_v rfl r_assign ?_
       refine g_nil ?_
       refine d_then ?_
       refine c_flat [(2, .pointer (some ⟨g1, 0, none⟩)), (3, .pointer (some ⟨g2, 0, none⟩)), (6, .int .i64 x3), (41, .bool (decide (x3 < (p0.fLog.fEntries.length : Int))))] ⟨rfl, rfl, rfl, rfl, trivial⟩ (fun u => ?_)
       refine c_sta ⟨w0, M, (100030, g2, .cells #[.int .i64 p1.fTerm, .int .i64 p1.fVote, .slice Ap1_0 p1.fVoters.length cp1_0, .string p1.fSnap, .int .i64 p1.fLog.fBase, .int .i64 p1.fLog.fBaseTerm, .slice Ap1_1 p1.fLog.fEntries.length cp1_1] 30 (0, 0)) :: (100020, g1, .cells #[.int .i64 p0.fTerm, .int .i64 p0.fVote, .slice Ap0_0 p0.fVoters.length cp0_0, .string p0.fSnap, .int .i64 p0.fLog.fBase, .int .i64 p0.fLog.fBaseTerm, .slice Ap0_1 p0.fLog.fEntries.length cp0_1] 30 (0, 0)) :: H, R, φ⟩ (fun _ h => h) ?_
       refine c_cond rfl (fun h133 => ?_) (fun h133 => ?_)
       ·
        replace hm := ite_t hm (of_decide_eq_true h133)
        refine c_seq ?_
        refine c_region ?_
        refine g_v rfl (r_loadA (tag := 100030) rfl rfl Try.isAgg30 Try.sizeOf30 rfl rfl) ?_
        replace hm := bnd hm
        obtain ⟨x134, hx135, hm⟩ := hm
        refine g_cn ⟨w0, M, _, _, φ⟩ (fun _ h => h) Try.call20 rfl rfl (c_plog_anew p1 Ap1_0 cp1_0 hcp1_0 (fun W hS => fp1_0 W (ok_pre (H1 := [_, _]) (R1 := []) hS (fun W h => h))) Ap1_1 cp1_1 hcp1_1 (fun W hS => fp1_1 W (ok_pre (H1 := [_, _]) (R1 := []) hS (fun W h => h))) _ hx135) (fun ⟨A136, c137⟩ hc137 => ?_)
        refine g_sta _ (fun W h => (ok_frontR (t := 2000) (t' := 100650) h rfl)) ?_
        refine g_v rfl r_assign ?_
        refine g_v rfl r_assign ?_
        refine g_nil ?_
        refine d_then ?_
        refine c_ret ?_
        refine d_ret_block ?_
        refine d_ret_then ?_
        refine d_ret_then ?_
        replace hm := Option.some.inj hm
        subst hm
        refine d_sta _ (fun W h => ok_frontR (t := 100650) (t' := 2000) h rfl) ?_
        refine d_retC (A136, c137) Try.results7 ?_ hc137 (fun W h => ((h.dropH (t := 100030) rfl).dropH (t := 100020) rfl).phi (fun W hφ => hφ)) (.inr rfl)
        refine res_tmp ?_
        refine res_tmp ?_
        refine res_nil ?_
        exact rfl
       ·
        replace hm := ite_f hm (of_decide_eq_false h133)
        refine c_skip ?_
        refine d_normal_block ?_
        exact d_round () hm Nat.zero_lt_one ⟨rfl, rfl, rfl, trivial⟩ (fun W h => h.phi (fun W hφ => hφ))
      ·
       replace hm := ite_f hm (of_decide_eq_false h132)
       refine g_no rfl rfl rfl rfl rfl h132 ?_
       refine g_no rfl rfl rfl rfl rfl h132 ?_
       refine g_no rfl rfl rfl rfl rfl h132 ?_
       refine g_no rfl rfl rfl rfl rfl h132 ?_
       refine g_no rfl rfl rfl rfl rfl h132 ?_
       refine g_do rfl rfl rfl rfl rfl h131 ?_
       refine g_v rfl (r_pick0 rfl h132) ?_
       refine g_v rfl (r_pick0 rfl h131) ?_
       refine g_v rfl r_assign ?_
       refine g_nil ?_
       refine d_then ?_
       refine c_flat [(2, .pointer (some ⟨g1, 0, none⟩)), (3, .pointer (some ⟨g2, 0, none⟩)), (6, .int .i64 x3), (41, .bool false)] ⟨rfl, rfl, rfl, rfl, trivial⟩ (fun u => ?_)
       refine c_sta ⟨w0, M, (100030, g2, .cells #[.int .i64 p1.fTerm, .int .i64 p1.fVote, .slice Ap1_0 p1.fVoters.length cp1_0, .string p1.fSnap, .int .i64 p1.fLog.fBase, .int .i64 p1.fLog.fBaseTerm, .slice Ap1_1 p1.fLog.fEntries.length cp1_1] 30 (0, 0)) :: (100020, g1, .cells #[.int .i64 p0.fTerm, .int .i64 p0.fVote, .slice Ap0_0 p0.fVoters.length cp0_0, .string p0.fSnap, .int .i64 p0.fLog.fBase, .int .i64 p0.fLog.fBaseTerm, .slice Ap0_1 p0.fLog.fEntries.length cp0_1] 30 (0, 0)) :: H, R, φ⟩ (fun _ h => h) ?_
       refine c_cond0 rfl rfl ?_
       refine c_skip ?_
       refine d_normal_block ?_
       exact d_round () hm Nat.zero_lt_one ⟨rfl, rfl, rfl, trivial⟩ (fun W h => h.phi (fun W hφ => hφ))
     ·
      have h131' : x129 = false := by revert h131; cases x129 <;> simp
      replace hm := ite_f hm (bool_nt h131')
      refine g_no rfl rfl rfl rfl rfl h131 ?_
      refine g_no rfl rfl rfl rfl rfl h131 ?_
      refine g_no rfl rfl rfl rfl rfl h131 ?_
      refine g_no rfl rfl rfl rfl rfl h131 ?_
      refine g_no rfl rfl rfl rfl rfl h131 ?_
      refine g_no rfl rfl rfl rfl rfl h131 ?_
      refine g_nu rfl rfl rfl rfl rfl ?_
      refine g_nu rfl rfl rfl rfl rfl ?_
      refine g_nu rfl rfl rfl rfl rfl ?_
      refine g_nu rfl rfl rfl rfl rfl ?_
      refine g_nu rfl rfl rfl rfl rfl ?_
      refine g_nu rfl rfl rfl rfl rfl ?_
      refine g_no rfl rfl rfl rfl rfl h131 ?_
      refine g_v rfl (r_pick1 rfl h131) ?_
      refine g_v rfl r_assign ?_
      refine g_nil ?_
      refine d_then ?_
      refine c_flat [(2, .pointer (some ⟨g1, 0, none⟩)), (3, .pointer (some ⟨g2, 0, none⟩)), (6, .int .i64 x3), (41, .bool true)] ⟨rfl, rfl, rfl, rfl, trivial⟩ (fun u => ?_)
      refine c_sta ⟨w0, M, (100030, g2, .cells #[.int .i64 p1.fTerm, .int .i64 p1.fVote, .slice Ap1_0 p1.fVoters.length cp1_0, .string p1.fSnap, .int .i64 p1.fLog.fBase, .int .i64 p1.fLog.fBaseTerm, .slice Ap1_1 p1.fLog.fEntries.length cp1_1] 30 (0, 0)) :: (100020, g1, .cells #[.int .i64 p0.fTerm, .int .i64 p0.fVote, .slice Ap0_0 p0.fVoters.length cp0_0, .string p0.fSnap, .int .i64 p0.fLog.fBase, .int .i64 p0.fLog.fBaseTerm, .slice Ap0_1 p0.fLog.fEntries.length cp0_1] 30 (0, 0)) :: H, R, φ⟩ (fun _ h => h) ?_
      refine c_cond1 rfl rfl ?_
      refine c_seq ?_
      refine c_region ?_
      refine g_v rfl (r_loadA (tag := 100030) rfl rfl Try.isAgg30 Try.sizeOf30 rfl rfl) ?_
      replace hm := bnd hm
      obtain ⟨x139, hx140, hm⟩ := hm
      refine g_cn ⟨w0, M, _, _, φ⟩ (fun _ h => h) Try.call20 rfl rfl (c_plog_anew p1 Ap1_0 cp1_0 hcp1_0 (fun W hS => fp1_0 W (ok_pre (H1 := [_, _]) (R1 := []) hS (fun W h => h))) Ap1_1 cp1_1 hcp1_1 (fun W hS => fp1_1 W (ok_pre (H1 := [_, _]) (R1 := []) hS (fun W h => h))) _ hx140) (fun ⟨A141, c142⟩ hc142 => ?_)
      refine g_sta _ (fun W h => (ok_frontR (t := 2000) (t' := 100650) h rfl)) ?_
      refine g_v rfl r_assign ?_
      refine g_v rfl r_assign ?_
      refine g_nil ?_
      refine d_then ?_
      refine c_ret ?_
      refine d_ret_block ?_
      refine d_ret_then ?_
      refine d_ret_then ?_
      replace hm := Option.some.inj hm
      subst hm
      refine d_sta _ (fun W h => ok_frontR (t := 100650) (t' := 2000) h rfl) ?_
      refine d_retC (A141, c142) Try.results7 ?_ hc142 (fun W h => ((h.dropH (t := 100030) rfl).dropH (t := 100020) rfl).phi (fun W hφ => hφ)) (.inr rfl)
      refine res_tmp ?_
      refine res_tmp ?_
      refine res_nil ?_
      exact rfl
   ·
    replace hm := ite_t hm (of_decide_eq_true h122)
    refine g_no rfl rfl rfl rfl rfl h122 ?_
    refine g_no rfl rfl rfl rfl rfl h122 ?_
    refine g_no rfl rfl rfl rfl rfl h122 ?_
    refine g_no rfl rfl rfl rfl rfl h122 ?_
    refine g_v rfl (r_pick1 rfl h122) ?_
    refine g_v rfl r_assign ?_
    refine g_nil ?_
    refine d_then ?_
    refine c_flat [(2, .pointer (some ⟨g1, 0, none⟩)), (3, .pointer (some ⟨g2, 0, none⟩)), (6, .int .i64 x3), (15, .bool true)] ⟨rfl, rfl, rfl, rfl, trivial⟩ (fun u => ?_)
    refine c_sta ⟨w0, M, (100030, g2, .cells #[.int .i64 p1.fTerm, .int .i64 p1.fVote, .slice Ap1_0 p1.fVoters.length cp1_0, .string p1.fSnap, .int .i64 p1.fLog.fBase, .int .i64 p1.fLog.fBaseTerm, .slice Ap1_1 p1.fLog.fEntries.length cp1_1] 30 (0, 0)) :: (100020, g1, .cells #[.int .i64 p0.fTerm, .int .i64 p0.fVote, .slice Ap0_0 p0.fVoters.length cp0_0, .string p0.fSnap, .int .i64 p0.fLog.fBase, .int .i64 p0.fLog.fBaseTerm, .slice Ap0_1 p0.fLog.fEntries.length cp0_1] 30 (0, 0)) :: H, R, φ⟩ (fun _ h => h) ?_
    refine c_cond1 rfl rfl ?_
    refine c_seq ?_
    refine c_region ?_
    refine g_v rfl (r_loadA (tag := 100030) rfl rfl Try.isAgg30 Try.sizeOf30 rfl rfl) ?_
    replace hm := bnd hm
    obtain ⟨x144, hx145, hm⟩ := hm
    refine g_cn ⟨w0, M, _, _, φ⟩ (fun _ h => h) Try.call20 rfl rfl (c_plog_anew p1 Ap1_0 cp1_0 hcp1_0 (fun W hS => fp1_0 W (ok_pre (H1 := [_, _]) (R1 := []) hS (fun W h => h))) Ap1_1 cp1_1 hcp1_1 (fun W hS => fp1_1 W (ok_pre (H1 := [_, _]) (R1 := []) hS (fun W h => h))) _ hx145) (fun ⟨A146, c147⟩ hc147 => ?_)
    refine g_sta _ (fun W h => (ok_frontR (t := 2000) (t' := 100400) h rfl)) ?_
    refine g_v rfl r_assign ?_
    refine g_v rfl r_assign ?_
    refine g_nil ?_
    refine d_then ?_
    refine c_ret ?_
    refine d_ret_block ?_
    refine d_ret_then ?_
    refine d_ret_then ?_
    replace hm := Option.some.inj hm
    subst hm
    refine d_sta _ (fun W h => ok_frontR (t := 100400) (t' := 2000) h rfl) ?_
    refine d_retC (A146, c147) Try.results7 ?_ hc147 (fun W h => ((h.dropH (t := 100030) rfl).dropH (t := 100020) rfl).phi (fun W hφ => hφ)) (.inr rfl)
    refine res_tmp ?_
    refine res_tmp ?_
    refine res_nil ?_
    exact rfl
  ·
   replace hm := ite_t hm (of_decide_eq_true h121)
   refine g_no rfl rfl rfl rfl rfl h121 ?_
   refine g_no rfl rfl rfl rfl rfl h121 ?_
   refine g_no rfl rfl rfl rfl rfl h121 ?_
   refine g_no rfl rfl rfl rfl rfl h121 ?_
   refine g_no rfl rfl rfl rfl rfl h121 ?_
   refine g_no rfl rfl rfl rfl rfl h121 ?_
   refine g_v rfl (r_pick1 rfl h121) ?_
   refine g_v rfl r_move ?_
   refine g_no rfl rfl rfl rfl rfl rfl ?_
   refine g_no rfl rfl rfl rfl rfl rfl ?_
   refine g_no rfl rfl rfl rfl rfl rfl ?_
   refine g_no rfl rfl rfl rfl rfl rfl ?_
   refine g_no rfl rfl rfl rfl rfl rfl ?_
   refine g_v rfl (r_pick1 rfl rfl) ?_
   refine g_v rfl r_assign ?_
   refine g_nil ?_
   refine d_then ?_
   refine c_flat [(2, .pointer (some ⟨g1, 0, none⟩)), (3, .pointer (some ⟨g2, 0, none⟩)), (6, .int .i64 x3), (15, .bool true)] ⟨rfl, rfl, rfl, rfl, trivial⟩ (fun u => ?_)
   refine c_sta ⟨w0, M, (100030, g2, .cells #[.int .i64 p1.fTerm, .int .i64 p1.fVote, .slice Ap1_0 p1.fVoters.length cp1_0, .string p1.fSnap, .int .i64 p1.fLog.fBase, .int .i64 p1.fLog.fBaseTerm, .slice Ap1_1 p1.fLog.fEntries.length cp1_1] 30 (0, 0)) :: (100020, g1, .cells #[.int .i64 p0.fTerm, .int .i64 p0.fVote, .slice Ap0_0 p0.fVoters.length cp0_0, .string p0.fSnap, .int .i64 p0.fLog.fBase, .int .i64 p0.fLog.fBaseTerm, .slice Ap0_1 p0.fLog.fEntries.length cp0_1] 30 (0, 0)) :: H, R, φ⟩ (fun _ h => h) ?_
   refine c_cond1 rfl rfl ?_
   refine c_seq ?_
   refine c_region ?_
   refine g_v rfl (r_loadA (tag := 100030) rfl rfl Try.isAgg30 Try.sizeOf30 rfl rfl) ?_
   replace hm := bnd hm
   obtain ⟨x149, hx150, hm⟩ := hm
   refine g_cn ⟨w0, M, _, _, φ⟩ (fun _ h => h) Try.call20 rfl rfl (c_plog_anew p1 Ap1_0 cp1_0 hcp1_0 (fun W hS => fp1_0 W (ok_pre (H1 := [_, _]) (R1 := []) hS (fun W h => h))) Ap1_1 cp1_1 hcp1_1 (fun W hS => fp1_1 W (ok_pre (H1 := [_, _]) (R1 := []) hS (fun W h => h))) _ hx150) (fun ⟨A151, c152⟩ hc152 => ?_)
   refine g_sta _ (fun W h => (ok_frontR (t := 2000) (t' := 100400) h rfl)) ?_
   refine g_v rfl r_assign ?_
   refine g_v rfl r_assign ?_
   refine g_nil ?_
   refine d_then ?_
   refine c_ret ?_
   refine d_ret_block ?_
   refine d_ret_then ?_
   refine d_ret_then ?_
   replace hm := Option.some.inj hm
   subst hm
   refine d_sta _ (fun W h => ok_frontR (t := 100400) (t' := 2000) h rfl) ?_
   refine d_retC (A151, c152) Try.results7 ?_ hc152 (fun W h => ((h.dropH (t := 100030) rfl).dropH (t := 100020) rfl).phi (fun W hφ => hφ)) (.inr rfl)
   refine res_tmp ?_
   refine res_tmp ?_
   refine res_nil ?_
   exact rfl
 ·
  unfold m_plog_Save_j1 at hm
  refine d_flat [(2, .pointer (some ⟨g1, 0, none⟩)), (3, .pointer (some ⟨g2, 0, none⟩)), (6, .int .i64 x3)] ⟨rfl, rfl, rfl, trivial⟩ (fun u => ?_)
  refine d_sta ⟨w0, M, (100030, g2, .cells #[.int .i64 p1.fTerm, .int .i64 p1.fVote, .slice Ap1_0 p1.fVoters.length cp1_0, .string p1.fSnap, .int .i64 p1.fLog.fBase, .int .i64 p1.fLog.fBaseTerm, .slice Ap1_1 p1.fLog.fEntries.length cp1_1] 30 (0, 0)) :: (100020, g1, .cells #[.int .i64 p0.fTerm, .int .i64 p0.fVote, .slice Ap0_0 p0.fVoters.length cp0_0, .string p0.fSnap, .int .i64 p0.fLog.fBase, .int .i64 p0.fLog.fBaseTerm, .slice Ap0_1 p0.fLog.fEntries.length cp0_1] 30 (0, 0)) :: H, R, φ⟩ (fun _ h => h) ?_
  refine d_then ?_
  refine c_seq ?_
  refine c_region ?_
  refine g_v rfl r_assign ?_
  refine g_nil ?_
  refine d_then ?_
  refine c_seq ?_
  refine c_sta _ (fun W h => nilR h 3 9 1) ?_
  refine c_cut (ι := (List ByteArray) × Option Addr × Nat) [3, 6, 7] (fun ⟨l86, A87, c88⟩ => [(7, .slice A87 l86.length c88)]) (fun ⟨l86, A87, c88⟩ => ⟨w0, M, (100030, g2, .cells #[.int .i64 p1.fTerm, .int .i64 p1.fVote, .slice Ap1_0 p1.fVoters.length cp1_0, .string p1.fSnap, .int .i64 p1.fLog.fBase, .int .i64 p1.fLog.fBaseTerm, .slice Ap1_1 p1.fLog.fEntries.length cp1_1] 30 (0, 0)) :: H, (3, ⟨.slice A87 l86.length c88, 9, 1, l86.length, l86.flatMap (fun x : ByteArray => [Value.string x])⟩) :: R, φ⟩) (fun ⟨l86, A87, c88⟩ => m_plog_Save_j2 p1 x3 l86 = some r ∧ l86.length ≤ c88) ?_ (fun ⟨l86, A87, c88⟩ u ⟨hm, hc88⟩ => ?_)
  ·
   refine c_seq ?_
   refine c_region ?_
   refine g_v rfl (r_field (n := 0) Try.underlying30 rfl Try.sizeOf3 rfl rfl) ?_
   refine g_v rfl (r_load (tag := 100020) rfl rfl rfl Try.isAgg3) ?_
   refine g_v rfl (r_field (n := 0) Try.underlying30 rfl Try.sizeOf3 rfl rfl) ?_
   refine g_v rfl (r_load (tag := 100030) rfl rfl rfl Try.isAgg3) ?_
   refine g_v rfl (r_neq rfl rfl) ?_
   refine g_v rfl r_move ?_
   refine g_if rfl rfl rfl rfl rfl (fun h97 => ?_) (fun h97 => ?_)
   ·
    replace hm := ite_f hm (of_decide_eq_false h97)
    refine g_v rfl (r_field (n := 1) Try.underlying30 rfl Try.sizeOf3 rfl rfl) ?_
    refine g_do rfl rfl rfl rfl rfl h97 ?_
    refine g_v rfl (r_load (tag := 100020) rfl rfl rfl Try.isAgg3) ?_
    refine g_do rfl rfl rfl rfl rfl h97 ?_
    refine g_v rfl (r_field (n := 1) Try.underlying30 rfl Try.sizeOf3 rfl rfl) ?_
    refine g_do rfl rfl rfl rfl rfl h97 ?_
    refine g_v rfl (r_load (tag := 100030) rfl rfl rfl Try.isAgg3) ?_
    refine g_do rfl rfl rfl rfl rfl h97 ?_
    refine g_v rfl (r_neq rfl rfl) ?_
    refine g_v rfl (r_pick0 rfl h97) ?_
    refine g_nil ?_
    refine d_then ?_
    refine c_flat [(3, .pointer (some ⟨g2, 0, none⟩)), (6, .int .i64 x3), (7, .slice none 0 0), (77, .bool (decide (p0.fVote ≠ p1.fVote)))] ⟨rfl, rfl, rfl, rfl, trivial⟩ (fun u => ?_)
    refine c_sta ⟨w0, M, (100030, g2, .cells #[.int .i64 p1.fTerm, .int .i64 p1.fVote, .slice Ap1_0 p1.fVoters.length cp1_0, .string p1.fSnap, .int .i64 p1.fLog.fBase, .int .i64 p1.fLog.fBaseTerm, .slice Ap1_1 p1.fLog.fEntries.length cp1_1] 30 (0, 0)) :: (100020, g1, .cells #[.int .i64 p0.fTerm, .int .i64 p0.fVote, .slice Ap0_0 p0.fVoters.length cp0_0, .string p0.fSnap, .int .i64 p0.fLog.fBase, .int .i64 p0.fLog.fBaseTerm, .slice Ap0_1 p0.fLog.fEntries.length cp0_1] 30 (0, 0)) :: H, (3, ⟨.slice none 0 0, 9, 1, 0, []⟩) :: R, φ⟩ (fun _ h => h) ?_
    refine c_cond rfl (fun h98 => ?_) (fun h98 => ?_)
    ·
     replace hm := ite_t hm (of_decide_eq_true h98)
     refine c_region ?_
     refine g_v rfl r_move ?_
     refine g_e rfl (e_lit (tag := 100790) (l := [84]) (enc := (fun x : Int => [Value.int .u8 x])) (sz := 1) rfl Try.underlying56 (lit5_13 _) rfl rfl (fun _ => rfl)) (fun g99 _ => ?_)
     refine g_v rfl (r_field (n := 0) Try.underlying30 rfl Try.sizeOf3 rfl rfl) ?_
     refine g_v rfl (r_load (tag := 100030) rfl rfl rfl Try.isAgg3) ?_
     refine g_v rfl (r_field (n := 1) Try.underlying30 rfl Try.sizeOf3 rfl rfl) ?_
     refine g_v rfl (r_load (tag := 100030) rfl rfl rfl Try.isAgg3) ?_
     refine g_e rfl (e_lit (tag := 100840) (l := [p1.fTerm, p1.fVote]) (enc := (fun x : Int => [Value.int .i64 x])) (sz := 1) rfl Try.underlying25 (lit3_6 _ _) rfl rfl (fun _ => rfl)) (fun g100 _ => ?_)
     replace hm := bnd hm
     obtain ⟨x101, hx102, hm⟩ := hm
     refine g_cn ⟨w0, M, (100030, g2, .cells #[.int .i64 p1.fTerm, .int .i64 p1.fVote, .slice Ap1_0 p1.fVoters.length cp1_0, .string p1.fSnap, .int .i64 p1.fLog.fBase, .int .i64 p1.fLog.fBaseTerm, .slice Ap1_1 p1.fLog.fEntries.length cp1_1] 30 (0, 0)) :: (100020, g1, .cells #[.int .i64 p0.fTerm, .int .i64 p0.fVote, .slice Ap0_0 p0.fVoters.length cp0_0, .string p0.fSnap, .int .i64 p0.fLog.fBase, .int .i64 p0.fLog.fBaseTerm, .slice Ap0_1 p0.fLog.fEntries.length cp0_1] 30 (0, 0)) :: H, (1000, ⟨.slice (some ⟨g99, 0, none⟩) [84].length 1, 5, 1, [84].length, [84].flatMap (fun x : Int => [Value.int .u8 x])⟩) :: (100840, ⟨.slice (some ⟨g100, 0, none⟩) [p1.fTerm, p1.fVote].length 2, 3, 1, [p1.fTerm, p1.fVote].length, [p1.fTerm, p1.fVote].flatMap (fun x : Int => [Value.int .i64 x])⟩) :: (3, ⟨.slice none 0 0, 9, 1, 0, []⟩) :: R, φ⟩ (fun W h => (ok_frontR (t := 100790) (t' := 1000) h rfl)) Try.call22 rfl rfl (c_plog_numbers [84] (some ⟨g99, 0, none⟩) 1 (Nat.le_refl _) [p1.fTerm, p1.fVote] (some ⟨g100, 0, none⟩) 2 (Nat.le_refl _) (fun W hS => rowCl (tag := 100840) rfl W hS) _ hx102) (fun ⟨A103, c104⟩ hc104 => ?_)
     refine g_sta _ (fun W h => (ok_frontR (t := 2000) (t' := 100850) h rfl)) ?_
     refine g_v rfl (r_textE Try.underlying56 Try.underlying5 Try.underlying9 rfl (fun W hS => rowCl (tag := 100850) rfl W hS)) ?_
     refine g_e rfl (e_lit (tag := 100870) (l := [strOfNums x101]) (enc := (fun x : ByteArray => [Value.string x])) (sz := 1) rfl Try.underlying24 (lit9_15 _) rfl rfl (fun _ => rfl)) (fun g106 _ => ?_)
     replace hm := bnd hm
     obtain ⟨l107, hl107, hm⟩ := hm
     refine g_e rfl (e_appR (enc := (fun x : ByteArray => [Value.string x])) (l := []) (l1 := [strOfNums x101]) (l2 := l107) (tag := 3) Try.underlying24 inf9_16 rfl (by decide) (by decide) (fun _ => rfl) (fun _ => rfl) rfl (Nat.le_refl 0) rfl rfl (fun W hS => rowCl (tag := 100870) rfl W hS) hl107) (fun ⟨A108, c109⟩ hc109 => ?_)
     refine g_v rfl r_assign ?_
     refine g_nil ?_
     exact d_round (l107, A108, c109) ⟨hm, hc109⟩ Nat.zero_lt_one ⟨rfl, rfl, rfl, trivial⟩ (fun W h => (((((((h.shut (t := 100870) rfl).phi (fun _ hh => hh.1)).shut (t := 100850) rfl).phi (fun _ hh => hh.1)).shut (t := 100840) rfl).phi (fun _ hh => hh.1)).dropH (t := 100020) rfl).phi (fun W hφ => hφ))
    ·
     replace hm := ite_f hm (of_decide_eq_false h98)
     refine c_skip ?_
     exact d_round (([] : List ByteArray), none, 0) ⟨hm, (Nat.le_refl 0)⟩ Nat.zero_lt_one ⟨rfl, rfl, rfl, trivial⟩ (fun W h => (h.dropH (t := 100020) rfl).phi (fun W hφ => hφ))
   ·
    replace hm := ite_t hm (of_decide_eq_true h97)
    refine g_no rfl rfl rfl rfl rfl h97 ?_
    refine g_no rfl rfl rfl rfl rfl h97 ?_
    refine g_no rfl rfl rfl rfl rfl h97 ?_
    refine g_no rfl rfl rfl rfl rfl h97 ?_
    refine g_v rfl (r_pick1 rfl h97) ?_
    refine g_nil ?_
    refine d_then ?_
    refine c_cond1 rfl rfl ?_
    refine c_region ?_
    refine g_v rfl r_move ?_
    refine g_e rfl (e_lit (tag := 100790) (l := [84]) (enc := (fun x : Int => [Value.int .u8 x])) (sz := 1) rfl Try.underlying56 (lit5_13 _) rfl rfl (fun _ => rfl)) (fun g110 _ => ?_)
    refine g_v rfl (r_field (n := 0) Try.underlying30 rfl Try.sizeOf3 rfl rfl) ?_
    refine g_v rfl (r_load (tag := 100030) rfl rfl rfl Try.isAgg3) ?_
    refine g_v rfl (r_field (n := 1) Try.underlying30 rfl Try.sizeOf3 rfl rfl) ?_
    refine g_v rfl (r_load (tag := 100030) rfl rfl rfl Try.isAgg3) ?_
    refine g_e rfl (e_lit (tag := 100840) (l := [p1.fTerm, p1.fVote]) (enc := (fun x : Int => [Value.int .i64 x])) (sz := 1) rfl Try.underlying25 (lit3_6 _ _) rfl rfl (fun _ => rfl)) (fun g111 _ => ?_)
    replace hm := bnd hm
    obtain ⟨x112, hx113, hm⟩ := hm
    refine g_cn ⟨w0, M, (100030, g2, .cells #[.int .i64 p1.fTerm, .int .i64 p1.fVote, .slice Ap1_0 p1.fVoters.length cp1_0, .string p1.fSnap, .int .i64 p1.fLog.fBase, .int .i64 p1.fLog.fBaseTerm, .slice Ap1_1 p1.fLog.fEntries.length cp1_1] 30 (0, 0)) :: (100020, g1, .cells #[.int .i64 p0.fTerm, .int .i64 p0.fVote, .slice Ap0_0 p0.fVoters.length cp0_0, .string p0.fSnap, .int .i64 p0.fLog.fBase, .int .i64 p0.fLog.fBaseTerm, .slice Ap0_1 p0.fLog.fEntries.length cp0_1] 30 (0, 0)) :: H, (1000, ⟨.slice (some ⟨g110, 0, none⟩) [84].length 1, 5, 1, [84].length, [84].flatMap (fun x : Int => [Value.int .u8 x])⟩) :: (100840, ⟨.slice (some ⟨g111, 0, none⟩) [p1.fTerm, p1.fVote].length 2, 3, 1, [p1.fTerm, p1.fVote].length, [p1.fTerm, p1.fVote].flatMap (fun x : Int => [Value.int .i64 x])⟩) :: (3, ⟨.slice none 0 0, 9, 1, 0, []⟩) :: R, φ⟩ (fun W h => (ok_frontR (t := 100790) (t' := 1000) h rfl)) Try.call22 rfl rfl (c_plog_numbers [84] (some ⟨g110, 0, none⟩) 1 (Nat.le_refl _) [p1.fTerm, p1.fVote] (some ⟨g111, 0, none⟩) 2 (Nat.le_refl _) (fun W hS => rowCl (tag := 100840) rfl W hS) _ hx113) (fun ⟨A114, c115⟩ hc115 => ?_)
    refine g_sta _ (fun W h => (ok_frontR (t := 2000) (t' := 100850) h rfl)) ?_
    refine g_v rfl (r_textE Try.underlying56 Try.underlying5 Try.underlying9 rfl (fun W hS => rowCl (tag := 100850) rfl W hS)) ?_
    refine g_e rfl (e_lit (tag := 100870) (l := [strOfNums x112]) (enc := (fun x : ByteArray => [Value.string x])) (sz := 1) rfl Try.underlying24 (lit9_15 _) rfl rfl (fun _ => rfl)) (fun g117 _ => ?_)
    replace hm := bnd hm
    obtain ⟨l118, hl118, hm⟩ := hm
    refine g_e rfl (e_appR (enc := (fun x : ByteArray => [Value.string x])) (l := []) (l1 := [strOfNums x112]) (l2 := l118) (tag := 3) Try.underlying24 inf9_16 rfl (by decide) (by decide) (fun _ => rfl) (fun _ => rfl) rfl (Nat.le_refl 0) rfl rfl (fun W hS => rowCl (tag := 100870) rfl W hS) hl118) (fun ⟨A119, c120⟩ hc120 => ?_)
    refine g_v rfl r_assign ?_
    refine g_nil ?_
    exact d_round (l118, A119, c120) ⟨hm, hc120⟩ Nat.zero_lt_one ⟨rfl, rfl, rfl, trivial⟩ (fun W h => (((((((h.shut (t := 100870) rfl).phi (fun _ hh => hh.1)).shut (t := 100850) rfl).phi (fun _ hh => hh.1)).shut (t := 100840) rfl).phi (fun _ hh => hh.1)).dropH (t := 100020) rfl).phi (fun W hφ => hφ))
  ·
   unfold m_plog_Save_j2 at hm
   refine d_flat [(3, .pointer (some ⟨g2, 0, none⟩)), (6, .int .i64 x3), (7, .slice A87 l86.length c88)] ⟨rfl, rfl, rfl, trivial⟩ (fun u => ?_)
   refine d_sta ⟨w0, M, (100030, g2, .cells #[.int .i64 p1.fTerm, .int .i64 p1.fVote, .slice Ap1_0 p1.fVoters.length cp1_0, .string p1.fSnap, .int .i64 p1.fLog.fBase, .int .i64 p1.fLog.fBaseTerm, .slice Ap1_1 p1.fLog.fEntries.length cp1_1] 30 (0, 0)) :: H, (3, ⟨.slice A87 l86.length c88, 9, 1, l86.length, l86.flatMap (fun x : ByteArray => [Value.string x])⟩) :: R, φ⟩ (fun _ h => h) ?_
   refine d_then ?_
   refine c_seq ?_
   refine c_region ?_
   refine g_v rfl r_move ?_
   refine g_v rfl (r_field (n := 4) Try.underlying30 rfl Try.sizeOf28 rfl rfl) ?_
   refine g_v rfl (r_loadA (tag := 100030) rfl rfl Try.isAgg28 Try.sizeOf28 rfl rfl) ?_
   refine g_v rfl r_move ?_
   replace hm := bnd hm
   obtain ⟨x89, hx90, hm⟩ := hm
   refine g_cn ⟨w0, M, _, _, φ⟩ (fun _ h => h) Try.call23 rfl rfl (c_plog_entries p1.fLog Ap1_1 cp1_1 hcp1_1 (fun W hS => fp1_1 W (ok_pre (H1 := [_]) (R1 := [_]) hS (fun W h => h))) x3 _ hx90) (fun ⟨A91, c92⟩ hc92 => ?_)
   refine g_sta _ (fun W h => (ok_frontR (t := 2000) (t' := 100930) h rfl)) ?_
   replace hm := bnd hm
   obtain ⟨l94, hl94, hm⟩ := hm
   refine g_e rfl (e_appR (enc := (fun x : ByteArray => [Value.string x])) (l := l86) (l1 := x89) (l2 := l94) (tag := 3) Try.underlying24 inf9_16 rfl (by decide) (by decide) (fun _ => rfl) (fun _ => rfl) rfl hc88 rfl rfl (fun W hS => rowCl (tag := 100930) rfl W hS) hl94) (fun ⟨A95, c96⟩ hc96 => ?_)
   refine g_v rfl r_assign ?_
   refine g_v rfl r_assign ?_
   refine g_nil ?_
   refine d_then ?_
   refine c_ret ?_
   replace hm := Option.some.inj hm
   subst hm
   refine d_sta _ (fun W h => ok_frontR (t := 3) (t' := 2000) h rfl) ?_
   refine d_retC (A95, c96) Try.results7 ?_ hc96 (fun W h => (((h.shut (t := 100930) rfl).phi (fun _ hh => hh.1)).dropH (t := 100030) rfl).phi (fun W hφ => hφ)) (.inr rfl)
   refine res_tmp ?_
   refine res_tmp ?_
   refine res_nil ?_
   exact rfl
end Go.Proofs.Ytildknbbpkbkeab
