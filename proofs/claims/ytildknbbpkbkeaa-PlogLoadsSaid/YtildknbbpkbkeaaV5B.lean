import Derived.Test.YtildknbbpkbkeaaV5A
set_option maxRecDepth 16384
set_option maxHeartbeats 4000000
set_option linter.unusedVariables false
set_option linter.unusedSimpArgs false
namespace Go.Proofs.Ytildknbbpkbkeaa
open Go.RowKit Go.Proofs.YtildknbbpkbkeaaW.PrintLast
theorem bld44_7  : ∀ W, (Instr.build 44 #[]).run Try.prog W = .ok (.agg #[.int .i64 0, .int .i64 0, .slice none 0 0, .string (⟨#[]⟩ : ByteArray), .int .i64 0, .int .i64 0, .slice none 0 0]) W := fun _ => by kernel_rfl
noncomputable def m_plog_within (p0 : Int) : Option Bool :=
  if 0 ≤ p0 then
    some (decide (p0 ≤ 1099511627776))
  else
    some false
theorem c_plog_within {w0 : World} {M : Nat → Prop} {H : List (Nat × Nat × Obj)} {R : List (Nat × Row)} {φ : World → Prop} (p0 : Int) (r : Bool) (hm : m_plog_within p0 = some r) :
    Cn Try.prog 71 #[.int .i64 p0] ⟨w0, M, H, R, φ⟩ (fun x : Unit => .bool r) (fun x => True) (fun x => ⟨w0, M, H, R, φ⟩) := by
 unfold m_plog_within at hm
 refine cn_intro (fn := Try.f71) (N := 9) Try.func71 rfl Try.ntmps71 rfl ?_
 refine c_seq ?_
 refine c_region ?_
 refine g_v rfl r_assign ?_
 refine g_nil ?_
 refine d_then ?_
 refine c_seq ?_
 refine c_region ?_
 refine g_v rfl r_move ?_
 refine g_v rfl (r_geq rfl rfl) ?_
 refine g_v rfl r_move ?_
 refine g_if rfl rfl rfl rfl rfl (fun h1 => ?_) (fun h1 => ?_)
 ·
  replace hm := ite_t hm (of_decide_eq_true h1)
  refine g_v rfl r_move ?_
  refine g_do rfl rfl rfl rfl rfl h1 ?_
  refine g_v rfl (r_leq rfl rfl) ?_
  refine g_v rfl (r_pick1 rfl h1) ?_
  refine g_v rfl r_assign ?_
  refine g_nil ?_
  refine d_then ?_
  refine c_ret ?_
  replace hm := Option.some.inj hm
  subst hm
  refine d_retC () Try.results71 ?_ trivial (fun W h => ok_pre (H1 := []) (R1 := []) h (fun W hφ => hφ)) (.inr rfl)
  refine res_tmp ?_
  refine res_nil ?_
  exact rfl
 ·
  replace hm := ite_f hm (of_decide_eq_false h1)
  refine g_no rfl rfl rfl rfl rfl h1 ?_
  refine g_v rfl (r_pick0 rfl h1) ?_
  refine g_v rfl r_assign ?_
  refine g_nil ?_
  refine d_then ?_
  refine c_ret ?_
  replace hm := Option.some.inj hm
  subst hm
  refine d_retC () Try.results71 ?_ trivial (fun W h => ok_pre (H1 := []) (R1 := []) h (fun W hφ => hφ)) (.inr rfl)
  refine res_tmp ?_
  refine res_nil ?_
  exact rfl

noncomputable def m_plog_Check_j1  : Option Int :=
  some 0
noncomputable def m_plog_Check_s2 (p0 : GLog) (i84 : Int) (i85 : Int) : Option ((Int × Int) ⊕ (Unit ⊕ Int)) :=
  if i85 < (p0.fEntries.length : Int) then
    (at_ p0.fEntries i85).bind fun x112 =>
    if x112.fTerm < i84 then
      some (.inr (.inr 1))
    else
      (m_plog_within x112.fTerm).bind fun x118 =>
      if x118 = true then
        if x112.fKind < 0 then
          some (.inr (.inr 1))
        else
          if 2 < x112.fKind then
            some (.inr (.inr 1))
          else
            if 8000 < (x112.fData.size : Int) then
              some (.inr (.inr 1))
            else
              (m_plog_List x112.fData).bind fun (z130 : (List Int) × Bool) =>
              if x112.fKind = 1 then
                if z130.2 = true then
                  some (.inl (x112.fTerm, w64 (i85 + 1)))
                else
                  some (.inr (.inr 1))
              else
                some (.inl (x112.fTerm, w64 (i85 + 1)))
      else
        some (.inr (.inr 1))
  else
    some (.inr (.inl ()))
noncomputable def m_plog_Check (p0 : GLog) : Option Int :=
  (m_plog_within p0.fBase).bind fun x2 =>
  if x2 = true then
    (m_plog_within p0.fBaseTerm).bind fun x5 =>
    if x5 = true then
      if 100000 < (p0.fEntries.length : Int) then
        some 1
      else
        (loop (fun s => m_plog_Check_s2 p0 s.1 s.2) (p0.fBaseTerm, 0)).bind fun e => Sum.elim (fun e => m_plog_Check_j1) (fun x => some x) e
    else
      some 1
  else
    some 1
theorem c_plog_Check {w0 : World} {M : Nat → Prop} {H : List (Nat × Nat × Obj)} {R : List (Nat × Row)} {φ : World → Prop} (p0 : GLog) (Ap0_0 : Option Addr) (cp0_0 : Nat) (hcp0_0 : p0.fEntries.length ≤ cp0_0) (fp0_0 : ∀ W, (Sta.mk w0 M H R φ).ok W → Cl W Ap0_0 (p0.fEntries.flatMap GEntry.enc)) (r : Int) (hm : m_plog_Check p0 = some r) :
    Cn Try.prog 19 #[.agg #[.int .i64 p0.fBase, .int .i64 p0.fBaseTerm, .slice Ap0_0 p0.fEntries.length cp0_0]] ⟨w0, M, H, R, φ⟩ (fun x : Unit => .int .i64 r) (fun x => True) (fun x => ⟨w0, M, H, R, φ⟩) := by
 unfold m_plog_Check at hm
 refine cn_intro (fn := Try.f19) (N := 75) Try.func19 rfl Try.ntmps19 rfl ?_
 refine c_seq ?_
 refine c_region ?_
 refine g_e rfl (e_box 100010 rfl) (fun g1 _ => ?_)
 refine g_v rfl r_assign ?_
 refine g_nil ?_
 refine d_then ?_
 refine c_seq ?_
 refine c_seq ?_
 refine c_region ?_
 refine g_v rfl (r_field (n := 0) Try.underlying26 rfl Try.sizeOf3 rfl rfl) ?_
 refine g_v rfl (r_load (tag := 100010) rfl rfl rfl Try.isAgg3) ?_
 replace hm := bnd hm
 obtain ⟨x2, hx3, hm⟩ := hm
 refine g_cn ⟨w0, M, _, _, φ⟩ (fun _ h => h) Try.call71 rfl rfl (c_plog_within p0.fBase _ hx3) (fun _ _ => ?_)
 refine g_v rfl (r_not rfl) ?_
 refine g_v rfl r_move ?_
 refine g_if rfl rfl rfl rfl rfl (fun h4 => ?_) (fun h4 => ?_)
 ·
  have h4' : x2 = true := by revert h4; cases x2 <;> simp
  replace hm := ite_t hm h4'
  refine g_v rfl (r_field (n := 1) Try.underlying26 rfl Try.sizeOf3 rfl rfl) ?_
  refine g_do rfl rfl rfl rfl rfl h4 ?_
  refine g_v rfl (r_load (tag := 100010) rfl rfl rfl Try.isAgg3) ?_
  refine g_do rfl rfl rfl rfl rfl h4 ?_
  replace hm := bnd hm
  obtain ⟨x5, hx6, hm⟩ := hm
  refine g_cn ⟨w0, M, _, _, φ⟩ (fun _ h => h) Try.call71 rfl rfl (c_plog_within p0.fBaseTerm _ hx6) (fun _ _ => ?_)
  refine g_do rfl rfl rfl rfl rfl h4 ?_
  refine g_v rfl (r_not rfl) ?_
  refine g_v rfl (r_pick0 rfl h4) ?_
  refine g_v rfl r_move ?_
  refine g_if rfl rfl rfl rfl rfl (fun h7 => ?_) (fun h7 => ?_)
  ·
   have h7' : x5 = true := by revert h7; cases x5 <;> simp
   replace hm := ite_t hm h7'
   refine g_v rfl (r_field (n := 2) Try.underlying26 rfl Try.sizeOf24 rfl rfl) ?_
   refine g_do rfl rfl rfl rfl rfl h7 ?_
   refine g_v rfl (r_load (tag := 100010) rfl rfl rfl Try.isAgg24) ?_
   refine g_do rfl rfl rfl rfl rfl h7 ?_
   refine g_v rfl (r_lenL Try.underlying24 rfl) ?_
   refine g_do rfl rfl rfl rfl rfl h7 ?_
   refine g_v rfl (r_gtr rfl rfl) ?_
   refine g_v rfl (r_pick0 rfl h7) ?_
   refine g_nil ?_
   refine d_then ?_
   refine c_flat [(1, .pointer (some ⟨g1, 0, none⟩)), (23, .bool (decide (100000 < (p0.fEntries.length : Int))))] ⟨rfl, rfl, trivial⟩ (fun u => ?_)
   refine c_sta ⟨w0, M, (100010, g1, .cells #[.int .i64 p0.fBase, .int .i64 p0.fBaseTerm, .slice Ap0_0 p0.fEntries.length cp0_0] 26 (0, 0)) :: H, R, φ⟩ (fun _ h => h) ?_
   refine c_cond rfl (fun h8 => ?_) (fun h8 => ?_)
   ·
    replace hm := ite_t hm (of_decide_eq_true h8)
    refine c_seq ?_
    refine c_region ?_
    refine g_v rfl r_assign ?_
    refine g_nil ?_
    refine d_then ?_
    refine c_ret ?_
    refine d_ret_then ?_
    replace hm := Option.some.inj hm
    subst hm
    refine d_retC () Try.results19 ?_ trivial (fun W h => ok_pre (H1 := [_]) (R1 := []) h (fun W hφ => hφ)) (.inr rfl)
    refine res_tmp ?_
    refine res_nil ?_
    exact rfl
   ·
    replace hm := ite_f hm (of_decide_eq_false h8)
    refine c_skip ?_
    refine d_then ?_
    refine c_seq ?_
    refine c_region ?_
    refine g_v rfl (r_field (n := 1) Try.underlying26 rfl Try.sizeOf3 rfl rfl) ?_
    refine g_v rfl (r_load (tag := 100010) rfl rfl rfl Try.isAgg3) ?_
    refine g_v rfl r_assign ?_
    refine g_nil ?_
    refine d_then ?_
    refine c_seq ?_
    refine c_seq ?_
    refine c_region ?_
    refine g_v rfl (r_field (n := 2) Try.underlying26 rfl Try.sizeOf24 rfl rfl) ?_
    refine g_v rfl (r_load (tag := 100010) rfl rfl rfl Try.isAgg24) ?_
    refine g_v rfl (r_lenL Try.underlying24 rfl) ?_
    refine g_v rfl r_move ?_
    refine g_nil ?_
    refine d_then ?_
    refine c_cut (ι := Unit) [] (fun _ => []) (fun _ => ⟨w0, M, H, R, φ⟩) (fun _ => m_plog_Check_j1 = some r) ?_ (fun _ u hm => ?_)
    ·
     refine c_block ?_
     replace hm := bnd hm
     obtain ⟨out2, hl2, hr2⟩ := hm
     obtain ⟨n110', hl2⟩ := loop_lp hl2
     refine c_loopU (ι := Nat × Int × Int) [3, 27, 28, 29] (fun ⟨n110, i84, i85⟩ => [(3, .int .i64 i84), (29, .int .i64 i85)]) (fun ⟨n110, i84, i85⟩ => ⟨w0, M, H, R, φ⟩) (fun ⟨n110, i84, i85⟩ => Lp (fun s => m_plog_Check_s2 p0 s.1 s.2) n110 (i84, i85) out2) (fun ⟨n110, i84, i85⟩ => n110) (n110', p0.fBaseTerm, 0) hl2 ⟨rfl, rfl, rfl, rfl, trivial⟩ (fun W h => (h.dropH (t := 100010) rfl).phi (fun W hφ => hφ)) (fun ⟨n110, i84, i85⟩ u hlp => ?_)
     obtain ⟨o2, hm, hnx2⟩ := lp_step hlp
     clear hlp
     replace hm : m_plog_Check_s2 p0 i84 i85 = some o2 := hm
     unfold m_plog_Check_s2 at hm
     refine c_flat [(3, .int .i64 i84), (27, .slice Ap0_0 p0.fEntries.length cp0_0), (28, .int .i64 (p0.fEntries.length : Int)), (29, .int .i64 i85)] ⟨rfl, rfl, rfl, rfl, trivial⟩ (fun u => ?_)
     refine c_sta ⟨w0, M, H, R, φ⟩ (fun _ h => h) ?_
     refine c_seq ?_
     refine c_region ?_
     refine g_v rfl (r_lss rfl rfl) ?_
     refine g_nil ?_
     refine d_then ?_
     refine c_seq ?_
     refine c_cond rfl (fun h111 => ?_) (fun h111 => ?_)
     ·
      replace hm := ite_t hm (of_decide_eq_true h111)
      refine c_skip ?_
      refine d_then ?_
      refine c_seq ?_
      refine c_block ?_
      refine c_seq ?_
      refine c_region ?_
      replace hm := bnd hm
      obtain ⟨x112, hx112, hm⟩ := hm
      refine g_know _ (fun W hS => cl_at (p := (Sta.mk w0 M H R φ).ok) (sz := 3) (fun _ => rfl) (by decide) (ok_pre (H1 := []) (R1 := []) hS (fun W h => h)) fp0_0 hx112) ?_
      rintro ⟨ad113, hA115, f114⟩
      refine g_v rfl (r_ix Try.underlying24 Try.sizeOf35 rfl hA115 rfl hx112) ?_
      refine g_v rfl (r_ldA rfl Try.isAgg35 Try.sizeOf35 (fun W hS => (f114 W (ok_pre (H1 := []) (R1 := []) hS (fun W h => h))).take 3) rfl) ?_
      refine g_e rfl (e_alloc 100050 Try.zeroValue35) (fun g116 _ => ?_)
      refine g_storeL (tag := 100050) rfl rfl rfl rfl Try.sizeOf35 rfl rfl ?_
      refine g_nil ?_
      refine d_then ?_
      refine c_seq ?_
      refine c_seq ?_
      refine c_region ?_
      refine g_v rfl (r_field (n := 0) Try.underlying35 rfl Try.sizeOf3 rfl rfl) ?_
      refine g_v rfl (r_load (tag := 100050) rfl rfl rfl Try.isAgg3) ?_
      refine g_v rfl r_move ?_
      refine g_v rfl (r_lss rfl rfl) ?_
      refine g_v rfl r_move ?_
      refine g_if rfl rfl rfl rfl rfl (fun h117 => ?_) (fun h117 => ?_)
      ·
       replace hm := ite_f hm (of_decide_eq_false h117)
       refine g_v rfl (r_field (n := 0) Try.underlying35 rfl Try.sizeOf3 rfl rfl) ?_
       refine g_do rfl rfl rfl rfl rfl h117 ?_
       refine g_v rfl (r_load (tag := 100050) rfl rfl rfl Try.isAgg3) ?_
       refine g_do rfl rfl rfl rfl rfl h117 ?_
       replace hm := bnd hm
       obtain ⟨x118, hx119, hm⟩ := hm
       refine g_cn ⟨w0, M, _, _, φ⟩ (fun _ h => h) Try.call71 rfl rfl (c_plog_within x112.fTerm _ hx119) (fun _ _ => ?_)
       refine g_do rfl rfl rfl rfl rfl h117 ?_
       refine g_v rfl (r_not rfl) ?_
       refine g_v rfl (r_pick0 rfl h117) ?_
       refine g_v rfl r_move ?_
       refine g_if rfl rfl rfl rfl rfl (fun h120 => ?_) (fun h120 => ?_)
       ·
        have h120' : x118 = true := by revert h120; cases x118 <;> simp
        replace hm := ite_t hm h120'
        refine g_v rfl (r_field (n := 1) Try.underlying35 rfl Try.sizeOf3 rfl rfl) ?_
        refine g_do rfl rfl rfl rfl rfl h120 ?_
        refine g_v rfl (r_load (tag := 100050) rfl rfl rfl Try.isAgg3) ?_
        refine g_do rfl rfl rfl rfl rfl h120 ?_
        refine g_v rfl (r_lss rfl rfl) ?_
        refine g_v rfl (r_pick0 rfl h120) ?_
        refine g_v rfl r_move ?_
        refine g_if rfl rfl rfl rfl rfl (fun h121 => ?_) (fun h121 => ?_)
        ·
         replace hm := ite_f hm (of_decide_eq_false h121)
         refine g_v rfl (r_field (n := 1) Try.underlying35 rfl Try.sizeOf3 rfl rfl) ?_
         refine g_do rfl rfl rfl rfl rfl h121 ?_
         refine g_v rfl (r_load (tag := 100050) rfl rfl rfl Try.isAgg3) ?_
         refine g_do rfl rfl rfl rfl rfl h121 ?_
         refine g_v rfl (r_gtr rfl rfl) ?_
         refine g_v rfl (r_pick0 rfl h121) ?_
         refine g_v rfl r_move ?_
         refine g_if rfl rfl rfl rfl rfl (fun h122 => ?_) (fun h122 => ?_)
         ·
          replace hm := ite_f hm (of_decide_eq_false h122)
          refine g_v rfl (r_field (n := 2) Try.underlying35 rfl Try.sizeOf9 rfl rfl) ?_
          refine g_do rfl rfl rfl rfl rfl h122 ?_
          refine g_v rfl (r_load (tag := 100050) rfl rfl rfl Try.isAgg9) ?_
          refine g_do rfl rfl rfl rfl rfl h122 ?_
          refine g_v rfl (r_len Try.underlying9 rfl) ?_
          refine g_do rfl rfl rfl rfl rfl h122 ?_
          refine g_v rfl (r_gtr rfl rfl) ?_
          refine g_v rfl (r_pick0 rfl h122) ?_
          refine g_nil ?_
          refine d_then ?_
          refine c_flat [(5, .pointer (some ⟨g116, 0, none⟩)), (27, .slice Ap0_0 p0.fEntries.length cp0_0), (28, .int .i64 (p0.fEntries.length : Int)), (29, .int .i64 i85), (58, .bool (decide (8000 < (x112.fData.size : Int))))] ⟨rfl, rfl, rfl, rfl, rfl, trivial⟩ (fun u => ?_)
          refine c_sta ⟨w0, M, (100050, g116, .cells #[.int .i64 x112.fTerm, .int .i64 x112.fKind, .string x112.fData] 35 (0, 0)) :: H, R, φ⟩ (fun _ h => h) ?_
          refine c_cond rfl (fun h123 => ?_) (fun h123 => ?_)
          ·
           replace hm := ite_t hm (of_decide_eq_true h123)
           refine c_seq ?_
           refine c_region ?_
           refine g_v rfl r_assign ?_
           refine g_nil ?_
           refine d_then ?_
           refine c_ret ?_
           refine d_ret_then ?_
           refine d_ret_block ?_
           refine d_ret_then ?_
           refine d_ret_then ?_
           refine d_ret_block ?_
           refine d_ret_then ?_
           refine d_ret_then ?_
           replace hm := nx_out (C := (fun e => Sum.elim (fun e => m_plog_Check_j1) (fun x => some x) e = some r)) hm hnx2 hr2
           replace hm : some 1 = some r := hm
           replace hm := Option.some.inj hm
           subst hm
           refine d_retC () Try.results19 ?_ trivial (fun W h => ok_pre (H1 := [_]) (R1 := []) h (fun W hφ => hφ)) (.inr rfl)
           refine res_tmp ?_
           refine res_nil ?_
           exact rfl
          ·
           replace hm := ite_f hm (of_decide_eq_false h123)
           refine c_skip ?_
           refine d_then ?_
           refine c_seq ?_
           refine c_region ?_
           refine g_v rfl (r_field (n := 2) Try.underlying35 rfl Try.sizeOf9 rfl rfl) ?_
           refine g_v rfl (r_load (tag := 100050) rfl rfl rfl Try.isAgg9) ?_
           replace hm := bnd hm
           obtain ⟨⟨x124, x125⟩, hx126, hm⟩ := hm
           refine g_cn ⟨w0, M, _, _, φ⟩ (fun _ h => h) Try.call23 rfl rfl (c_plog_List x112.fData _ hx126) (fun ⟨A127, c128⟩ hc128 => ?_)
           refine g_sta _ (fun W h => (ok_frontR (t := 2000) (t' := 100620) h rfl)) ?_
           refine g_v rfl r_move ?_
           refine g_v rfl (r_extract rfl rfl) ?_
           refine g_v rfl (r_extract rfl rfl) ?_
           refine g_v rfl r_assign ?_
           refine g_v rfl r_assign ?_
           refine g_nil ?_
           refine d_then ?_
           refine c_seq ?_
           refine c_seq ?_
           refine c_region ?_
           refine g_v rfl (r_field (n := 1) Try.underlying35 rfl Try.sizeOf3 rfl rfl) ?_
           refine g_v rfl (r_load (tag := 100050) rfl rfl rfl Try.isAgg3) ?_
           refine g_v rfl (r_eql rfl rfl) ?_
           refine g_v rfl r_move ?_
           refine g_if rfl rfl rfl rfl rfl (fun h131 => ?_) (fun h131 => ?_)
           ·
            replace hm := ite_t hm (of_decide_eq_true h131)
            refine g_v rfl r_move ?_
            refine g_do rfl rfl rfl rfl rfl h131 ?_
            refine g_v rfl (r_not rfl) ?_
            refine g_v rfl (r_pick1 rfl h131) ?_
            refine g_nil ?_
            refine d_then ?_
            refine c_flat [(5, .pointer (some ⟨g116, 0, none⟩)), (27, .slice Ap0_0 p0.fEntries.length cp0_0), (28, .int .i64 (p0.fEntries.length : Int)), (29, .int .i64 i85), (71, .bool (!x125))] ⟨rfl, rfl, rfl, rfl, rfl, trivial⟩ (fun u => ?_)
            refine c_sta ⟨w0, M, (100050, g116, .cells #[.int .i64 x112.fTerm, .int .i64 x112.fKind, .string x112.fData] 35 (0, 0)) :: H, (100620, ⟨.slice A127 x124.length c128, 3, 1, x124.length, x124.flatMap (fun x : Int => [Value.int .i64 x])⟩) :: R, φ⟩ (fun _ h => h) ?_
            refine c_cond rfl (fun h132 => ?_) (fun h132 => ?_)
            ·
             have h132' : x125 = false := by revert h132; cases x125 <;> simp
             replace hm := ite_f hm (bool_nt h132')
             refine c_seq ?_
             refine c_region ?_
             refine g_v rfl r_assign ?_
             refine g_nil ?_
             refine d_then ?_
             refine c_ret ?_
             refine d_ret_then ?_
             refine d_ret_block ?_
             refine d_ret_then ?_
             refine d_ret_then ?_
             refine d_ret_block ?_
             refine d_ret_then ?_
             refine d_ret_then ?_
             replace hm := nx_out (C := (fun e => Sum.elim (fun e => m_plog_Check_j1) (fun x => some x) e = some r)) hm hnx2 hr2
             replace hm : some 1 = some r := hm
             replace hm := Option.some.inj hm
             subst hm
             refine d_retC () Try.results19 ?_ trivial (fun W h => ok_pre (H1 := [_]) (R1 := [_]) h (fun W hφ => hφ)) (.inr rfl)
             refine res_tmp ?_
             refine res_nil ?_
             exact rfl
            ·
             have h132' : x125 = true := by revert h132; cases x125 <;> simp
             replace hm := ite_t hm h132'
             refine c_skip ?_
             refine d_then ?_
             refine c_region ?_
             refine g_v rfl (r_field (n := 0) Try.underlying35 rfl Try.sizeOf3 rfl rfl) ?_
             refine g_v rfl (r_load (tag := 100050) rfl rfl rfl Try.isAgg3) ?_
             refine g_v rfl r_assign ?_
             refine g_nil ?_
             refine d_normal_block ?_
             refine d_then ?_
             refine c_region ?_
             refine g_v rfl (r_add rfl rfl rfl) ?_
             refine g_v rfl r_move ?_
             refine g_nil ?_
             obtain ⟨n133, hn133, hlp⟩ := nx_inl hm hnx2
             exact d_round (n133, x112.fTerm, w64 (i85 + 1)) hlp hn133 ⟨rfl, rfl, rfl, rfl, trivial⟩ (fun W h => (((h.shut (t := 100620) rfl).phi (fun _ hh => hh.1)).dropH (t := 100050) rfl).phi (fun W hφ => hφ))
           ·
            replace hm := ite_f hm (of_decide_eq_false h131)
            refine g_no rfl rfl rfl rfl rfl h131 ?_
            refine g_v rfl (r_pick0 rfl h131) ?_
            refine g_nil ?_
            refine d_then ?_
            refine c_flat [(5, .pointer (some ⟨g116, 0, none⟩)), (27, .slice Ap0_0 p0.fEntries.length cp0_0), (28, .int .i64 (p0.fEntries.length : Int)), (29, .int .i64 i85), (71, .bool false)] ⟨rfl, rfl, rfl, rfl, rfl, trivial⟩ (fun u => ?_)
            refine c_sta ⟨w0, M, (100050, g116, .cells #[.int .i64 x112.fTerm, .int .i64 x112.fKind, .string x112.fData] 35 (0, 0)) :: H, (100620, ⟨.slice A127 x124.length c128, 3, 1, x124.length, x124.flatMap (fun x : Int => [Value.int .i64 x])⟩) :: R, φ⟩ (fun _ h => h) ?_
            refine c_cond0 rfl rfl ?_
            refine c_skip ?_
            refine d_then ?_
            refine c_region ?_
            refine g_v rfl (r_field (n := 0) Try.underlying35 rfl Try.sizeOf3 rfl rfl) ?_
            refine g_v rfl (r_load (tag := 100050) rfl rfl rfl Try.isAgg3) ?_
            refine g_v rfl r_assign ?_
            refine g_nil ?_
            refine d_normal_block ?_
            refine d_then ?_
            refine c_region ?_
            refine g_v rfl (r_add rfl rfl rfl) ?_
            refine g_v rfl r_move ?_
            refine g_nil ?_
            obtain ⟨n134, hn134, hlp⟩ := nx_inl hm hnx2
            exact d_round (n134, x112.fTerm, w64 (i85 + 1)) hlp hn134 ⟨rfl, rfl, rfl, rfl, trivial⟩ (fun W h => (((h.shut (t := 100620) rfl).phi (fun _ hh => hh.1)).dropH (t := 100050) rfl).phi (fun W hφ => hφ))
         ·
          replace hm := ite_t hm (of_decide_eq_true h122)
          refine g_no rfl rfl rfl rfl rfl h122 ?_
          refine g_no rfl rfl rfl rfl rfl h122 ?_
          refine g_no rfl rfl rfl rfl rfl h122 ?_
          refine g_v rfl (r_pick1 rfl h122) ?_
          refine g_nil ?_
          refine d_then ?_
          refine c_flat [(5, .pointer (some ⟨g116, 0, none⟩)), (27, .slice Ap0_0 p0.fEntries.length cp0_0), (28, .int .i64 (p0.fEntries.length : Int)), (29, .int .i64 i85), (58, .bool true)] ⟨rfl, rfl, rfl, rfl, rfl, trivial⟩ (fun u => ?_)
          refine c_sta ⟨w0, M, (100050, g116, .cells #[.int .i64 x112.fTerm, .int .i64 x112.fKind, .string x112.fData] 35 (0, 0)) :: H, R, φ⟩ (fun _ h => h) ?_
          refine c_cond1 rfl rfl ?_
          refine c_seq ?_
          refine c_region ?_
          refine g_v rfl r_assign ?_
          refine g_nil ?_
          refine d_then ?_
          refine c_ret ?_
          refine d_ret_then ?_
          refine d_ret_block ?_
          refine d_ret_then ?_
          refine d_ret_then ?_
          refine d_ret_block ?_
          refine d_ret_then ?_
          refine d_ret_then ?_
          replace hm := nx_out (C := (fun e => Sum.elim (fun e => m_plog_Check_j1) (fun x => some x) e = some r)) hm hnx2 hr2
          replace hm : some 1 = some r := hm
          replace hm := Option.some.inj hm
          subst hm
          refine d_retC () Try.results19 ?_ trivial (fun W h => ok_pre (H1 := [_]) (R1 := []) h (fun W hφ => hφ)) (.inr rfl)
          refine res_tmp ?_
          refine res_nil ?_
          exact rfl
        ·
         replace hm := ite_t hm (of_decide_eq_true h121)
         refine g_no rfl rfl rfl rfl rfl h121 ?_
         refine g_no rfl rfl rfl rfl rfl h121 ?_
         refine g_v rfl (r_pick1 rfl h121) ?_
         refine g_v rfl r_move ?_
         refine g_no rfl rfl rfl rfl rfl rfl ?_
         refine g_no rfl rfl rfl rfl rfl rfl ?_
         refine g_no rfl rfl rfl rfl rfl rfl ?_
         refine g_no rfl rfl rfl rfl rfl rfl ?_
         refine g_v rfl (r_pick1 rfl rfl) ?_
         refine g_nil ?_
         refine d_then ?_
         refine c_flat [(5, .pointer (some ⟨g116, 0, none⟩)), (27, .slice Ap0_0 p0.fEntries.length cp0_0), (28, .int .i64 (p0.fEntries.length : Int)), (29, .int .i64 i85), (58, .bool true)] ⟨rfl, rfl, rfl, rfl, rfl, trivial⟩ (fun u => ?_)
         refine c_sta ⟨w0, M, (100050, g116, .cells #[.int .i64 x112.fTerm, .int .i64 x112.fKind, .string x112.fData] 35 (0, 0)) :: H, R, φ⟩ (fun _ h => h) ?_
         refine c_cond1 rfl rfl ?_
         refine c_seq ?_
         refine c_region ?_
         refine g_v rfl r_assign ?_
         refine g_nil ?_
         refine d_then ?_
         refine c_ret ?_
         refine d_ret_then ?_
         refine d_ret_block ?_
         refine d_ret_then ?_
         refine d_ret_then ?_
         refine d_ret_block ?_
         refine d_ret_then ?_
         refine d_ret_then ?_
         replace hm := nx_out (C := (fun e => Sum.elim (fun e => m_plog_Check_j1) (fun x => some x) e = some r)) hm hnx2 hr2
         replace hm : some 1 = some r := hm
         replace hm := Option.some.inj hm
         subst hm
         refine d_retC () Try.results19 ?_ trivial (fun W h => ok_pre (H1 := [_]) (R1 := []) h (fun W hφ => hφ)) (.inr rfl)
         refine res_tmp ?_
         refine res_nil ?_
         exact rfl
       ·
        have h120' : x118 = false := by revert h120; cases x118 <;> simp
        replace hm := ite_f hm (bool_nt h120')
        refine g_no rfl rfl rfl rfl rfl h120 ?_
        refine g_no rfl rfl rfl rfl rfl h120 ?_
        refine g_v rfl (r_pick1 rfl h120) ?_
        refine g_v rfl r_move ?_
        refine g_no rfl rfl rfl rfl rfl rfl ?_
        refine g_no rfl rfl rfl rfl rfl rfl ?_
        refine g_no rfl rfl rfl rfl rfl rfl ?_
        refine g_v rfl (r_pick1 rfl rfl) ?_
        refine g_v rfl r_move ?_
        refine g_no rfl rfl rfl rfl rfl rfl ?_
        refine g_no rfl rfl rfl rfl rfl rfl ?_
        refine g_no rfl rfl rfl rfl rfl rfl ?_
        refine g_no rfl rfl rfl rfl rfl rfl ?_
        refine g_v rfl (r_pick1 rfl rfl) ?_
        refine g_nil ?_
        refine d_then ?_
        refine c_flat [(5, .pointer (some ⟨g116, 0, none⟩)), (27, .slice Ap0_0 p0.fEntries.length cp0_0), (28, .int .i64 (p0.fEntries.length : Int)), (29, .int .i64 i85), (58, .bool true)] ⟨rfl, rfl, rfl, rfl, rfl, trivial⟩ (fun u => ?_)
        refine c_sta ⟨w0, M, (100050, g116, .cells #[.int .i64 x112.fTerm, .int .i64 x112.fKind, .string x112.fData] 35 (0, 0)) :: H, R, φ⟩ (fun _ h => h) ?_
        refine c_cond1 rfl rfl ?_
        refine c_seq ?_
        refine c_region ?_
        refine g_v rfl r_assign ?_
        refine g_nil ?_
        refine d_then ?_
        refine c_ret ?_
        refine d_ret_then ?_
        refine d_ret_block ?_
        refine d_ret_then ?_
        refine d_ret_then ?_
        refine d_ret_block ?_
        refine d_ret_then ?_
        refine d_ret_then ?_
        replace hm := nx_out (C := (fun e => Sum.elim (fun e => m_plog_Check_j1) (fun x => some x) e = some r)) hm hnx2 hr2
        replace hm : some 1 = some r := hm
        replace hm := Option.some.inj hm
        subst hm
        refine d_retC () Try.results19 ?_ trivial (fun W h => ok_pre (H1 := [_]) (R1 := []) h (fun W hφ => hφ)) (.inr rfl)
        refine res_tmp ?_
        refine res_nil ?_
        exact rfl
      ·
       replace hm := ite_t hm (of_decide_eq_true h117)
       refine g_no rfl rfl rfl rfl rfl h117 ?_
       refine g_no rfl rfl rfl rfl rfl h117 ?_
       refine g_no rfl rfl rfl rfl rfl h117 ?_
       refine g_v rfl (r_pick1 rfl h117) ?_
       refine g_v rfl r_move ?_
       refine g_no rfl rfl rfl rfl rfl rfl ?_
       refine g_no rfl rfl rfl rfl rfl rfl ?_
       refine g_no rfl rfl rfl rfl rfl rfl ?_
       refine g_v rfl (r_pick1 rfl rfl) ?_
       refine g_v rfl r_move ?_
       refine g_no rfl rfl rfl rfl rfl rfl ?_
       refine g_no rfl rfl rfl rfl rfl rfl ?_
       refine g_no rfl rfl rfl rfl rfl rfl ?_
       refine g_v rfl (r_pick1 rfl rfl) ?_
       refine g_v rfl r_move ?_
       refine g_no rfl rfl rfl rfl rfl rfl ?_
       refine g_no rfl rfl rfl rfl rfl rfl ?_
       refine g_no rfl rfl rfl rfl rfl rfl ?_
       refine g_no rfl rfl rfl rfl rfl rfl ?_
       refine g_v rfl (r_pick1 rfl rfl) ?_
       refine g_nil ?_
       refine d_then ?_
       refine c_flat [(5, .pointer (some ⟨g116, 0, none⟩)), (27, .slice Ap0_0 p0.fEntries.length cp0_0), (28, .int .i64 (p0.fEntries.length : Int)), (29, .int .i64 i85), (58, .bool true)] ⟨rfl, rfl, rfl, rfl, rfl, trivial⟩ (fun u => ?_)
       refine c_sta ⟨w0, M, (100050, g116, .cells #[.int .i64 x112.fTerm, .int .i64 x112.fKind, .string x112.fData] 35 (0, 0)) :: H, R, φ⟩ (fun _ h => h) ?_
       refine c_cond1 rfl rfl ?_
       refine c_seq ?_
       refine c_region ?_
       refine g_v rfl r_assign ?_
       refine g_nil ?_
       refine d_then ?_
       refine c_ret ?_
       refine d_ret_then ?_
       refine d_ret_block ?_
       refine d_ret_then ?_
       refine d_ret_then ?_
       refine d_ret_block ?_
       refine d_ret_then ?_
       refine d_ret_then ?_
       replace hm := nx_out (C := (fun e => Sum.elim (fun e => m_plog_Check_j1) (fun x => some x) e = some r)) hm hnx2 hr2
       replace hm : some 1 = some r := hm
       replace hm := Option.some.inj hm
       subst hm
       refine d_retC () Try.results19 ?_ trivial (fun W h => ok_pre (H1 := [_]) (R1 := []) h (fun W hφ => hφ)) (.inr rfl)
       refine res_tmp ?_
       refine res_nil ?_
       exact rfl
     ·
      replace hm := ite_f hm (of_decide_eq_false h111)
      refine c_exit ?_
      refine d_exit_then ?_
      refine d_exit_then ?_
      refine d_exit_block ?_
      replace hm := nx_out (C := (fun e => Sum.elim (fun e => m_plog_Check_j1) (fun x => some x) e = some r)) hm hnx2 hr2
      exact d_round () hm Nat.zero_lt_one trivial (fun W h => h.phi (fun W hφ => hφ))
    ·
     unfold m_plog_Check_j1 at hm
     refine d_flat [] trivial (fun u => ?_)
     refine d_sta ⟨w0, M, H, R, φ⟩ (fun _ h => h) ?_
     refine d_then ?_
     refine c_seq ?_
     refine c_region ?_
     refine g_v rfl r_assign ?_
     refine g_nil ?_
     refine d_then ?_
     refine c_ret ?_
     replace hm := Option.some.inj hm
     subst hm
     refine d_retC () Try.results19 ?_ trivial (fun W h => ok_pre (H1 := []) (R1 := []) h (fun W hφ => hφ)) (.inr rfl)
     refine res_tmp ?_
     refine res_nil ?_
     exact rfl
  ·
   have h7' : x5 = false := by revert h7; cases x5 <;> simp
   replace hm := ite_f hm (bool_nt h7')
   refine g_no rfl rfl rfl rfl rfl h7 ?_
   refine g_no rfl rfl rfl rfl rfl h7 ?_
   refine g_no rfl rfl rfl rfl rfl h7 ?_
   refine g_v rfl (r_pick1 rfl h7) ?_
   refine g_nil ?_
   refine d_then ?_
   refine c_flat [(1, .pointer (some ⟨g1, 0, none⟩)), (23, .bool true)] ⟨rfl, rfl, trivial⟩ (fun u => ?_)
   refine c_sta ⟨w0, M, (100010, g1, .cells #[.int .i64 p0.fBase, .int .i64 p0.fBaseTerm, .slice Ap0_0 p0.fEntries.length cp0_0] 26 (0, 0)) :: H, R, φ⟩ (fun _ h => h) ?_
   refine c_cond1 rfl rfl ?_
   refine c_seq ?_
   refine c_region ?_
   refine g_v rfl r_assign ?_
   refine g_nil ?_
   refine d_then ?_
   refine c_ret ?_
   refine d_ret_then ?_
   replace hm := Option.some.inj hm
   subst hm
   refine d_retC () Try.results19 ?_ trivial (fun W h => ok_pre (H1 := [_]) (R1 := []) h (fun W hφ => hφ)) (.inr rfl)
   refine res_tmp ?_
   refine res_nil ?_
   exact rfl
 ·
  have h4' : x2 = false := by revert h4; cases x2 <;> simp
  replace hm := ite_f hm (bool_nt h4')
  refine g_no rfl rfl rfl rfl rfl h4 ?_
  refine g_no rfl rfl rfl rfl rfl h4 ?_
  refine g_no rfl rfl rfl rfl rfl h4 ?_
  refine g_v rfl (r_pick1 rfl h4) ?_
  refine g_v rfl r_move ?_
  refine g_no rfl rfl rfl rfl rfl rfl ?_
  refine g_no rfl rfl rfl rfl rfl rfl ?_
  refine g_no rfl rfl rfl rfl rfl rfl ?_
  refine g_no rfl rfl rfl rfl rfl rfl ?_
  refine g_v rfl (r_pick1 rfl rfl) ?_
  refine g_nil ?_
  refine d_then ?_
  refine c_flat [(1, .pointer (some ⟨g1, 0, none⟩)), (23, .bool true)] ⟨rfl, rfl, trivial⟩ (fun u => ?_)
  refine c_sta ⟨w0, M, (100010, g1, .cells #[.int .i64 p0.fBase, .int .i64 p0.fBaseTerm, .slice Ap0_0 p0.fEntries.length cp0_0] 26 (0, 0)) :: H, R, φ⟩ (fun _ h => h) ?_
  refine c_cond1 rfl rfl ?_
  refine c_seq ?_
  refine c_region ?_
  refine g_v rfl r_assign ?_
  refine g_nil ?_
  refine d_then ?_
  refine c_ret ?_
  refine d_ret_then ?_
  replace hm := Option.some.inj hm
  subst hm
  refine d_retC () Try.results19 ?_ trivial (fun W h => ok_pre (H1 := [_]) (R1 := []) h (fun W hφ => hφ)) (.inr rfl)
  refine res_tmp ?_
  refine res_nil ?_
  exact rfl

noncomputable def m_plog_Load_j1  (i89 : Int) (i90 : Int) (l91 : List Int) (s95 : ByteArray) (i96 : Int) (i97 : Int) (l98 : List GEntry) : Option (GHard × Int) :=
  (m_plog_Check (⟨i96, i97, l98⟩ : GLog)).bind fun x103 =>
  if x103 ≠ 0 then
    some ((⟨0, 0, ([] : List Int), (⟨#[]⟩ : ByteArray), (⟨0, 0, ([] : List GEntry)⟩ : GLog)⟩ : GHard), 10)
  else
    (m_plog_within i89).bind fun x106 =>
    if x106 = true then
      (m_plog_within i90).bind fun x109 =>
      if x109 = true then
        some ((⟨i89, i90, l91, s95, (⟨i96, i97, l98⟩ : GLog)⟩ : GHard), 0)
      else
        some ((⟨0, 0, ([] : List Int), (⟨#[]⟩ : ByteArray), (⟨0, 0, ([] : List GEntry)⟩ : GLog)⟩ : GHard), 10)
    else
      some ((⟨0, 0, ([] : List Int), (⟨#[]⟩ : ByteArray), (⟨0, 0, ([] : List GEntry)⟩ : GLog)⟩ : GHard), 10)
noncomputable def m_plog_Load_j3 (i148 : Int) (i149 : Int) (l150 : List Int) (s154 : ByteArray) (i155 : Int) (i156 : Int) (l157 : List GEntry) (x200 : ByteArray) (i147 : Int) : Option ((Int × Int × Int × (List Int) × ByteArray × Int × Int × (List GEntry)) ⊕ ((Int × Int × (List Int) × ByteArray × Int × Int × (List GEntry)) ⊕ (GHard × Int))) :=
  (m_plog_read (⟨i148, i149, l150, s154, (⟨i155, i156, l157⟩ : GLog)⟩ : GHard) x200).bind fun (z218 : GHard × Bool) =>
  if z218.2 = true then
    some (.inl (w64 (i147 + 1), z218.1.fTerm, z218.1.fVote, z218.1.fVoters, z218.1.fSnap, z218.1.fLog.fBase, z218.1.fLog.fBaseTerm, z218.1.fLog.fEntries))
  else
    some (.inr (.inr ((⟨0, 0, ([] : List Int), (⟨#[]⟩ : ByteArray), (⟨0, 0, ([] : List GEntry)⟩ : GLog)⟩ : GHard), 10)))
noncomputable def m_plog_Load_s2 (p0 : List ByteArray) (i147 : Int) (i148 : Int) (i149 : Int) (l150 : List Int) (s154 : ByteArray) (i155 : Int) (i156 : Int) (l157 : List GEntry) : Option ((Int × Int × Int × (List Int) × ByteArray × Int × Int × (List GEntry)) ⊕ ((Int × Int × (List Int) × ByteArray × Int × Int × (List GEntry)) ⊕ (GHard × Int))) :=
  if i147 < (p0.length : Int) then
    (at_ p0 i147).bind fun x200 =>
    if x200 = (⟨#[]⟩ : ByteArray) then
      some (.inr (.inr ((⟨0, 0, ([] : List Int), (⟨#[]⟩ : ByteArray), (⟨0, 0, ([] : List GEntry)⟩ : GLog)⟩ : GHard), 10)))
    else
      if i147 = 0 then
        (sat_ x200 0).bind fun b224 =>
        if b224 ≠ 87 then
          some (.inr (.inr ((⟨0, 0, ([] : List Int), (⟨#[]⟩ : ByteArray), (⟨0, 0, ([] : List GEntry)⟩ : GLog)⟩ : GHard), 10)))
        else
          m_plog_Load_j3 i148 i149 l150 s154 i155 i156 l157 x200 i147
      else
        m_plog_Load_j3 i148 i149 l150 s154 i155 i156 l157 x200 i147
  else
    some (.inr (.inl (i148, i149, l150, s154, i155, i156, l157)))
noncomputable def m_plog_Load (p0 : List ByteArray) : Option (GHard × Int) :=
  (loop (fun s => m_plog_Load_s2 p0 s.1 s.2.1 s.2.2.1 s.2.2.2.1 s.2.2.2.2.1 s.2.2.2.2.2.1 s.2.2.2.2.2.2.1 s.2.2.2.2.2.2.2) (0, 0, 0, ([] : List Int), (⟨#[]⟩ : ByteArray), 0, 0, ([] : List GEntry))).bind fun e => Sum.elim (fun e => m_plog_Load_j1 e.1 e.2.1 e.2.2.1 e.2.2.2.1 e.2.2.2.2.1 e.2.2.2.2.2.1 e.2.2.2.2.2.2) (fun x => some x) e
theorem c_plog_Load {w0 : World} {M : Nat → Prop} {H : List (Nat × Nat × Obj)} {R : List (Nat × Row)} {φ : World → Prop} (p0 : List ByteArray) (Ap0_0 : Option Addr) (cp0_0 : Nat) (hcp0_0 : p0.length ≤ cp0_0) (fp0_0 : ∀ W, (Sta.mk w0 M H R φ).ok W → Cl W Ap0_0 (p0.flatMap (fun x : ByteArray => [Value.string x]))) (r : GHard × Int) (hm : m_plog_Load p0 = some r) :
    Cn Try.prog 67 #[.slice Ap0_0 p0.length cp0_0] ⟨w0, M, H, R, φ⟩ (fun x : Option Addr × Nat × Option Addr × Nat => .tuple #[.agg #[.int .i64 r.1.fTerm, .int .i64 r.1.fVote, .slice x.1 r.1.fVoters.length x.2.1, .string r.1.fSnap, .int .i64 r.1.fLog.fBase, .int .i64 r.1.fLog.fBaseTerm, .slice x.2.2.1 r.1.fLog.fEntries.length x.2.2.2], .int .i64 r.2]) (fun x => r.1.fVoters.length ≤ x.2.1 ∧ r.1.fLog.fEntries.length ≤ x.2.2.2) (fun x => ⟨w0, M, H, R, fun W => φ W ∧ Cl W x.1 (r.1.fVoters.flatMap (fun x : Int => [Value.int .i64 x])) ∧ Cl W x.2.2.1 (r.1.fLog.fEntries.flatMap GEntry.enc)⟩) := by
 unfold m_plog_Load at hm
 refine cn_intro (fn := Try.f67) (N := 57) Try.func67 rfl Try.ntmps67 rfl ?_
 refine c_seq ?_
 refine c_region ?_
 refine g_e rfl (e_alloc 100020 Try.zeroValue44) (fun g1 _ => ?_)
 refine g_v rfl r_assign ?_
 refine g_nil ?_
 refine d_then ?_
 refine c_seq ?_
 refine c_region ?_
 refine g_e rfl (e_alloc 100040 Try.zeroValue44) (fun g2 _ => ?_)
 refine g_nil ?_
 refine d_then ?_
 refine c_seq ?_
 refine c_seq ?_
 refine c_region ?_
 refine g_v rfl r_move ?_
 refine g_v rfl (r_lenL Try.underlying58 rfl) ?_
 refine g_v rfl r_move ?_
 refine g_nil ?_
 refine d_then ?_
 refine c_cut (ι := Int × Int × (List Int) × ByteArray × Int × Int × (List GEntry) × Option Addr × Nat × Option Addr × Nat) [2, 4] (fun ⟨i89, i90, l91, s95, i96, i97, l98, A92, c93, A99, c100⟩ => []) (fun ⟨i89, i90, l91, s95, i96, i97, l98, A92, c93, A99, c100⟩ => ⟨w0, M, (100040, g2, .cells #[.int .i64 i89, .int .i64 i90, .slice A92 l91.length c93, .string s95, .int .i64 i96, .int .i64 i97, .slice A99 l98.length c100] 44 (0, 0)) :: (100020, g1, .cells #[.int .i64 0, .int .i64 0, .slice none 0 0, .string (⟨#[]⟩ : ByteArray), .int .i64 0, .int .i64 0, .slice none 0 0] 44 (0, 0)) :: H, R, fun W => φ W ∧ Cl W A92 (l91.flatMap (fun x : Int => [Value.int .i64 x])) ∧ Cl W A99 (l98.flatMap GEntry.enc)⟩) (fun ⟨i89, i90, l91, s95, i96, i97, l98, A92, c93, A99, c100⟩ => m_plog_Load_j1 i89 i90 l91 s95 i96 i97 l98 = some r ∧ l91.length ≤ c93 ∧ l98.length ≤ c100) ?_ (fun ⟨i89, i90, l91, s95, i96, i97, l98, A92, c93, A99, c100⟩ u ⟨hm, hc93, hc100⟩ => ?_)
 ·
  refine c_block ?_
  replace hm := bnd hm
  obtain ⟨out2, hl2, hr2⟩ := hm
  obtain ⟨n197', hl2⟩ := loop_lp hl2
  refine c_loopU (ι := Nat × Int × Int × Int × (List Int) × ByteArray × Int × Int × (List GEntry) × Option Addr × Nat × Option Addr × Nat) [2, 4, 9, 10, 11] (fun ⟨n197, i147, i148, i149, l150, s154, i155, i156, l157, A151, c152, A158, c159⟩ => [(11, .int .i64 i147)]) (fun ⟨n197, i147, i148, i149, l150, s154, i155, i156, l157, A151, c152, A158, c159⟩ => ⟨w0, M, (100040, g2, .cells #[.int .i64 i148, .int .i64 i149, .slice A151 l150.length c152, .string s154, .int .i64 i155, .int .i64 i156, .slice A158 l157.length c159] 44 (0, 0)) :: (100020, g1, .cells #[.int .i64 0, .int .i64 0, .slice none 0 0, .string (⟨#[]⟩ : ByteArray), .int .i64 0, .int .i64 0, .slice none 0 0] 44 (0, 0)) :: H, R, fun W => φ W ∧ Cl W A151 (l150.flatMap (fun x : Int => [Value.int .i64 x])) ∧ Cl W A158 (l157.flatMap GEntry.enc)⟩) (fun ⟨n197, i147, i148, i149, l150, s154, i155, i156, l157, A151, c152, A158, c159⟩ => Lp (fun s => m_plog_Load_s2 p0 s.1 s.2.1 s.2.2.1 s.2.2.2.1 s.2.2.2.2.1 s.2.2.2.2.2.1 s.2.2.2.2.2.2.1 s.2.2.2.2.2.2.2) n197 (i147, i148, i149, l150, s154, i155, i156, l157) out2 ∧ l150.length ≤ c152 ∧ l157.length ≤ c159) (fun ⟨n197, i147, i148, i149, l150, s154, i155, i156, l157, A151, c152, A158, c159⟩ => n197) (n197', 0, 0, 0, ([] : List Int), (⟨#[]⟩ : ByteArray), 0, 0, ([] : List GEntry), none, 0, none, 0) ⟨hl2, (Nat.le_refl 0), (Nat.le_refl 0)⟩ ⟨rfl, rfl, rfl, rfl, rfl, trivial⟩ (fun W h => h.phi (fun W hφ => ⟨hφ, (fun W _ => Cl.nil _ _) W hφ, (fun W _ => Cl.nil _ _) W hφ⟩)) (fun ⟨n197, i147, i148, i149, l150, s154, i155, i156, l157, A151, c152, A158, c159⟩ u ⟨hlp, hc152, hc159⟩ => ?_)
  obtain ⟨o2, hm, hnx2⟩ := lp_step hlp
  clear hlp
  replace hm : m_plog_Load_s2 p0 i147 i148 i149 l150 s154 i155 i156 l157 = some o2 := hm
  unfold m_plog_Load_s2 at hm
  refine c_abs (fun φ198 q198' => ?_)
  have q198 : ∀ W, φ198 W → φ W := fun W h => (q198' W h).1
  have f153 := fun (W : World) (h : φ198 W) => (q198' W h).2.1
  have f160 := fun (W : World) (h : φ198 W) => (q198' W h).2.2
  refine c_flat [(2, .pointer (some ⟨g1, 0, none⟩)), (4, .pointer (some ⟨g2, 0, none⟩)), (9, .slice Ap0_0 p0.length cp0_0), (10, .int .i64 (p0.length : Int)), (11, .int .i64 i147)] ⟨rfl, rfl, rfl, rfl, rfl, trivial⟩ (fun u => ?_)
  refine c_sta ⟨w0, M, (100040, g2, .cells #[.int .i64 i148, .int .i64 i149, .slice A151 l150.length c152, .string s154, .int .i64 i155, .int .i64 i156, .slice A158 l157.length c159] 44 (0, 0)) :: (100020, g1, .cells #[.int .i64 0, .int .i64 0, .slice none 0 0, .string (⟨#[]⟩ : ByteArray), .int .i64 0, .int .i64 0, .slice none 0 0] 44 (0, 0)) :: H, R, φ198⟩ (fun _ h => h) ?_
  refine c_seq ?_
  refine c_region ?_
  refine g_v rfl (r_lss rfl rfl) ?_
  refine g_nil ?_
  refine d_then ?_
  refine c_seq ?_
  refine c_cond rfl (fun h199 => ?_) (fun h199 => ?_)
  ·
   replace hm := ite_t hm (of_decide_eq_true h199)
   refine c_skip ?_
   refine d_then ?_
   refine c_seq ?_
   refine c_block ?_
   refine c_seq ?_
   refine c_region ?_
   refine g_v rfl r_move ?_
   replace hm := bnd hm
   obtain ⟨x200, hx200, hm⟩ := hm
   refine g_know _ (fun W hS => cl_at (p := (Sta.mk w0 M H R φ).ok) (sz := 1) (fun _ => rfl) (by decide) (ok_pre (H1 := [_, _]) (R1 := []) hS (fun W h => (q198 _ h))) fp0_0 hx200) ?_
   rintro ⟨ad201, hA203, f202⟩
   refine g_v rfl (r_ix Try.underlying58 Try.sizeOf9 rfl hA203 rfl hx200) ?_
   refine g_v rfl (r_ld rfl Try.isAgg9 (fun W hS => Cl.head (f202 W (ok_pre (H1 := [_, _]) (R1 := []) hS (fun W h => (q198 _ h)))))) ?_
   refine g_v rfl r_assign ?_
   refine g_v rfl r_assign ?_
   refine g_nil ?_
   refine d_then ?_
   refine c_seq ?_
   refine c_cut (ι := Unit) [2, 4, 6, 9, 10, 11] (fun _ => []) (fun _ => ⟨w0, M, (100040, g2, .cells #[.int .i64 i148, .int .i64 i149, .slice A151 l150.length c152, .string s154, .int .i64 i155, .int .i64 i156, .slice A158 l157.length c159] 44 (0, 0)) :: (100020, g1, .cells #[.int .i64 0, .int .i64 0, .slice none 0 0, .string (⟨#[]⟩ : ByteArray), .int .i64 0, .int .i64 0, .slice none 0 0] 44 (0, 0)) :: H, R, φ198⟩) (fun _ => m_plog_Load_j3 i148 i149 l150 s154 i155 i156 l157 x200 i147 = some o2) ?_ (fun _ u hm => ?_)
   ·
    refine c_seq ?_
    refine c_region ?_
    refine g_v rfl r_move ?_
    refine g_v rfl (r_eqlT rfl rfl) ?_
    refine g_v rfl r_move ?_
    refine g_if rfl rfl rfl rfl rfl (fun h222 => ?_) (fun h222 => ?_)
    ·
     replace hm := ite_f hm (of_decide_eq_false h222)
     refine g_v rfl r_move ?_
     refine g_do rfl rfl rfl rfl rfl h222 ?_
     refine g_v rfl (r_eql rfl rfl) ?_
     refine g_do rfl rfl rfl rfl rfl h222 ?_
     refine g_v rfl r_move ?_
     refine g_if rfl rfl rfl rfl rfl (fun h223 => ?_) (fun h223 => ?_)
     ·
      replace hm := ite_t hm (of_decide_eq_true h223)
      refine g_v rfl r_move ?_
      refine g_do rfl rfl rfl rfl rfl h223 ?_
      replace hm := bnd hm
      obtain ⟨b224, hb224, hm⟩ := hm
      refine g_v rfl (r_sat Try.underlying9 rfl rfl hb224) ?_
      refine g_do rfl rfl rfl rfl rfl h223 ?_
      refine g_v rfl (r_neq rfl rfl) ?_
      refine g_do rfl rfl rfl rfl rfl h222 ?_
      refine g_v rfl (r_pick1 rfl h223) ?_
      refine g_v rfl (r_pick0 rfl h222) ?_
      refine g_nil ?_
      refine d_then ?_
      refine c_flat [(2, .pointer (some ⟨g1, 0, none⟩)), (4, .pointer (some ⟨g2, 0, none⟩)), (6, .string x200), (9, .slice Ap0_0 p0.length cp0_0), (10, .int .i64 (p0.length : Int)), (11, .int .i64 i147), (26, .bool (decide (b224 ≠ 87)))] ⟨rfl, rfl, rfl, rfl, rfl, rfl, rfl, trivial⟩ (fun u => ?_)
      refine c_sta ⟨w0, M, (100040, g2, .cells #[.int .i64 i148, .int .i64 i149, .slice A151 l150.length c152, .string s154, .int .i64 i155, .int .i64 i156, .slice A158 l157.length c159] 44 (0, 0)) :: (100020, g1, .cells #[.int .i64 0, .int .i64 0, .slice none 0 0, .string (⟨#[]⟩ : ByteArray), .int .i64 0, .int .i64 0, .slice none 0 0] 44 (0, 0)) :: H, R, φ198⟩ (fun _ h => h) ?_
      refine c_cond rfl (fun h225 => ?_) (fun h225 => ?_)
      ·
       replace hm := ite_t hm (of_decide_eq_true h225)
       refine c_seq ?_
       refine c_region ?_
       refine g_v rfl (r_build _ rfl (bld44_7)) ?_
       refine g_storeL (tag := 100020) rfl rfl rfl rfl Try.sizeOf44 rfl rfl ?_
       refine g_v rfl r_assign ?_
       refine g_nil ?_
       refine d_then ?_
       refine c_ret ?_
       refine d_ret_then ?_
       refine d_ret_then ?_
       refine d_ret_block ?_
       refine d_ret_then ?_
       refine d_ret_then ?_
       refine d_ret_block ?_
       refine d_ret_then ?_
       refine d_ret_then ?_
       replace hm := nx_out (C := (fun e => Sum.elim (fun e => m_plog_Load_j1 e.1 e.2.1 e.2.2.1 e.2.2.2.1 e.2.2.2.2.1 e.2.2.2.2.2.1 e.2.2.2.2.2.2) (fun x => some x) e = some r)) hm hnx2 hr2
       replace hm : some ((⟨0, 0, ([] : List Int), (⟨#[]⟩ : ByteArray), (⟨0, 0, ([] : List GEntry)⟩ : GLog)⟩ : GHard), 10) = some r := hm
       replace hm := Option.some.inj hm
       subst hm
       refine d_retC (none, 0, none, 0) Try.results67 ?_ ⟨(Nat.le_refl 0), (Nat.le_refl 0)⟩ (fun W h => ok_pre (H1 := [_, _]) (R1 := []) h (fun W hφ => ⟨(q198 _ hφ), (fun W _ => Cl.nil _ _) W hφ, (fun W _ => Cl.nil _ _) W hφ⟩)) (.inr rfl)
       refine res_agg (tag := 100020) rfl rfl Try.isAgg44 Try.sizeOf44 ?_
       refine res_tmp ?_
       refine res_nil ?_
       exact rfl
      ·
       replace hm := ite_f hm (of_decide_eq_false h225)
       refine c_skip ?_
       exact d_round () hm Nat.zero_lt_one ⟨rfl, rfl, rfl, rfl, rfl, rfl, trivial⟩ (fun W h => h.phi (fun W hφ => hφ))
     ·
      replace hm := ite_f hm (of_decide_eq_false h223)
      refine g_no rfl rfl rfl rfl rfl h223 ?_
      refine g_no rfl rfl rfl rfl rfl h223 ?_
      refine g_do rfl rfl rfl rfl rfl h222 ?_
      refine g_v rfl (r_pick0 rfl h223) ?_
      refine g_v rfl (r_pick0 rfl h222) ?_
      refine g_nil ?_
      refine d_then ?_
      refine c_flat [(2, .pointer (some ⟨g1, 0, none⟩)), (4, .pointer (some ⟨g2, 0, none⟩)), (6, .string x200), (9, .slice Ap0_0 p0.length cp0_0), (10, .int .i64 (p0.length : Int)), (11, .int .i64 i147), (26, .bool false)] ⟨rfl, rfl, rfl, rfl, rfl, rfl, rfl, trivial⟩ (fun u => ?_)
      refine c_sta ⟨w0, M, (100040, g2, .cells #[.int .i64 i148, .int .i64 i149, .slice A151 l150.length c152, .string s154, .int .i64 i155, .int .i64 i156, .slice A158 l157.length c159] 44 (0, 0)) :: (100020, g1, .cells #[.int .i64 0, .int .i64 0, .slice none 0 0, .string (⟨#[]⟩ : ByteArray), .int .i64 0, .int .i64 0, .slice none 0 0] 44 (0, 0)) :: H, R, φ198⟩ (fun _ h => h) ?_
      refine c_cond0 rfl rfl ?_
      refine c_skip ?_
      exact d_round () hm Nat.zero_lt_one ⟨rfl, rfl, rfl, rfl, rfl, rfl, trivial⟩ (fun W h => h.phi (fun W hφ => hφ))
    ·
     replace hm := ite_t hm (of_decide_eq_true h222)
     refine g_no rfl rfl rfl rfl rfl h222 ?_
     refine g_no rfl rfl rfl rfl rfl h222 ?_
     refine g_nu rfl rfl rfl rfl rfl ?_
     refine g_nu rfl rfl rfl rfl rfl ?_
     refine g_nu rfl rfl rfl rfl rfl ?_
     refine g_no rfl rfl rfl rfl rfl h222 ?_
     refine g_v rfl (r_pick1 rfl h222) ?_
     refine g_nil ?_
     refine d_then ?_
     refine c_flat [(2, .pointer (some ⟨g1, 0, none⟩)), (4, .pointer (some ⟨g2, 0, none⟩)), (6, .string x200), (9, .slice Ap0_0 p0.length cp0_0), (10, .int .i64 (p0.length : Int)), (11, .int .i64 i147), (26, .bool true)] ⟨rfl, rfl, rfl, rfl, rfl, rfl, rfl, trivial⟩ (fun u => ?_)
     refine c_sta ⟨w0, M, (100040, g2, .cells #[.int .i64 i148, .int .i64 i149, .slice A151 l150.length c152, .string s154, .int .i64 i155, .int .i64 i156, .slice A158 l157.length c159] 44 (0, 0)) :: (100020, g1, .cells #[.int .i64 0, .int .i64 0, .slice none 0 0, .string (⟨#[]⟩ : ByteArray), .int .i64 0, .int .i64 0, .slice none 0 0] 44 (0, 0)) :: H, R, φ198⟩ (fun _ h => h) ?_
     refine c_cond1 rfl rfl ?_
     refine c_seq ?_
     refine c_region ?_
     refine g_v rfl (r_build _ rfl (bld44_7)) ?_
     refine g_storeL (tag := 100020) rfl rfl rfl rfl Try.sizeOf44 rfl rfl ?_
     refine g_v rfl r_assign ?_
     refine g_nil ?_
     refine d_then ?_
     refine c_ret ?_
     refine d_ret_then ?_
     refine d_ret_then ?_
     refine d_ret_block ?_
     refine d_ret_then ?_
     refine d_ret_then ?_
     refine d_ret_block ?_
     refine d_ret_then ?_
     refine d_ret_then ?_
     replace hm := nx_out (C := (fun e => Sum.elim (fun e => m_plog_Load_j1 e.1 e.2.1 e.2.2.1 e.2.2.2.1 e.2.2.2.2.1 e.2.2.2.2.2.1 e.2.2.2.2.2.2) (fun x => some x) e = some r)) hm hnx2 hr2
     replace hm : some ((⟨0, 0, ([] : List Int), (⟨#[]⟩ : ByteArray), (⟨0, 0, ([] : List GEntry)⟩ : GLog)⟩ : GHard), 10) = some r := hm
     replace hm := Option.some.inj hm
     subst hm
     refine d_retC (none, 0, none, 0) Try.results67 ?_ ⟨(Nat.le_refl 0), (Nat.le_refl 0)⟩ (fun W h => ok_pre (H1 := [_, _]) (R1 := []) h (fun W hφ => ⟨(q198 _ hφ), (fun W _ => Cl.nil _ _) W hφ, (fun W _ => Cl.nil _ _) W hφ⟩)) (.inr rfl)
     refine res_agg (tag := 100020) rfl rfl Try.isAgg44 Try.sizeOf44 ?_
     refine res_tmp ?_
     refine res_nil ?_
     exact rfl
   ·
    unfold m_plog_Load_j3 at hm
    refine d_flat [(2, .pointer (some ⟨g1, 0, none⟩)), (4, .pointer (some ⟨g2, 0, none⟩)), (6, .string x200), (9, .slice Ap0_0 p0.length cp0_0), (10, .int .i64 (p0.length : Int)), (11, .int .i64 i147)] ⟨rfl, rfl, rfl, rfl, rfl, rfl, trivial⟩ (fun u => ?_)
    refine d_sta ⟨w0, M, (100040, g2, .cells #[.int .i64 i148, .int .i64 i149, .slice A151 l150.length c152, .string s154, .int .i64 i155, .int .i64 i156, .slice A158 l157.length c159] 44 (0, 0)) :: (100020, g1, .cells #[.int .i64 0, .int .i64 0, .slice none 0 0, .string (⟨#[]⟩ : ByteArray), .int .i64 0, .int .i64 0, .slice none 0 0] 44 (0, 0)) :: H, R, φ198⟩ (fun _ h => h) ?_
    refine d_then ?_
    refine c_seq ?_
    refine c_region ?_
    refine g_v rfl (r_loadA (tag := 100040) rfl rfl Try.isAgg44 Try.sizeOf44 rfl rfl) ?_
    refine g_v rfl r_move ?_
    replace hm := bnd hm
    obtain ⟨⟨x208, x209⟩, hx210, hm⟩ := hm
    refine g_cn ⟨w0, M, _, _, φ198⟩ (fun _ h => h) Try.call93 rfl rfl (c_plog_read (⟨i148, i149, l150, s154, (⟨i155, i156, l157⟩ : GLog)⟩ : GHard) A151 c152 hc152 (fun W h => f153 W h) A158 c159 hc159 (fun W h => f160 W h) x200 _ hx210) (fun ⟨A211, c212, A214, c215⟩ ⟨hc212, hc215⟩ => ?_)
    refine g_abs (fun φ217 q217' => ?_)
    have q217 : ∀ W, φ217 W → φ198 W := fun W h => (q217' W h).1
    have f213 := fun (W : World) (h : φ217 W) => (q217' W h).2.1
    have f216 := fun (W : World) (h : φ217 W) => (q217' W h).2.2
    refine g_v rfl r_move ?_
    refine g_v rfl (r_extract rfl rfl) ?_
    refine g_v rfl (r_extract rfl rfl) ?_
    refine g_e rfl (e_alloc 100070 Try.zeroValue44) (fun g219 _ => ?_)
    refine g_storeL (tag := 100070) rfl rfl rfl rfl Try.sizeOf44 rfl rfl ?_
    refine g_v rfl r_assign ?_
    refine g_nil ?_
    refine d_then ?_
    refine c_flat [(2, .pointer (some ⟨g1, 0, none⟩)), (4, .pointer (some ⟨g2, 0, none⟩)), (7, .pointer (some ⟨g219, 0, none⟩)), (8, .bool x209), (9, .slice Ap0_0 p0.length cp0_0), (10, .int .i64 (p0.length : Int)), (11, .int .i64 i147)] ⟨rfl, rfl, rfl, rfl, rfl, rfl, rfl, trivial⟩ (fun u => ?_)
    refine c_sta ⟨w0, M, (100070, g219, .cells #[.int .i64 x208.fTerm, .int .i64 x208.fVote, .slice A211 x208.fVoters.length c212, .string x208.fSnap, .int .i64 x208.fLog.fBase, .int .i64 x208.fLog.fBaseTerm, .slice A214 x208.fLog.fEntries.length c215] 44 (0, 0)) :: (100040, g2, .cells #[.int .i64 i148, .int .i64 i149, .slice A151 l150.length c152, .string s154, .int .i64 i155, .int .i64 i156, .slice A158 l157.length c159] 44 (0, 0)) :: (100020, g1, .cells #[.int .i64 0, .int .i64 0, .slice none 0 0, .string (⟨#[]⟩ : ByteArray), .int .i64 0, .int .i64 0, .slice none 0 0] 44 (0, 0)) :: H, R, φ217⟩ (fun _ h => h) ?_
    refine c_seq ?_
    refine c_seq ?_
    refine c_region ?_
    refine g_v rfl r_move ?_
    refine g_v rfl (r_not rfl) ?_
    refine g_nil ?_
    refine d_then ?_
    refine c_cond rfl (fun h220 => ?_) (fun h220 => ?_)
    ·
     have h220' : x209 = false := by revert h220; cases x209 <;> simp
     replace hm := ite_f hm (bool_nt h220')
     refine c_seq ?_
     refine c_region ?_
     refine g_v rfl (r_build _ rfl (bld44_7)) ?_
     refine g_storeL (tag := 100020) rfl rfl rfl rfl Try.sizeOf44 rfl rfl ?_
     refine g_v rfl r_assign ?_
     refine g_nil ?_
     refine d_then ?_
     refine c_ret ?_
     refine d_ret_then ?_
     refine d_ret_block ?_
     refine d_ret_then ?_
     refine d_ret_then ?_
     refine d_ret_block ?_
     refine d_ret_then ?_
     refine d_ret_then ?_
     replace hm := nx_out (C := (fun e => Sum.elim (fun e => m_plog_Load_j1 e.1 e.2.1 e.2.2.1 e.2.2.2.1 e.2.2.2.2.1 e.2.2.2.2.2.1 e.2.2.2.2.2.2) (fun x => some x) e = some r)) hm hnx2 hr2
     replace hm : some ((⟨0, 0, ([] : List Int), (⟨#[]⟩ : ByteArray), (⟨0, 0, ([] : List GEntry)⟩ : GLog)⟩ : GHard), 10) = some r := hm
     replace hm := Option.some.inj hm
     subst hm
     refine d_retC (none, 0, none, 0) Try.results67 ?_ ⟨(Nat.le_refl 0), (Nat.le_refl 0)⟩ (fun W h => ok_pre (H1 := [_, _, _]) (R1 := []) h (fun W hφ => ⟨(q198 _ (q217 _ hφ)), (fun W _ => Cl.nil _ _) W hφ, (fun W _ => Cl.nil _ _) W hφ⟩)) (.inr rfl)
     refine res_agg (tag := 100020) rfl rfl Try.isAgg44 Try.sizeOf44 ?_
     refine res_tmp ?_
     refine res_nil ?_
     exact rfl
    ·
     have h220' : x209 = true := by revert h220; cases x209 <;> simp
     replace hm := ite_t hm h220'
     refine c_skip ?_
     refine d_then ?_
     refine c_region ?_
     refine g_v rfl (r_loadA (tag := 100070) rfl rfl Try.isAgg44 Try.sizeOf44 rfl rfl) ?_
     refine g_storeL (tag := 100040) rfl rfl rfl rfl Try.sizeOf44 rfl rfl ?_
     refine g_nil ?_
     refine d_normal_block ?_
     refine d_then ?_
     refine c_region ?_
     refine g_v rfl (r_add rfl rfl rfl) ?_
     refine g_v rfl r_move ?_
     refine g_nil ?_
     obtain ⟨n221, hn221, hlp⟩ := nx_inl hm hnx2
     exact d_round (n221, w64 (i147 + 1), x208.fTerm, x208.fVote, x208.fVoters, x208.fSnap, x208.fLog.fBase, x208.fLog.fBaseTerm, x208.fLog.fEntries, A211, c212, A214, c215) ⟨hlp, hc212, hc215⟩ hn221 ⟨rfl, rfl, rfl, rfl, rfl, trivial⟩ (fun W h => (h.dropH (t := 100070) rfl).phi (fun W hφ => ⟨(q198 _ (q217 _ hφ)), (fun W h => f213 W h) W hφ, (fun W h => f216 W h) W hφ⟩))
  ·
   replace hm := ite_f hm (of_decide_eq_false h199)
   refine c_exit ?_
   refine d_exit_then ?_
   refine d_exit_then ?_
   refine d_exit_block ?_
   replace hm := nx_out (C := (fun e => Sum.elim (fun e => m_plog_Load_j1 e.1 e.2.1 e.2.2.1 e.2.2.2.1 e.2.2.2.2.1 e.2.2.2.2.2.1 e.2.2.2.2.2.2) (fun x => some x) e = some r)) hm hnx2 hr2
   exact d_round (i148, i149, l150, s154, i155, i156, l157, A151, c152, A158, c159) ⟨hm, hc152, hc159⟩ Nat.zero_lt_one ⟨rfl, rfl, trivial⟩ (fun W h => h.phi (fun W hφ => ⟨(q198 _ hφ), (fun W h => f153 W h) W hφ, (fun W h => f160 W h) W hφ⟩))
 ·
  unfold m_plog_Load_j1 at hm
  refine d_abs (fun φ102 q102' => ?_)
  have q102 : ∀ W, φ102 W → φ W := fun W h => (q102' W h).1
  have f94 := fun (W : World) (h : φ102 W) => (q102' W h).2.1
  have f101 := fun (W : World) (h : φ102 W) => (q102' W h).2.2
  refine d_flat [(2, .pointer (some ⟨g1, 0, none⟩)), (4, .pointer (some ⟨g2, 0, none⟩))] ⟨rfl, rfl, trivial⟩ (fun u => ?_)
  refine d_sta ⟨w0, M, (100040, g2, .cells #[.int .i64 i89, .int .i64 i90, .slice A92 l91.length c93, .string s95, .int .i64 i96, .int .i64 i97, .slice A99 l98.length c100] 44 (0, 0)) :: (100020, g1, .cells #[.int .i64 0, .int .i64 0, .slice none 0 0, .string (⟨#[]⟩ : ByteArray), .int .i64 0, .int .i64 0, .slice none 0 0] 44 (0, 0)) :: H, R, φ102⟩ (fun _ h => h) ?_
  refine d_then ?_
  refine c_seq ?_
  refine c_seq ?_
  refine c_region ?_
  refine g_v rfl (r_field (n := 4) Try.underlying44 rfl Try.sizeOf26 rfl rfl) ?_
  refine g_v rfl (r_loadA (tag := 100040) rfl rfl Try.isAgg26 Try.sizeOf26 rfl rfl) ?_
  replace hm := bnd hm
  obtain ⟨x103, hx104, hm⟩ := hm
  refine g_cn ⟨w0, M, _, _, φ102⟩ (fun _ h => h) Try.call19 rfl rfl (c_plog_Check (⟨i96, i97, l98⟩ : GLog) A99 c100 hc100 (fun W hS => f101 W hS.now) _ hx104) (fun _ _ => ?_)
  refine g_v rfl (r_neq rfl rfl) ?_
  refine g_v rfl r_move ?_
  refine g_if rfl rfl rfl rfl rfl (fun h105 => ?_) (fun h105 => ?_)
  ·
   replace hm := ite_f hm (of_decide_eq_false h105)
   refine g_v rfl (r_field (n := 0) Try.underlying44 rfl Try.sizeOf3 rfl rfl) ?_
   refine g_do rfl rfl rfl rfl rfl h105 ?_
   refine g_v rfl (r_load (tag := 100040) rfl rfl rfl Try.isAgg3) ?_
   refine g_do rfl rfl rfl rfl rfl h105 ?_
   replace hm := bnd hm
   obtain ⟨x106, hx107, hm⟩ := hm
   refine g_cn ⟨w0, M, _, _, φ102⟩ (fun _ h => h) Try.call71 rfl rfl (c_plog_within i89 _ hx107) (fun _ _ => ?_)
   refine g_do rfl rfl rfl rfl rfl h105 ?_
   refine g_v rfl (r_not rfl) ?_
   refine g_v rfl (r_pick0 rfl h105) ?_
   refine g_v rfl r_move ?_
   refine g_if rfl rfl rfl rfl rfl (fun h108 => ?_) (fun h108 => ?_)
   ·
    have h108' : x106 = true := by revert h108; cases x106 <;> simp
    replace hm := ite_t hm h108'
    refine g_v rfl (r_field (n := 1) Try.underlying44 rfl Try.sizeOf3 rfl rfl) ?_
    refine g_do rfl rfl rfl rfl rfl h108 ?_
    refine g_v rfl (r_load (tag := 100040) rfl rfl rfl Try.isAgg3) ?_
    refine g_do rfl rfl rfl rfl rfl h108 ?_
    replace hm := bnd hm
    obtain ⟨x109, hx110, hm⟩ := hm
    refine g_cn ⟨w0, M, _, _, φ102⟩ (fun _ h => h) Try.call71 rfl rfl (c_plog_within i90 _ hx110) (fun _ _ => ?_)
    refine g_do rfl rfl rfl rfl rfl h108 ?_
    refine g_v rfl (r_not rfl) ?_
    refine g_v rfl (r_pick0 rfl h108) ?_
    refine g_nil ?_
    refine d_then ?_
    refine c_flat [(2, .pointer (some ⟨g1, 0, none⟩)), (4, .pointer (some ⟨g2, 0, none⟩)), (54, .bool (!x109))] ⟨rfl, rfl, rfl, trivial⟩ (fun u => ?_)
    refine c_sta ⟨w0, M, (100040, g2, .cells #[.int .i64 i89, .int .i64 i90, .slice A92 l91.length c93, .string s95, .int .i64 i96, .int .i64 i97, .slice A99 l98.length c100] 44 (0, 0)) :: (100020, g1, .cells #[.int .i64 0, .int .i64 0, .slice none 0 0, .string (⟨#[]⟩ : ByteArray), .int .i64 0, .int .i64 0, .slice none 0 0] 44 (0, 0)) :: H, R, φ102⟩ (fun _ h => h) ?_
    refine c_cond rfl (fun h111 => ?_) (fun h111 => ?_)
    ·
     have h111' : x109 = false := by revert h111; cases x109 <;> simp
     replace hm := ite_f hm (bool_nt h111')
     refine c_seq ?_
     refine c_region ?_
     refine g_v rfl (r_build _ rfl (bld44_7)) ?_
     refine g_storeL (tag := 100020) rfl rfl rfl rfl Try.sizeOf44 rfl rfl ?_
     refine g_v rfl r_assign ?_
     refine g_nil ?_
     refine d_then ?_
     refine c_ret ?_
     refine d_ret_then ?_
     replace hm := Option.some.inj hm
     subst hm
     refine d_retC (none, 0, none, 0) Try.results67 ?_ ⟨(Nat.le_refl 0), (Nat.le_refl 0)⟩ (fun W h => ok_pre (H1 := [_, _]) (R1 := []) h (fun W hφ => ⟨(q102 _ hφ), (fun W _ => Cl.nil _ _) W hφ, (fun W _ => Cl.nil _ _) W hφ⟩)) (.inr rfl)
     refine res_agg (tag := 100020) rfl rfl Try.isAgg44 Try.sizeOf44 ?_
     refine res_tmp ?_
     refine res_nil ?_
     exact rfl
    ·
     have h111' : x109 = true := by revert h111; cases x109 <;> simp
     replace hm := ite_t hm h111'
     refine c_skip ?_
     refine d_then ?_
     refine c_seq ?_
     refine c_region ?_
     refine g_v rfl (r_loadA (tag := 100040) rfl rfl Try.isAgg44 Try.sizeOf44 rfl rfl) ?_
     refine g_storeL (tag := 100020) rfl rfl rfl rfl Try.sizeOf44 rfl rfl ?_
     refine g_v rfl r_assign ?_
     refine g_nil ?_
     refine d_then ?_
     refine c_ret ?_
     replace hm := Option.some.inj hm
     subst hm
     refine d_retC (A92, c93, A99, c100) Try.results67 ?_ ⟨hc93, hc100⟩ (fun W h => ok_pre (H1 := [_, _]) (R1 := []) h (fun W hφ => ⟨(q102 _ hφ), (fun W h => f94 W h) W hφ, (fun W h => f101 W h) W hφ⟩)) (.inr rfl)
     refine res_agg (tag := 100020) rfl rfl Try.isAgg44 Try.sizeOf44 ?_
     refine res_tmp ?_
     refine res_nil ?_
     exact rfl
   ·
    have h108' : x106 = false := by revert h108; cases x106 <;> simp
    replace hm := ite_f hm (bool_nt h108')
    refine g_no rfl rfl rfl rfl rfl h108 ?_
    refine g_no rfl rfl rfl rfl rfl h108 ?_
    refine g_no rfl rfl rfl rfl rfl h108 ?_
    refine g_v rfl (r_pick1 rfl h108) ?_
    refine g_nil ?_
    refine d_then ?_
    refine c_flat [(2, .pointer (some ⟨g1, 0, none⟩)), (4, .pointer (some ⟨g2, 0, none⟩)), (54, .bool true)] ⟨rfl, rfl, rfl, trivial⟩ (fun u => ?_)
    refine c_sta ⟨w0, M, (100040, g2, .cells #[.int .i64 i89, .int .i64 i90, .slice A92 l91.length c93, .string s95, .int .i64 i96, .int .i64 i97, .slice A99 l98.length c100] 44 (0, 0)) :: (100020, g1, .cells #[.int .i64 0, .int .i64 0, .slice none 0 0, .string (⟨#[]⟩ : ByteArray), .int .i64 0, .int .i64 0, .slice none 0 0] 44 (0, 0)) :: H, R, φ102⟩ (fun _ h => h) ?_
    refine c_cond1 rfl rfl ?_
    refine c_seq ?_
    refine c_region ?_
    refine g_v rfl (r_build _ rfl (bld44_7)) ?_
    refine g_storeL (tag := 100020) rfl rfl rfl rfl Try.sizeOf44 rfl rfl ?_
    refine g_v rfl r_assign ?_
    refine g_nil ?_
    refine d_then ?_
    refine c_ret ?_
    refine d_ret_then ?_
    replace hm := Option.some.inj hm
    subst hm
    refine d_retC (none, 0, none, 0) Try.results67 ?_ ⟨(Nat.le_refl 0), (Nat.le_refl 0)⟩ (fun W h => ok_pre (H1 := [_, _]) (R1 := []) h (fun W hφ => ⟨(q102 _ hφ), (fun W _ => Cl.nil _ _) W hφ, (fun W _ => Cl.nil _ _) W hφ⟩)) (.inr rfl)
    refine res_agg (tag := 100020) rfl rfl Try.isAgg44 Try.sizeOf44 ?_
    refine res_tmp ?_
    refine res_nil ?_
    exact rfl
  ·
   replace hm := ite_t hm (of_decide_eq_true h105)
   refine g_no rfl rfl rfl rfl rfl h105 ?_
   refine g_no rfl rfl rfl rfl rfl h105 ?_
   refine g_no rfl rfl rfl rfl rfl h105 ?_
   refine g_v rfl (r_pick1 rfl h105) ?_
   refine g_v rfl r_move ?_
   refine g_no rfl rfl rfl rfl rfl rfl ?_
   refine g_no rfl rfl rfl rfl rfl rfl ?_
   refine g_no rfl rfl rfl rfl rfl rfl ?_
   refine g_no rfl rfl rfl rfl rfl rfl ?_
   refine g_v rfl (r_pick1 rfl rfl) ?_
   refine g_nil ?_
   refine d_then ?_
   refine c_cond1 rfl rfl ?_
   refine c_seq ?_
   refine c_region ?_
   refine g_v rfl (r_build _ rfl (bld44_7)) ?_
   refine g_storeL (tag := 100020) rfl rfl rfl rfl Try.sizeOf44 rfl rfl ?_
   refine g_v rfl r_assign ?_
   refine g_nil ?_
   refine d_then ?_
   refine c_flat [(2, .pointer (some ⟨g1, 0, none⟩)), (3, .int .i64 10)] ⟨rfl, rfl, trivial⟩ (fun u => ?_)
   refine c_sta ⟨w0, M, (100040, g2, .cells #[.int .i64 i89, .int .i64 i90, .slice A92 l91.length c93, .string s95, .int .i64 i96, .int .i64 i97, .slice A99 l98.length c100] 44 (0, 0)) :: (100020, g1, .cells #[.int .i64 0, .int .i64 0, .slice none 0 0, .string (⟨#[]⟩ : ByteArray), .int .i64 0, .int .i64 0, .slice none 0 0] 44 (0, 0)) :: H, R, φ102⟩ (fun _ h => h) ?_
   refine c_ret ?_
   refine d_ret_then ?_
   replace hm := Option.some.inj hm
   subst hm
   refine d_retC (none, 0, none, 0) Try.results67 ?_ ⟨(Nat.le_refl 0), (Nat.le_refl 0)⟩ (fun W h => ok_pre (H1 := [_, _]) (R1 := []) h (fun W hφ => ⟨(q102 _ hφ), (fun W _ => Cl.nil _ _) W hφ, (fun W _ => Cl.nil _ _) W hφ⟩)) (.inr rfl)
   refine res_agg (tag := 100020) rfl rfl Try.isAgg44 Try.sizeOf44 ?_
   refine res_tmp ?_
   refine res_nil ?_
   exact rfl

structure Gref11_reader where
  fs : ByteArray
  fbad : Bool
  deriving DecidableEq
def Gref11_reader.enc (e : Gref11_reader) : List Value := [.string e.fs, .bool e.fbad]
theorem bld137_8 (z0 : ByteArray) : ∀ W, (Instr.build 137 #[(0, .string z0)]).run Try.prog W = .ok (.agg #[.string z0, .bool false]) W := fun _ => by kernel_rfl
noncomputable def m_ref11_reader_take (p1 : Int) (o0 : Gref11_reader) : Option (ByteArray × Gref11_reader) :=
  if p1 < 0 then
    some ((⟨#[]⟩ : ByteArray), (⟨o0.fs, true⟩ : Gref11_reader))
  else
    if (o0.fs.size : Int) < p1 then
      some ((⟨#[]⟩ : ByteArray), (⟨o0.fs, true⟩ : Gref11_reader))
    else
      (scutHi o0.fs p1).bind fun s3 =>
      (scutLo o0.fs p1).bind fun s4 =>
      some (s3, (⟨s4, o0.fbad⟩ : Gref11_reader))
theorem c_ref11_reader_take {w0 : World} {M : Nat → Prop} {H : List (Nat × Nat × Obj)} {R : List (Nat × Row)} {φ : World → Prop} (p1 : Int) (go0 : Nat) (o0 : Gref11_reader) (r : ByteArray × Gref11_reader) (hm : m_ref11_reader_take p1 o0 = some r) :
    Cn Try.prog 95 #[.pointer (some ⟨go0, 0, none⟩), .int .i64 p1] ⟨w0, M, (1000, go0, .cells #[.string o0.fs, .bool o0.fbad] 137 (0, 0)) :: H, R, φ⟩ (fun x : Unit => .string r.1) (fun x => True) (fun x => ⟨w0, M, (1000, go0, .cells #[.string r.2.fs, .bool r.2.fbad] 137 (0, 0)) :: H, R, φ⟩) := by
 unfold m_ref11_reader_take at hm
 refine cn_intro (fn := Try.f95) (N := 36) Try.func95 rfl Try.ntmps95 rfl ?_
 refine c_seq ?_
 refine c_region ?_
 refine g_v rfl r_assign ?_
 refine g_nil ?_
 refine d_then ?_
 refine c_seq ?_
 refine c_seq ?_
 refine c_region ?_
 refine g_v rfl r_move ?_
 refine g_v rfl (r_lss rfl rfl) ?_
 refine g_v rfl r_move ?_
 refine g_if rfl rfl rfl rfl rfl (fun h1 => ?_) (fun h1 => ?_)
 ·
  replace hm := ite_f hm (of_decide_eq_false h1)
  refine g_v rfl r_move ?_
  refine g_do rfl rfl rfl rfl rfl h1 ?_
  refine g_v rfl (r_nilck rfl) ?_
  refine g_do rfl rfl rfl rfl rfl h1 ?_
  refine g_v rfl (r_field (n := 0) Try.underlying137 rfl Try.sizeOf9 rfl rfl) ?_
  refine g_do rfl rfl rfl rfl rfl h1 ?_
  refine g_v rfl (r_load (tag := 1000) rfl rfl rfl Try.isAgg9) ?_
  refine g_do rfl rfl rfl rfl rfl h1 ?_
  refine g_v rfl (r_len Try.underlying9 rfl) ?_
  refine g_do rfl rfl rfl rfl rfl h1 ?_
  refine g_v rfl r_move ?_
  refine g_do rfl rfl rfl rfl rfl h1 ?_
  refine g_v rfl (r_lss rfl rfl) ?_
  refine g_v rfl (r_pick0 rfl h1) ?_
  refine g_nil ?_
  refine d_then ?_
  refine c_flat [(0, .pointer (some ⟨go0, 0, none⟩)), (1, .int .i64 p1), (16, .bool (decide ((o0.fs.size : Int) < p1)))] ⟨rfl, rfl, rfl, trivial⟩ (fun u => ?_)
  refine c_sta ⟨w0, M, (1000, go0, .cells #[.string o0.fs, .bool o0.fbad] 137 (0, 0)) :: H, R, φ⟩ (fun _ h => h) ?_
  refine c_cond rfl (fun h2 => ?_) (fun h2 => ?_)
  ·
   replace hm := ite_t hm (of_decide_eq_true h2)
   refine c_seq ?_
   refine c_region ?_
   refine g_v rfl r_move ?_
   refine g_v rfl (r_nilck rfl) ?_
   refine g_v rfl (r_field (n := 1) Try.underlying137 rfl Try.sizeOf4 rfl rfl) ?_
   refine g_storeL (tag := 1000) rfl rfl rfl rfl Try.sizeOf4 rfl rfl ?_
   refine g_nil ?_
   refine d_then ?_
   refine c_seq ?_
   refine c_region ?_
   refine g_v rfl r_assign ?_
   refine g_nil ?_
   refine d_then ?_
   refine c_ret ?_
   refine d_ret_then ?_
   replace hm := Option.some.inj hm
   subst hm
   refine d_retC () Try.results95 ?_ trivial (fun W h => h.phi (fun W hφ => hφ)) (.inr rfl)
   refine res_tmp ?_
   refine res_nil ?_
   exact rfl
  ·
   replace hm := ite_f hm (of_decide_eq_false h2)
   refine c_skip ?_
   refine d_then ?_
   refine c_seq ?_
   refine c_region ?_
   refine g_v rfl r_move ?_
   refine g_v rfl (r_nilck rfl) ?_
   refine g_v rfl (r_field (n := 0) Try.underlying137 rfl Try.sizeOf9 rfl rfl) ?_
   refine g_v rfl (r_load (tag := 1000) rfl rfl rfl Try.isAgg9) ?_
   refine g_v rfl r_move ?_
   replace hm := bnd hm
   obtain ⟨s3, hs3, hm⟩ := hm
   refine g_v rfl (r_scutHi Try.underlying9 rfl rfl hs3) ?_
   refine g_v rfl r_assign ?_
   refine g_nil ?_
   refine d_then ?_
   refine c_seq ?_
   refine c_region ?_
   refine g_v rfl r_move ?_
   refine g_v rfl r_move ?_
   refine g_v rfl (r_nilck rfl) ?_
   refine g_v rfl (r_field (n := 0) Try.underlying137 rfl Try.sizeOf9 rfl rfl) ?_
   refine g_v rfl (r_load (tag := 1000) rfl rfl rfl Try.isAgg9) ?_
   refine g_v rfl r_move ?_
   replace hm := bnd hm
   obtain ⟨s4, hs4, hm⟩ := hm
   refine g_v rfl (r_scutLo Try.underlying9 rfl rfl hs4) ?_
   refine g_v rfl (r_nilck rfl) ?_
   refine g_v rfl (r_field (n := 0) Try.underlying137 rfl Try.sizeOf9 rfl rfl) ?_
   refine g_storeL (tag := 1000) rfl rfl rfl rfl Try.sizeOf9 rfl rfl ?_
   refine g_nil ?_
   refine d_then ?_
   refine c_flat [(5, .string s3)] ⟨rfl, trivial⟩ (fun u => ?_)
   refine c_sta ⟨w0, M, (1000, go0, .cells #[.string s4, .bool o0.fbad] 137 (0, 0)) :: H, R, φ⟩ (fun _ h => h) ?_
   refine c_seq ?_
   refine c_region ?_
   refine g_v rfl r_move ?_
   refine g_v rfl r_assign ?_
   refine g_nil ?_
   refine d_then ?_
   refine c_ret ?_
   replace hm := Option.some.inj hm
   subst hm
   refine d_retC () Try.results95 ?_ trivial (fun W h => h.phi (fun W hφ => hφ)) (.inr rfl)
   refine res_tmp ?_
   refine res_nil ?_
   exact rfl
 ·
  replace hm := ite_t hm (of_decide_eq_true h1)
  refine g_no rfl rfl rfl rfl rfl h1 ?_
  refine g_no rfl rfl rfl rfl rfl h1 ?_
  refine g_no rfl rfl rfl rfl rfl h1 ?_
  refine g_no rfl rfl rfl rfl rfl h1 ?_
  refine g_no rfl rfl rfl rfl rfl h1 ?_
  refine g_no rfl rfl rfl rfl rfl h1 ?_
  refine g_v rfl (r_pick1 rfl h1) ?_
  refine g_nil ?_
  refine d_then ?_
  refine c_cond1 rfl rfl ?_
  refine c_seq ?_
  refine c_region ?_
  refine g_v rfl r_move ?_
  refine g_v rfl (r_nilck rfl) ?_
  refine g_v rfl (r_field (n := 1) Try.underlying137 rfl Try.sizeOf4 rfl rfl) ?_
  refine g_storeL (tag := 1000) rfl rfl rfl rfl Try.sizeOf4 rfl rfl ?_
  refine g_nil ?_
  refine d_then ?_
  refine c_flat [] trivial (fun u => ?_)
  refine c_sta ⟨w0, M, (1000, go0, .cells #[.string o0.fs, .bool true] 137 (0, 0)) :: H, R, φ⟩ (fun _ h => h) ?_
  refine c_seq ?_
  refine c_region ?_
  refine g_v rfl r_assign ?_
  refine g_nil ?_
  refine d_then ?_
  refine c_ret ?_
  refine d_ret_then ?_
  replace hm := Option.some.inj hm
  subst hm
  refine d_retC () Try.results95 ?_ trivial (fun W h => h.phi (fun W hφ => hφ)) (.inr rfl)
  refine res_tmp ?_
  refine res_nil ?_
  exact rfl

noncomputable def m_ref11_reader_number_j1 (x2 : Gref11_reader) (i22 : Int) : Option (Int × Gref11_reader) :=
  some (i22, x2)
noncomputable def m_ref11_reader_number_s2 (x1 : ByteArray) (i26 : Int) (i27 : Int) : Option ((Int × Int) ⊕ Int) :=
  if i27 < 8 then
    (sat_ x1 i27).bind fun b34 =>
    some (.inl (w64 ((w64 (i26 * 256)) + (w64 b34)), w64 (i27 + 1)))
  else
    some (.inr i26)
noncomputable def m_ref11_reader_number (o0 : Gref11_reader) : Option (Int × Gref11_reader) :=
  (m_ref11_reader_take 8 o0).bind fun (z4 : ByteArray × Gref11_reader) =>
  if (z4.1.size : Int) < 8 then
    some (0, (⟨z4.2.fs, true⟩ : Gref11_reader))
  else
    (sat_ z4.1 0).bind fun b6 =>
    if 0 < b6 then
      some (0, (⟨z4.2.fs, true⟩ : Gref11_reader))
    else
      (sat_ z4.1 1).bind fun b8 =>
      if 0 < b8 then
        some (0, (⟨z4.2.fs, true⟩ : Gref11_reader))
      else
        (sat_ z4.1 2).bind fun b10 =>
        if 1 < b10 then
          some (0, (⟨z4.2.fs, true⟩ : Gref11_reader))
        else
          (loop (fun s => m_ref11_reader_number_s2 z4.1 s.1 s.2) (0, 0)).bind fun e => m_ref11_reader_number_j1 z4.2 e
theorem c_ref11_reader_number {w0 : World} {M : Nat → Prop} {H : List (Nat × Nat × Obj)} {R : List (Nat × Row)} {φ : World → Prop} (go0 : Nat) (o0 : Gref11_reader) (r : Int × Gref11_reader) (hm : m_ref11_reader_number o0 = some r) :
    Cn Try.prog 94 #[.pointer (some ⟨go0, 0, none⟩)] ⟨w0, M, (1000, go0, .cells #[.string o0.fs, .bool o0.fbad] 137 (0, 0)) :: H, R, φ⟩ (fun x : Unit => .int .i64 r.1) (fun x => True) (fun x => ⟨w0, M, (1000, go0, .cells #[.string r.2.fs, .bool r.2.fbad] 137 (0, 0)) :: H, R, φ⟩) := by
 unfold m_ref11_reader_number at hm
 refine cn_intro (fn := Try.f94) (N := 41) Try.func94 rfl Try.ntmps94 rfl ?_
 refine c_seq ?_
 refine c_region ?_
 refine g_v rfl r_assign ?_
 refine g_nil ?_
 refine d_then ?_
 refine c_seq ?_
 refine c_region ?_
 refine g_v rfl r_move ?_
 replace hm := bnd hm
 obtain ⟨⟨x1, x2⟩, hx3, hm⟩ := hm
 refine g_cn ⟨w0, M, (1000, go0, .cells #[.string o0.fs, .bool o0.fbad] 137 (0, 0)) :: H, R, φ⟩ (fun W h => (ok_front (t := 1000) (t' := 1000) h rfl)) Try.call95 rfl rfl (c_ref11_reader_take 8 go0 o0 _ hx3) (fun _ _ => ?_)
 refine g_sta _ (fun W h => (ok_front (t := 1000) (t' := 1000) h rfl)) ?_
 refine g_v rfl r_assign ?_
 refine g_nil ?_
 refine d_then ?_
 refine c_seq ?_
 refine c_seq ?_
 refine c_region ?_
 refine g_v rfl r_move ?_
 refine g_v rfl (r_len Try.underlying9 rfl) ?_
 refine g_v rfl (r_lss rfl rfl) ?_
 refine g_v rfl r_move ?_
 refine g_if rfl rfl rfl rfl rfl (fun h5 => ?_) (fun h5 => ?_)
 ·
  replace hm := ite_f hm (of_decide_eq_false h5)
  refine g_v rfl r_move ?_
  refine g_do rfl rfl rfl rfl rfl h5 ?_
  replace hm := bnd hm
  obtain ⟨b6, hb6, hm⟩ := hm
  refine g_v rfl (r_sat Try.underlying9 rfl rfl hb6) ?_
  refine g_do rfl rfl rfl rfl rfl h5 ?_
  refine g_v rfl (r_gtr rfl rfl) ?_
  refine g_v rfl (r_pick0 rfl h5) ?_
  refine g_v rfl r_move ?_
  refine g_if rfl rfl rfl rfl rfl (fun h7 => ?_) (fun h7 => ?_)
  ·
   replace hm := ite_f hm (of_decide_eq_false h7)
   refine g_v rfl r_move ?_
   refine g_do rfl rfl rfl rfl rfl h7 ?_
   replace hm := bnd hm
   obtain ⟨b8, hb8, hm⟩ := hm
   refine g_v rfl (r_sat Try.underlying9 rfl rfl hb8) ?_
   refine g_do rfl rfl rfl rfl rfl h7 ?_
   refine g_v rfl (r_gtr rfl rfl) ?_
   refine g_v rfl (r_pick0 rfl h7) ?_
   refine g_v rfl r_move ?_
   refine g_if rfl rfl rfl rfl rfl (fun h9 => ?_) (fun h9 => ?_)
   ·
    replace hm := ite_f hm (of_decide_eq_false h9)
    refine g_v rfl r_move ?_
    refine g_do rfl rfl rfl rfl rfl h9 ?_
    replace hm := bnd hm
    obtain ⟨b10, hb10, hm⟩ := hm
    refine g_v rfl (r_sat Try.underlying9 rfl rfl hb10) ?_
    refine g_do rfl rfl rfl rfl rfl h9 ?_
    refine g_v rfl (r_gtr rfl rfl) ?_
    refine g_v rfl (r_pick0 rfl h9) ?_
    refine g_nil ?_
    refine d_then ?_
    refine c_flat [(0, .pointer (some ⟨go0, 0, none⟩)), (3, .string x1), (25, .bool (decide (1 < b10)))] ⟨rfl, rfl, rfl, trivial⟩ (fun u => ?_)
    refine c_sta ⟨w0, M, (1000, go0, .cells #[.string x2.fs, .bool x2.fbad] 137 (0, 0)) :: H, R, φ⟩ (fun _ h => h) ?_
    refine c_cond rfl (fun h11 => ?_) (fun h11 => ?_)
    ·
     replace hm := ite_t hm (of_decide_eq_true h11)
     refine c_seq ?_
     refine c_region ?_
     refine g_v rfl r_move ?_
     refine g_v rfl (r_nilck rfl) ?_
     refine g_v rfl (r_field (n := 1) Try.underlying137 rfl Try.sizeOf4 rfl rfl) ?_
     refine g_storeL (tag := 1000) rfl rfl rfl rfl Try.sizeOf4 rfl rfl ?_
     refine g_nil ?_
     refine d_then ?_
     refine c_seq ?_
     refine c_region ?_
     refine g_v rfl r_assign ?_
     refine g_nil ?_
     refine d_then ?_
     refine c_ret ?_
     refine d_ret_then ?_
     replace hm := Option.some.inj hm
     subst hm
     refine d_retC () Try.results94 ?_ trivial (fun W h => h.phi (fun W hφ => hφ)) (.inr rfl)
     refine res_tmp ?_
     refine res_nil ?_
     exact rfl
    ·
     replace hm := ite_f hm (of_decide_eq_false h11)
     refine c_skip ?_
     refine d_then ?_
     refine c_seq ?_
     refine c_region ?_
     refine g_v rfl r_assign ?_
     refine g_nil ?_
     refine d_then ?_
     refine c_seq ?_
     refine c_seq ?_
     refine c_region ?_
     refine g_v rfl r_assign ?_
     refine g_nil ?_
     refine d_then ?_
     refine c_cut (ι := Int) [4] (fun i22 => [(4, .int .i64 i22)]) (fun i22 => ⟨w0, M, (1000, go0, .cells #[.string x2.fs, .bool x2.fbad] 137 (0, 0)) :: H, R, φ⟩) (fun i22 => m_ref11_reader_number_j1 x2 i22 = some r) ?_ (fun i22 u hm => ?_)
     ·
      refine c_block ?_
      replace hm := bnd hm
      obtain ⟨out2, hl2, hr2⟩ := hm
      obtain ⟨n32', hl2⟩ := loop_lp hl2
      refine c_loopU (ι := Nat × Int × Int) [3, 4, 5] (fun ⟨n32, i26, i27⟩ => [(4, .int .i64 i26), (5, .int .i64 i27)]) (fun ⟨n32, i26, i27⟩ => ⟨w0, M, (1000, go0, .cells #[.string x2.fs, .bool x2.fbad] 137 (0, 0)) :: H, R, φ⟩) (fun ⟨n32, i26, i27⟩ => Lp (fun s => m_ref11_reader_number_s2 x1 s.1 s.2) n32 (i26, i27) out2) (fun ⟨n32, i26, i27⟩ => n32) (n32', 0, 0) hl2 ⟨rfl, rfl, rfl, trivial⟩ (fun W h => h.phi (fun W hφ => hφ)) (fun ⟨n32, i26, i27⟩ u hlp => ?_)
      obtain ⟨o2, hm, hnx2⟩ := lp_step hlp
      clear hlp
      replace hm : m_ref11_reader_number_s2 x1 i26 i27 = some o2 := hm
      unfold m_ref11_reader_number_s2 at hm
      refine c_flat [(3, .string x1), (4, .int .i64 i26), (5, .int .i64 i27)] ⟨rfl, rfl, rfl, trivial⟩ (fun u => ?_)
      refine c_sta ⟨w0, M, (1000, go0, .cells #[.string x2.fs, .bool x2.fbad] 137 (0, 0)) :: H, R, φ⟩ (fun _ h => h) ?_
      refine c_seq ?_
      refine c_seq ?_
      refine c_region ?_
      refine g_v rfl r_move ?_
      refine g_v rfl (r_lss rfl rfl) ?_
      refine g_nil ?_
      refine d_then ?_
      refine c_cond rfl (fun h33 => ?_) (fun h33 => ?_)
      ·
       replace hm := ite_t hm (of_decide_eq_true h33)
       refine c_skip ?_
       refine d_then ?_
       refine c_seq ?_
       refine c_block ?_
       refine c_region ?_
       refine g_v rfl r_move ?_
       refine g_v rfl (r_mul rfl rfl rfl) ?_
       refine g_v rfl r_move ?_
       refine g_v rfl r_move ?_
       replace hm := bnd hm
       obtain ⟨b34, hb34, hm⟩ := hm
       refine g_v rfl (r_sat Try.underlying9 rfl rfl hb34) ?_
       refine g_v rfl (r_conv Try.underlying5 Try.underlying3 rfl rfl) ?_
       refine g_v rfl (r_add rfl rfl rfl) ?_
       refine g_v rfl r_assign ?_
       refine g_nil ?_
       refine d_normal_block ?_
       refine d_then ?_
       refine c_flat [(3, .string x1), (4, .int .i64 (w64 ((w64 (i26 * 256)) + (w64 b34)))), (5, .int .i64 i27)] ⟨rfl, rfl, rfl, trivial⟩ (fun u => ?_)
       refine c_sta ⟨w0, M, (1000, go0, .cells #[.string x2.fs, .bool x2.fbad] 137 (0, 0)) :: H, R, φ⟩ (fun _ h => h) ?_
       refine c_region ?_
       refine g_v rfl r_move ?_
       refine g_v rfl (r_add rfl rfl rfl) ?_
       refine g_v rfl r_assign ?_
       refine g_nil ?_
       obtain ⟨n35, hn35, hlp⟩ := nx_inl hm hnx2
       exact d_round (n35, w64 ((w64 (i26 * 256)) + (w64 b34)), w64 (i27 + 1)) hlp hn35 ⟨rfl, rfl, rfl, trivial⟩ (fun W h => h.phi (fun W hφ => hφ))
      ·
       replace hm := ite_f hm (of_decide_eq_false h33)
       refine c_exit ?_
       refine d_exit_then ?_
       refine d_exit_then ?_
       refine d_exit_block ?_
       replace hm := nx_out (C := (fun e => m_ref11_reader_number_j1 x2 e = some r)) hm hnx2 hr2
       exact d_round i26 hm Nat.zero_lt_one ⟨rfl, trivial⟩ (fun W h => h.phi (fun W hφ => hφ))
     ·
      unfold m_ref11_reader_number_j1 at hm
      refine d_flat [(4, .int .i64 i22)] ⟨rfl, trivial⟩ (fun u => ?_)
      refine d_sta ⟨w0, M, (1000, go0, .cells #[.string x2.fs, .bool x2.fbad] 137 (0, 0)) :: H, R, φ⟩ (fun _ h => h) ?_
      refine d_then ?_
      refine c_seq ?_
      refine c_region ?_
      refine g_v rfl r_move ?_
      refine g_v rfl r_assign ?_
      refine g_nil ?_
      refine d_then ?_
      refine c_ret ?_
      replace hm := Option.some.inj hm
      subst hm
      refine d_retC () Try.results94 ?_ trivial (fun W h => h.phi (fun W hφ => hφ)) (.inr rfl)
      refine res_tmp ?_
      refine res_nil ?_
      exact rfl
   ·
    replace hm := ite_t hm (of_decide_eq_true h9)
    refine g_no rfl rfl rfl rfl rfl h9 ?_
    refine g_no rfl rfl rfl rfl rfl h9 ?_
    refine g_v rfl (r_pick1 rfl h9) ?_
    refine g_nil ?_
    refine d_then ?_
    refine c_flat [(0, .pointer (some ⟨go0, 0, none⟩)), (3, .string x1), (25, .bool true)] ⟨rfl, rfl, rfl, trivial⟩ (fun u => ?_)
    refine c_sta ⟨w0, M, (1000, go0, .cells #[.string x2.fs, .bool x2.fbad] 137 (0, 0)) :: H, R, φ⟩ (fun _ h => h) ?_
    refine c_cond1 rfl rfl ?_
    refine c_seq ?_
    refine c_region ?_
    refine g_v rfl r_move ?_
    refine g_v rfl (r_nilck rfl) ?_
    refine g_v rfl (r_field (n := 1) Try.underlying137 rfl Try.sizeOf4 rfl rfl) ?_
    refine g_storeL (tag := 1000) rfl rfl rfl rfl Try.sizeOf4 rfl rfl ?_
    refine g_nil ?_
    refine d_then ?_
    refine c_seq ?_
    refine c_region ?_
    refine g_v rfl r_assign ?_
    refine g_nil ?_
    refine d_then ?_
    refine c_ret ?_
    refine d_ret_then ?_
    replace hm := Option.some.inj hm
    subst hm
    refine d_retC () Try.results94 ?_ trivial (fun W h => h.phi (fun W hφ => hφ)) (.inr rfl)
    refine res_tmp ?_
    refine res_nil ?_
    exact rfl
  ·
   replace hm := ite_t hm (of_decide_eq_true h7)
   refine g_no rfl rfl rfl rfl rfl h7 ?_
   refine g_no rfl rfl rfl rfl rfl h7 ?_
   refine g_v rfl (r_pick1 rfl h7) ?_
   refine g_v rfl r_move ?_
   refine g_no rfl rfl rfl rfl rfl rfl ?_
   refine g_no rfl rfl rfl rfl rfl rfl ?_
   refine g_no rfl rfl rfl rfl rfl rfl ?_
   refine g_v rfl (r_pick1 rfl rfl) ?_
   refine g_nil ?_
   refine d_then ?_
   refine c_flat [(0, .pointer (some ⟨go0, 0, none⟩)), (3, .string x1), (25, .bool true)] ⟨rfl, rfl, rfl, trivial⟩ (fun u => ?_)
   refine c_sta ⟨w0, M, (1000, go0, .cells #[.string x2.fs, .bool x2.fbad] 137 (0, 0)) :: H, R, φ⟩ (fun _ h => h) ?_
   refine c_cond1 rfl rfl ?_
   refine c_seq ?_
   refine c_region ?_
   refine g_v rfl r_move ?_
   refine g_v rfl (r_nilck rfl) ?_
   refine g_v rfl (r_field (n := 1) Try.underlying137 rfl Try.sizeOf4 rfl rfl) ?_
   refine g_storeL (tag := 1000) rfl rfl rfl rfl Try.sizeOf4 rfl rfl ?_
   refine g_nil ?_
   refine d_then ?_
   refine c_seq ?_
   refine c_region ?_
   refine g_v rfl r_assign ?_
   refine g_nil ?_
   refine d_then ?_
   refine c_ret ?_
   refine d_ret_then ?_
   replace hm := Option.some.inj hm
   subst hm
   refine d_retC () Try.results94 ?_ trivial (fun W h => h.phi (fun W hφ => hφ)) (.inr rfl)
   refine res_tmp ?_
   refine res_nil ?_
   exact rfl
 ·
  replace hm := ite_t hm (of_decide_eq_true h5)
  refine g_no rfl rfl rfl rfl rfl h5 ?_
  refine g_no rfl rfl rfl rfl rfl h5 ?_
  refine g_v rfl (r_pick1 rfl h5) ?_
  refine g_v rfl r_move ?_
  refine g_no rfl rfl rfl rfl rfl rfl ?_
  refine g_no rfl rfl rfl rfl rfl rfl ?_
  refine g_no rfl rfl rfl rfl rfl rfl ?_
  refine g_v rfl (r_pick1 rfl rfl) ?_
  refine g_v rfl r_move ?_
  refine g_no rfl rfl rfl rfl rfl rfl ?_
  refine g_no rfl rfl rfl rfl rfl rfl ?_
  refine g_no rfl rfl rfl rfl rfl rfl ?_
  refine g_v rfl (r_pick1 rfl rfl) ?_
  refine g_nil ?_
  refine d_then ?_
  refine c_flat [(0, .pointer (some ⟨go0, 0, none⟩)), (3, .string x1), (25, .bool true)] ⟨rfl, rfl, rfl, trivial⟩ (fun u => ?_)
  refine c_sta ⟨w0, M, (1000, go0, .cells #[.string x2.fs, .bool x2.fbad] 137 (0, 0)) :: H, R, φ⟩ (fun _ h => h) ?_
  refine c_cond1 rfl rfl ?_
  refine c_seq ?_
  refine c_region ?_
  refine g_v rfl r_move ?_
  refine g_v rfl (r_nilck rfl) ?_
  refine g_v rfl (r_field (n := 1) Try.underlying137 rfl Try.sizeOf4 rfl rfl) ?_
  refine g_storeL (tag := 1000) rfl rfl rfl rfl Try.sizeOf4 rfl rfl ?_
  refine g_nil ?_
  refine d_then ?_
  refine c_seq ?_
  refine c_region ?_
  refine g_v rfl r_assign ?_
  refine g_nil ?_
  refine d_then ?_
  refine c_ret ?_
  refine d_ret_then ?_
  replace hm := Option.some.inj hm
  subst hm
  refine d_retC () Try.results94 ?_ trivial (fun W h => h.phi (fun W hφ => hφ)) (.inr rfl)
  refine res_tmp ?_
  refine res_nil ?_
  exact rfl

noncomputable def m_ref11_Right_j1 (p0 : List Int) : Option Bool :=
  some (decide (0 < (p0.length : Int)))
noncomputable def m_ref11_Right_s2 (p0 : List Int) (i127 : Int) : Option (Int ⊕ (Unit ⊕ Bool)) :=
  if i127 < (p0.length : Int) then
    (at_ p0 i127).bind fun x228 =>
    if x228 < 0 then
      some (.inr (.inr false))
    else
      (at_ p0 i127).bind fun x233 =>
      if 63 < x233 then
        some (.inr (.inr false))
      else
        if 0 < i127 then
          (at_ p0 i127).bind fun x239 =>
          (at_ p0 (w64 (i127 - 1))).bind fun x243 =>
          if x239 ≤ x243 then
            some (.inr (.inr false))
          else
            some (.inl (w64 (i127 + 1)))
        else
          some (.inl (w64 (i127 + 1)))
  else
    some (.inr (.inl ()))
noncomputable def m_ref11_Right (p0 : List Int) : Option Bool :=
  (loop (fun s => m_ref11_Right_s2 p0 s) 0).bind fun e => Sum.elim (fun e => m_ref11_Right_j1 p0) (fun x => some x) e
theorem c_ref11_Right {w0 : World} {M : Nat → Prop} {H : List (Nat × Nat × Obj)} {R : List (Nat × Row)} {φ : World → Prop} (p0 : List Int) (Ap0_0 : Option Addr) (cp0_0 : Nat) (hcp0_0 : p0.length ≤ cp0_0) (fp0_0 : ∀ W, (Sta.mk w0 M H R φ).ok W → Cl W Ap0_0 (p0.flatMap (fun x : Int => [Value.int .i64 x]))) (r : Bool) (hm : m_ref11_Right p0 = some r) :
    Cn Try.prog 96 #[.slice Ap0_0 p0.length cp0_0] ⟨w0, M, H, R, φ⟩ (fun x : Unit => .bool r) (fun x => True) (fun x => ⟨w0, M, H, R, φ⟩) := by
 unfold m_ref11_Right at hm
 refine cn_intro (fn := Try.f96) (N := 41) Try.func96 rfl Try.ntmps96 rfl ?_
 refine c_seq ?_
 refine c_region ?_
 refine g_v rfl r_assign ?_
 refine g_nil ?_
 refine d_then ?_
 refine c_seq ?_
 refine c_seq ?_
 refine c_region ?_
 refine g_v rfl r_assign ?_
 refine g_nil ?_
 refine d_then ?_
 refine c_cut (ι := Unit) [0] (fun _ => []) (fun _ => ⟨w0, M, H, R, φ⟩) (fun _ => m_ref11_Right_j1 p0 = some r) ?_ (fun _ u hm => ?_)
 ·
  refine c_block ?_
  replace hm := bnd hm
  obtain ⟨out2, hl2, hr2⟩ := hm
  obtain ⟨n188', hl2⟩ := loop_lp hl2
  refine c_loopU (ι := Nat × Int) [0, 3] (fun ⟨n188, i127⟩ => [(3, .int .i64 i127)]) (fun ⟨n188, i127⟩ => ⟨w0, M, H, R, φ⟩) (fun ⟨n188, i127⟩ => Lp (fun s => m_ref11_Right_s2 p0 s) n188 i127 out2) (fun ⟨n188, i127⟩ => n188) (n188', 0) hl2 ⟨rfl, rfl, trivial⟩ (fun W h => h.phi (fun W hφ => hφ)) (fun ⟨n188, i127⟩ u hlp => ?_)
  obtain ⟨o2, hm, hnx2⟩ := lp_step hlp
  clear hlp
  replace hm : m_ref11_Right_s2 p0 i127 = some o2 := hm
  unfold m_ref11_Right_s2 at hm
  refine c_flat [(0, .slice Ap0_0 p0.length cp0_0), (3, .int .i64 i127)] ⟨rfl, rfl, trivial⟩ (fun u => ?_)
  refine c_sta ⟨w0, M, H, R, φ⟩ (fun _ h => h) ?_
  refine c_seq ?_
  refine c_seq ?_
  refine c_region ?_
  refine g_v rfl r_move ?_
  refine g_v rfl r_move ?_
  refine g_v rfl (r_lenL Try.underlying42 rfl) ?_
  refine g_v rfl (r_lss rfl rfl) ?_
  refine g_nil ?_
  refine d_then ?_
  refine c_cond rfl (fun h189 => ?_) (fun h189 => ?_)
  ·
   replace hm := ite_t hm (of_decide_eq_true h189)
   refine c_skip ?_
   refine d_then ?_
   refine c_seq ?_
   refine c_block ?_
   refine c_seq ?_
   refine ga_start (n := 28) ⟨w0, M, H, R, φ⟩ [] #[false, false, false, false, false, false, false, false, false, false, false, false, false, false, false, false, false, false, false, false, false, false, false, false, false, false, false, false] (fun W h => h.phi (fun W hφ => hφ)) mixed rfl rfl ?_
   refine ga_v (i := 0) #[true, false, false, false, false, false, false, false, false, false, false, false, false, false, false, false, false, false, false, false, false, false, false, false, false, false, false, false] rfl (by kernel_rfl) (fun _ _ _ _ h => h) rfl (r_move) ?_
   refine ga_r (i := 1) #[true, true, false, false, false, false, false, false, false, false, false, false, false, false, false, false, false, false, false, false, false, false, false, false, false, false, false, false] rfl (by kernel_rfl) (by decide) rfl (r_move) ?_
   replace hm := bnd hm
   obtain ⟨x228, hx228, hm⟩ := hm
   refine ga_know _ (fun W hS => cl_at (p := (Sta.mk w0 M H R φ).ok) (sz := 1) (fun _ => rfl) (by decide) (ok_pre (H1 := []) (R1 := []) hS (fun W h => h)) fp0_0 hx228) ?_
   rintro ⟨ad229, hA231, f230⟩
   refine ga_r (i := 2) #[true, true, true, false, false, false, false, false, false, false, false, false, false, false, false, false, false, false, false, false, false, false, false, false, false, false, false, false] rfl (by kernel_rfl) (by decide) rfl (r_ix Try.underlying42 Try.sizeOf3 rfl hA231 rfl hx228) ?_
   refine ga_r (i := 3) #[true, true, true, true, false, false, false, false, false, false, false, false, false, false, false, false, false, false, false, false, false, false, false, false, false, false, false, false] rfl (by kernel_rfl) (by decide) rfl (r_ld rfl Try.isAgg3 (fun W hS => Cl.head (f230 W (ok_pre (H1 := []) (R1 := []) hS (fun W h => h))))) ?_
   refine ga_r (i := 4) #[true, true, true, true, true, false, false, false, false, false, false, false, false, false, false, false, false, false, false, false, false, false, false, false, false, false, false, false] rfl (by kernel_rfl) (by decide) rfl (r_lss rfl rfl) ?_
   refine ga_r (i := 5) #[true, true, true, true, true, true, false, false, false, false, false, false, false, false, false, false, false, false, false, false, false, false, false, false, false, false, false, false] rfl (by kernel_rfl) (by decide) rfl (r_move) ?_
   refine ga_if (t := 15) rfl (fun h232 => ?_) (fun h232 => ?_)
   ·
    replace hm := ite_t hm (of_decide_eq_true h232)
    refine ga_no (i := 6) #[true, true, true, true, true, true, true, false, false, false, false, false, false, false, false, false, false, false, false, false, false, false, false, false, false, false, false, false] rfl (by kernel_rfl) (fun _ _ _ _ h => h) rfl rfl rfl rfl rfl h232 ?_
    refine ga_no (i := 7) #[true, true, true, true, true, true, true, true, false, false, false, false, false, false, false, false, false, false, false, false, false, false, false, false, false, false, false, false] rfl (by kernel_rfl) (fun _ _ _ _ h => h) rfl rfl rfl rfl rfl h232 ?_
    refine ga_no (i := 8) #[true, true, true, true, true, true, true, true, true, false, false, false, false, false, false, false, false, false, false, false, false, false, false, false, false, false, false, false] rfl (by kernel_rfl) (fun _ _ _ _ h => h) rfl rfl rfl rfl rfl h232 ?_
    refine ga_no (i := 9) #[true, true, true, true, true, true, true, true, true, true, false, false, false, false, false, false, false, false, false, false, false, false, false, false, false, false, false, false] rfl (by kernel_rfl) (fun _ _ _ _ h => h) rfl rfl rfl rfl rfl h232 ?_
    refine ga_no (i := 10) #[true, true, true, true, true, true, true, true, true, true, true, false, false, false, false, false, false, false, false, false, false, false, false, false, false, false, false, false] rfl (by kernel_rfl) (fun _ _ _ _ h => h) rfl rfl rfl rfl rfl h232 ?_
    refine ga_r (i := 11) #[true, true, true, true, true, true, true, true, true, true, true, true, false, false, false, false, false, false, false, false, false, false, false, false, false, false, false, false] rfl (by kernel_rfl) (by decide) rfl (r_pick1 rfl h232) ?_
    refine ga_r (i := 12) #[true, true, true, true, true, true, true, true, true, true, true, true, true, false, false, false, false, false, false, false, false, false, false, false, false, false, false, false] rfl (by kernel_rfl) (by decide) rfl (r_move) ?_
    refine ga_no (i := 13) #[true, true, true, true, true, true, true, true, true, true, true, true, true, true, false, false, false, false, false, false, false, false, false, false, false, false, false, false] rfl (by kernel_rfl) (fun _ _ _ _ h => h) rfl rfl rfl rfl rfl rfl ?_
    refine ga_no (i := 14) #[true, true, true, true, true, true, true, true, true, true, true, true, true, true, true, false, false, false, false, false, false, false, false, false, false, false, false, false] rfl (by kernel_rfl) (fun _ _ _ _ h => h) rfl rfl rfl rfl rfl rfl ?_
    refine ga_no (i := 15) #[true, true, true, true, true, true, true, true, true, true, true, true, true, true, true, true, false, false, false, false, false, false, false, false, false, false, false, false] rfl (by kernel_rfl) (fun _ _ _ _ h => h) rfl rfl rfl rfl rfl rfl ?_
    refine ga_nu (i := 16) #[true, true, true, true, true, true, true, true, true, true, true, true, true, true, true, true, true, false, false, false, false, false, false, false, false, false, false, false] rfl (by kernel_rfl) (fun _ _ _ _ h => h) rfl rfl rfl rfl rfl ?_
    refine ga_nu (i := 17) #[true, true, true, true, true, true, true, true, true, true, true, true, true, true, true, true, true, true, false, false, false, false, false, false, false, false, false, false] rfl (by kernel_rfl) (fun _ _ _ _ h => h) rfl rfl rfl rfl rfl ?_
    refine ga_nu (i := 18) #[true, true, true, true, true, true, true, true, true, true, true, true, true, true, true, true, true, true, true, false, false, false, false, false, false, false, false, false] rfl (by kernel_rfl) (fun _ _ _ _ h => h) rfl rfl rfl rfl rfl ?_
    refine ga_nu (i := 19) #[true, true, true, true, true, true, true, true, true, true, true, true, true, true, true, true, true, true, true, true, false, false, false, false, false, false, false, false] rfl (by kernel_rfl) (fun _ _ _ _ h => h) rfl rfl rfl rfl rfl ?_
    refine ga_nu (i := 20) #[true, true, true, true, true, true, true, true, true, true, true, true, true, true, true, true, true, true, true, true, true, false, false, false, false, false, false, false] rfl (by kernel_rfl) (fun _ _ _ _ h => h) rfl rfl rfl rfl rfl ?_
    refine ga_nu (i := 21) #[true, true, true, true, true, true, true, true, true, true, true, true, true, true, true, true, true, true, true, true, true, true, false, false, false, false, false, false] rfl (by kernel_rfl) (fun _ _ _ _ h => h) rfl rfl rfl rfl rfl ?_
    refine ga_nu (i := 22) #[true, true, true, true, true, true, true, true, true, true, true, true, true, true, true, true, true, true, true, true, true, true, true, false, false, false, false, false] rfl (by kernel_rfl) (fun _ _ _ _ h => h) rfl rfl rfl rfl rfl ?_
    refine ga_nu (i := 23) #[true, true, true, true, true, true, true, true, true, true, true, true, true, true, true, true, true, true, true, true, true, true, true, true, false, false, false, false] rfl (by kernel_rfl) (fun _ _ _ _ h => h) rfl rfl rfl rfl rfl ?_
    refine ga_nu (i := 24) #[true, true, true, true, true, true, true, true, true, true, true, true, true, true, true, true, true, true, true, true, true, true, true, true, true, false, false, false] rfl (by kernel_rfl) (fun _ _ _ _ h => h) rfl rfl rfl rfl rfl ?_
    refine ga_nu (i := 25) #[true, true, true, true, true, true, true, true, true, true, true, true, true, true, true, true, true, true, true, true, true, true, true, true, true, true, false, false] rfl (by kernel_rfl) (fun _ _ _ _ h => h) rfl rfl rfl rfl rfl ?_
    refine ga_no (i := 26) #[true, true, true, true, true, true, true, true, true, true, true, true, true, true, true, true, true, true, true, true, true, true, true, true, true, true, true, false] rfl (by kernel_rfl) (fun _ _ _ _ h => h) rfl rfl rfl rfl rfl rfl ?_
    refine ga_r (i := 27) #[true, true, true, true, true, true, true, true, true, true, true, true, true, true, true, true, true, true, true, true, true, true, true, true, true, true, true, true] rfl (by kernel_rfl) (by decide) rfl (r_pick1 rfl rfl) ?_
    refine ga_done (by kernel_rfl) ?_
    refine d_then ?_
    refine c_flat [(0, .slice Ap0_0 p0.length cp0_0), (3, .int .i64 i127), (37, .bool true)] ⟨rfl, rfl, rfl, trivial⟩ (fun u => ?_)
    refine c_sta ⟨w0, M, H, R, φ⟩ (fun _ h => h) ?_
    refine c_cond1 rfl rfl ?_
    refine c_seq ?_
    refine c_region ?_
    refine g_v rfl r_assign ?_
    refine g_nil ?_
    refine d_then ?_
    refine c_ret ?_
    refine d_ret_block ?_
    refine d_ret_then ?_
    refine d_ret_then ?_
    refine d_ret_block ?_
    refine d_ret_then ?_
    refine d_ret_then ?_
    replace hm := nx_out (C := (fun e => Sum.elim (fun e => m_ref11_Right_j1 p0) (fun x => some x) e = some r)) hm hnx2 hr2
    replace hm : some false = some r := hm
    replace hm := Option.some.inj hm
    subst hm
    refine d_retC () Try.results96 ?_ trivial (fun W h => ok_pre (H1 := []) (R1 := []) h (fun W hφ => hφ)) (.inr rfl)
    refine res_tmp ?_
    refine res_nil ?_
    exact rfl
   ·
    replace hm := ite_f hm (of_decide_eq_false h232)
    refine ga_do (i := 6) #[true, true, true, true, true, true, true, false, false, false, false, false, false, false, false, false, false, false, false, false, false, false, false, false, false, false, false, false] rfl (by kernel_rfl) (fun _ _ _ _ h => h) rfl rfl rfl rfl rfl h232 (r_move) ?_
    refine ga_rG (i := 7) #[true, true, true, true, true, true, true, true, false, false, false, false, false, false, false, false, false, false, false, false, false, false, false, false, false, false, false, false] rfl (by kernel_rfl) (by decide) rfl rfl rfl rfl rfl h232 (r_move) ?_
    replace hm := bnd hm
    obtain ⟨x233, hx233, hm⟩ := hm
    refine ga_know _ (fun W hS => cl_at (p := (Sta.mk w0 M H R φ).ok) (sz := 1) (fun _ => rfl) (by decide) (ok_pre (H1 := []) (R1 := []) hS (fun W h => h)) fp0_0 hx233) ?_
    rintro ⟨ad234, hA236, f235⟩
    refine ga_rG (i := 8) #[true, true, true, true, true, true, true, true, true, false, false, false, false, false, false, false, false, false, false, false, false, false, false, false, false, false, false, false] rfl (by kernel_rfl) (by decide) rfl rfl rfl rfl rfl h232 (r_ix Try.underlying42 Try.sizeOf3 rfl hA236 rfl hx233) ?_
    refine ga_rG (i := 9) #[true, true, true, true, true, true, true, true, true, true, false, false, false, false, false, false, false, false, false, false, false, false, false, false, false, false, false, false] rfl (by kernel_rfl) (by decide) rfl rfl rfl rfl rfl h232 (r_ld rfl Try.isAgg3 (fun W hS => Cl.head (f235 W (ok_pre (H1 := []) (R1 := []) hS (fun W h => h))))) ?_
    refine ga_rG (i := 10) #[true, true, true, true, true, true, true, true, true, true, true, false, false, false, false, false, false, false, false, false, false, false, false, false, false, false, false, false] rfl (by kernel_rfl) (by decide) rfl rfl rfl rfl rfl h232 (r_gtr rfl rfl) ?_
    refine ga_r (i := 11) #[true, true, true, true, true, true, true, true, true, true, true, true, false, false, false, false, false, false, false, false, false, false, false, false, false, false, false, false] rfl (by kernel_rfl) (by decide) rfl (r_pick0 rfl h232) ?_
    refine ga_r (i := 12) #[true, true, true, true, true, true, true, true, true, true, true, true, true, false, false, false, false, false, false, false, false, false, false, false, false, false, false, false] rfl (by kernel_rfl) (by decide) rfl (r_move) ?_
    refine ga_if (t := 22) rfl (fun h237 => ?_) (fun h237 => ?_)
    ·
     replace hm := ite_t hm (of_decide_eq_true h237)
     refine ga_no (i := 13) #[true, true, true, true, true, true, true, true, true, true, true, true, true, true, false, false, false, false, false, false, false, false, false, false, false, false, false, false] rfl (by kernel_rfl) (fun _ _ _ _ h => h) rfl rfl rfl rfl rfl h237 ?_
     refine ga_no (i := 14) #[true, true, true, true, true, true, true, true, true, true, true, true, true, true, true, false, false, false, false, false, false, false, false, false, false, false, false, false] rfl (by kernel_rfl) (fun _ _ _ _ h => h) rfl rfl rfl rfl rfl h237 ?_
     refine ga_no (i := 15) #[true, true, true, true, true, true, true, true, true, true, true, true, true, true, true, true, false, false, false, false, false, false, false, false, false, false, false, false] rfl (by kernel_rfl) (fun _ _ _ _ h => h) rfl rfl rfl rfl rfl h237 ?_
     refine ga_nu (i := 16) #[true, true, true, true, true, true, true, true, true, true, true, true, true, true, true, true, true, false, false, false, false, false, false, false, false, false, false, false] rfl (by kernel_rfl) (fun _ _ _ _ h => h) rfl rfl rfl rfl rfl ?_
     refine ga_nu (i := 17) #[true, true, true, true, true, true, true, true, true, true, true, true, true, true, true, true, true, true, false, false, false, false, false, false, false, false, false, false] rfl (by kernel_rfl) (fun _ _ _ _ h => h) rfl rfl rfl rfl rfl ?_
     refine ga_nu (i := 18) #[true, true, true, true, true, true, true, true, true, true, true, true, true, true, true, true, true, true, true, false, false, false, false, false, false, false, false, false] rfl (by kernel_rfl) (fun _ _ _ _ h => h) rfl rfl rfl rfl rfl ?_
     refine ga_nu (i := 19) #[true, true, true, true, true, true, true, true, true, true, true, true, true, true, true, true, true, true, true, true, false, false, false, false, false, false, false, false] rfl (by kernel_rfl) (fun _ _ _ _ h => h) rfl rfl rfl rfl rfl ?_
     refine ga_nu (i := 20) #[true, true, true, true, true, true, true, true, true, true, true, true, true, true, true, true, true, true, true, true, true, false, false, false, false, false, false, false] rfl (by kernel_rfl) (fun _ _ _ _ h => h) rfl rfl rfl rfl rfl ?_
     refine ga_nu (i := 21) #[true, true, true, true, true, true, true, true, true, true, true, true, true, true, true, true, true, true, true, true, true, true, false, false, false, false, false, false] rfl (by kernel_rfl) (fun _ _ _ _ h => h) rfl rfl rfl rfl rfl ?_
     refine ga_nu (i := 22) #[true, true, true, true, true, true, true, true, true, true, true, true, true, true, true, true, true, true, true, true, true, true, true, false, false, false, false, false] rfl (by kernel_rfl) (fun _ _ _ _ h => h) rfl rfl rfl rfl rfl ?_
     refine ga_nu (i := 23) #[true, true, true, true, true, true, true, true, true, true, true, true, true, true, true, true, true, true, true, true, true, true, true, true, false, false, false, false] rfl (by kernel_rfl) (fun _ _ _ _ h => h) rfl rfl rfl rfl rfl ?_
     refine ga_nu (i := 24) #[true, true, true, true, true, true, true, true, true, true, true, true, true, true, true, true, true, true, true, true, true, true, true, true, true, false, false, false] rfl (by kernel_rfl) (fun _ _ _ _ h => h) rfl rfl rfl rfl rfl ?_
     refine ga_nu (i := 25) #[true, true, true, true, true, true, true, true, true, true, true, true, true, true, true, true, true, true, true, true, true, true, true, true, true, true, false, false] rfl (by kernel_rfl) (fun _ _ _ _ h => h) rfl rfl rfl rfl rfl ?_
     refine ga_no (i := 26) #[true, true, true, true, true, true, true, true, true, true, true, true, true, true, true, true, true, true, true, true, true, true, true, true, true, true, true, false] rfl (by kernel_rfl) (fun _ _ _ _ h => h) rfl rfl rfl rfl rfl h237 ?_
     refine ga_r (i := 27) #[true, true, true, true, true, true, true, true, true, true, true, true, true, true, true, true, true, true, true, true, true, true, true, true, true, true, true, true] rfl (by kernel_rfl) (by decide) rfl (r_pick1 rfl h237) ?_
     refine ga_done (by kernel_rfl) ?_
     refine d_then ?_
     refine c_flat [(0, .slice Ap0_0 p0.length cp0_0), (3, .int .i64 i127), (37, .bool true)] ⟨rfl, rfl, rfl, trivial⟩ (fun u => ?_)
     refine c_sta ⟨w0, M, H, R, φ⟩ (fun _ h => h) ?_
     refine c_cond1 rfl rfl ?_
     refine c_seq ?_
     refine c_region ?_
     refine g_v rfl r_assign ?_
     refine g_nil ?_
     refine d_then ?_
     refine c_ret ?_
     refine d_ret_block ?_
     refine d_ret_then ?_
     refine d_ret_then ?_
     refine d_ret_block ?_
     refine d_ret_then ?_
     refine d_ret_then ?_
     replace hm := nx_out (C := (fun e => Sum.elim (fun e => m_ref11_Right_j1 p0) (fun x => some x) e = some r)) hm hnx2 hr2
     replace hm : some false = some r := hm
     replace hm := Option.some.inj hm
     subst hm
     refine d_retC () Try.results96 ?_ trivial (fun W h => ok_pre (H1 := []) (R1 := []) h (fun W hφ => hφ)) (.inr rfl)
     refine res_tmp ?_
     refine res_nil ?_
     exact rfl
    ·
     replace hm := ite_f hm (of_decide_eq_false h237)
     refine ga_rG (i := 13) #[true, true, true, true, true, true, true, true, true, true, true, true, true, true, false, false, false, false, false, false, false, false, false, false, false, false, false, false] rfl (by kernel_rfl) (by decide) rfl rfl rfl rfl rfl h237 (r_move) ?_
     refine ga_rG (i := 14) #[true, true, true, true, true, true, true, true, true, true, true, true, true, true, true, false, false, false, false, false, false, false, false, false, false, false, false, false] rfl (by kernel_rfl) (by decide) rfl rfl rfl rfl rfl h237 (r_gtr rfl rfl) ?_
     refine ga_rG (i := 15) #[true, true, true, true, true, true, true, true, true, true, true, true, true, true, true, true, false, false, false, false, false, false, false, false, false, false, false, false] rfl (by kernel_rfl) (by decide) rfl rfl rfl rfl rfl h237 (r_move) ?_
     refine ga_if (t := 25) rfl (fun h238 => ?_) (fun h238 => ?_)
     ·
      replace hm := ite_t hm (of_decide_eq_true h238)
      refine ga_do (i := 16) #[true, true, true, true, true, true, true, true, true, true, true, true, true, true, true, true, true, false, false, false, false, false, false, false, false, false, false, false] rfl (by kernel_rfl) (fun _ _ _ _ h => h) rfl rfl rfl rfl rfl h238 (r_move) ?_
      refine ga_do (i := 17) #[true, true, true, true, true, true, true, true, true, true, true, true, true, true, true, true, true, true, false, false, false, false, false, false, false, false, false, false] rfl (by kernel_rfl) (fun _ _ _ _ h => h) rfl rfl rfl rfl rfl h238 (r_move) ?_
      replace hm := bnd hm
      obtain ⟨x239, hx239, hm⟩ := hm
      refine ga_know _ (fun W hS => cl_at (p := (Sta.mk w0 M H R φ).ok) (sz := 1) (fun _ => rfl) (by decide) (ok_pre (H1 := []) (R1 := []) hS (fun W h => h)) fp0_0 hx239) ?_
      rintro ⟨ad240, hA242, f241⟩
      refine ga_do (i := 18) #[true, true, true, true, true, true, true, true, true, true, true, true, true, true, true, true, true, true, true, false, false, false, false, false, false, false, false, false] rfl (by kernel_rfl) (fun _ _ _ _ h => h) rfl rfl rfl rfl rfl h238 (r_ix Try.underlying42 Try.sizeOf3 rfl hA242 rfl hx239) ?_
      refine ga_do (i := 19) #[true, true, true, true, true, true, true, true, true, true, true, true, true, true, true, true, true, true, true, true, false, false, false, false, false, false, false, false] rfl (by kernel_rfl) (fun _ _ _ _ h => h) rfl rfl rfl rfl rfl h238 (r_ld rfl Try.isAgg3 (fun W hS => Cl.head (f241 W (ok_pre (H1 := []) (R1 := []) hS (fun W h => h))))) ?_
      refine ga_do (i := 20) #[true, true, true, true, true, true, true, true, true, true, true, true, true, true, true, true, true, true, true, true, true, false, false, false, false, false, false, false] rfl (by kernel_rfl) (fun _ _ _ _ h => h) rfl rfl rfl rfl rfl h238 (r_move) ?_
      refine ga_rG (i := 21) #[true, true, true, true, true, true, true, true, true, true, true, true, true, true, true, true, true, true, true, true, true, true, false, false, false, false, false, false] rfl (by kernel_rfl) (by decide) rfl rfl rfl rfl rfl h238 (r_move) ?_
      refine ga_rG (i := 22) #[true, true, true, true, true, true, true, true, true, true, true, true, true, true, true, true, true, true, true, true, true, true, true, false, false, false, false, false] rfl (by kernel_rfl) (by decide) rfl rfl rfl rfl rfl h238 (r_sub rfl rfl rfl) ?_
      replace hm := bnd hm
      obtain ⟨x243, hx243, hm⟩ := hm
      refine ga_know _ (fun W hS => cl_at (p := (Sta.mk w0 M H R φ).ok) (sz := 1) (fun _ => rfl) (by decide) (ok_pre (H1 := []) (R1 := []) hS (fun W h => h)) fp0_0 hx243) ?_
      rintro ⟨ad244, hA246, f245⟩
      refine ga_rG (i := 23) #[true, true, true, true, true, true, true, true, true, true, true, true, true, true, true, true, true, true, true, true, true, true, true, true, false, false, false, false] rfl (by kernel_rfl) (by decide) rfl rfl rfl rfl rfl h238 (r_ix Try.underlying42 Try.sizeOf3 rfl hA246 rfl hx243) ?_
      refine ga_rG (i := 24) #[true, true, true, true, true, true, true, true, true, true, true, true, true, true, true, true, true, true, true, true, true, true, true, true, true, false, false, false] rfl (by kernel_rfl) (by decide) rfl rfl rfl rfl rfl h238 (r_ld rfl Try.isAgg3 (fun W hS => Cl.head (f245 W (ok_pre (H1 := []) (R1 := []) hS (fun W h => h))))) ?_
      refine ga_rG (i := 25) #[true, true, true, true, true, true, true, true, true, true, true, true, true, true, true, true, true, true, true, true, true, true, true, true, true, true, false, false] rfl (by kernel_rfl) (by decide) rfl rfl rfl rfl rfl h238 (r_leq rfl rfl) ?_
      refine ga_rG (i := 26) #[true, true, true, true, true, true, true, true, true, true, true, true, true, true, true, true, true, true, true, true, true, true, true, true, true, true, true, false] rfl (by kernel_rfl) (by decide) rfl rfl rfl rfl rfl h237 (r_pick1 rfl h238) ?_
      refine ga_r (i := 27) #[true, true, true, true, true, true, true, true, true, true, true, true, true, true, true, true, true, true, true, true, true, true, true, true, true, true, true, true] rfl (by kernel_rfl) (by decide) rfl (r_pick0 rfl h237) ?_
      refine ga_done (by kernel_rfl) ?_
      refine d_then ?_
      refine c_flat [(0, .slice Ap0_0 p0.length cp0_0), (3, .int .i64 i127), (37, .bool (decide (x239 ≤ x243)))] ⟨rfl, rfl, rfl, trivial⟩ (fun u => ?_)
      refine c_sta ⟨w0, M, H, R, φ⟩ (fun _ h => h) ?_
      refine c_cond rfl (fun h247 => ?_) (fun h247 => ?_)
      ·
       replace hm := ite_t hm (of_decide_eq_true h247)
       refine c_seq ?_
       refine c_region ?_
       refine g_v rfl r_assign ?_
       refine g_nil ?_
       refine d_then ?_
       refine c_ret ?_
       refine d_ret_block ?_
       refine d_ret_then ?_
       refine d_ret_then ?_
       refine d_ret_block ?_
       refine d_ret_then ?_
       refine d_ret_then ?_
       replace hm := nx_out (C := (fun e => Sum.elim (fun e => m_ref11_Right_j1 p0) (fun x => some x) e = some r)) hm hnx2 hr2
       replace hm : some false = some r := hm
       replace hm := Option.some.inj hm
       subst hm
       refine d_retC () Try.results96 ?_ trivial (fun W h => ok_pre (H1 := []) (R1 := []) h (fun W hφ => hφ)) (.inr rfl)
       refine res_tmp ?_
       refine res_nil ?_
       exact rfl
      ·
       replace hm := ite_f hm (of_decide_eq_false h247)
       refine c_skip ?_
       refine d_normal_block ?_
       refine d_then ?_
       refine c_region ?_
       refine g_v rfl r_move ?_
       refine g_v rfl (r_add rfl rfl rfl) ?_
       refine g_v rfl r_assign ?_
       refine g_nil ?_
       obtain ⟨n248, hn248, hlp⟩ := nx_inl hm hnx2
       exact d_round (n248, w64 (i127 + 1)) hlp hn248 ⟨rfl, rfl, trivial⟩ (fun W h => h.phi (fun W hφ => hφ))
     ·
      replace hm := ite_f hm (of_decide_eq_false h238)
      refine ga_no (i := 16) #[true, true, true, true, true, true, true, true, true, true, true, true, true, true, true, true, true, false, false, false, false, false, false, false, false, false, false, false] rfl (by kernel_rfl) (fun _ _ _ _ h => h) rfl rfl rfl rfl rfl h238 ?_
      refine ga_no (i := 17) #[true, true, true, true, true, true, true, true, true, true, true, true, true, true, true, true, true, true, false, false, false, false, false, false, false, false, false, false] rfl (by kernel_rfl) (fun _ _ _ _ h => h) rfl rfl rfl rfl rfl h238 ?_
      refine ga_no (i := 18) #[true, true, true, true, true, true, true, true, true, true, true, true, true, true, true, true, true, true, true, false, false, false, false, false, false, false, false, false] rfl (by kernel_rfl) (fun _ _ _ _ h => h) rfl rfl rfl rfl rfl h238 ?_
      refine ga_no (i := 19) #[true, true, true, true, true, true, true, true, true, true, true, true, true, true, true, true, true, true, true, true, false, false, false, false, false, false, false, false] rfl (by kernel_rfl) (fun _ _ _ _ h => h) rfl rfl rfl rfl rfl h238 ?_
      refine ga_no (i := 20) #[true, true, true, true, true, true, true, true, true, true, true, true, true, true, true, true, true, true, true, true, true, false, false, false, false, false, false, false] rfl (by kernel_rfl) (fun _ _ _ _ h => h) rfl rfl rfl rfl rfl h238 ?_
      refine ga_no (i := 21) #[true, true, true, true, true, true, true, true, true, true, true, true, true, true, true, true, true, true, true, true, true, true, false, false, false, false, false, false] rfl (by kernel_rfl) (fun _ _ _ _ h => h) rfl rfl rfl rfl rfl h238 ?_
      refine ga_no (i := 22) #[true, true, true, true, true, true, true, true, true, true, true, true, true, true, true, true, true, true, true, true, true, true, true, false, false, false, false, false] rfl (by kernel_rfl) (fun _ _ _ _ h => h) rfl rfl rfl rfl rfl h238 ?_
      refine ga_no (i := 23) #[true, true, true, true, true, true, true, true, true, true, true, true, true, true, true, true, true, true, true, true, true, true, true, true, false, false, false, false] rfl (by kernel_rfl) (fun _ _ _ _ h => h) rfl rfl rfl rfl rfl h238 ?_
      refine ga_no (i := 24) #[true, true, true, true, true, true, true, true, true, true, true, true, true, true, true, true, true, true, true, true, true, true, true, true, true, false, false, false] rfl (by kernel_rfl) (fun _ _ _ _ h => h) rfl rfl rfl rfl rfl h238 ?_
      refine ga_no (i := 25) #[true, true, true, true, true, true, true, true, true, true, true, true, true, true, true, true, true, true, true, true, true, true, true, true, true, true, false, false] rfl (by kernel_rfl) (fun _ _ _ _ h => h) rfl rfl rfl rfl rfl h238 ?_
      refine ga_rG (i := 26) #[true, true, true, true, true, true, true, true, true, true, true, true, true, true, true, true, true, true, true, true, true, true, true, true, true, true, true, false] rfl (by kernel_rfl) (by decide) rfl rfl rfl rfl rfl h237 (r_pick0 rfl h238) ?_
      refine ga_r (i := 27) #[true, true, true, true, true, true, true, true, true, true, true, true, true, true, true, true, true, true, true, true, true, true, true, true, true, true, true, true] rfl (by kernel_rfl) (by decide) rfl (r_pick0 rfl h237) ?_
      refine ga_done (by kernel_rfl) ?_
      refine d_then ?_
      refine c_flat [(0, .slice Ap0_0 p0.length cp0_0), (3, .int .i64 i127), (37, .bool false)] ⟨rfl, rfl, rfl, trivial⟩ (fun u => ?_)
      refine c_sta ⟨w0, M, H, R, φ⟩ (fun _ h => h) ?_
      refine c_cond0 rfl rfl ?_
      refine c_skip ?_
      refine d_normal_block ?_
      refine d_then ?_
      refine c_region ?_
      refine g_v rfl r_move ?_
      refine g_v rfl (r_add rfl rfl rfl) ?_
      refine g_v rfl r_assign ?_
      refine g_nil ?_
      obtain ⟨n249, hn249, hlp⟩ := nx_inl hm hnx2
      exact d_round (n249, w64 (i127 + 1)) hlp hn249 ⟨rfl, rfl, trivial⟩ (fun W h => h.phi (fun W hφ => hφ))
  ·
   replace hm := ite_f hm (of_decide_eq_false h189)
   refine c_exit ?_
   refine d_exit_then ?_
   refine d_exit_then ?_
   refine d_exit_block ?_
   replace hm := nx_out (C := (fun e => Sum.elim (fun e => m_ref11_Right_j1 p0) (fun x => some x) e = some r)) hm hnx2 hr2
   exact d_round () hm Nat.zero_lt_one ⟨rfl, trivial⟩ (fun W h => h.phi (fun W hφ => hφ))
 ·
  unfold m_ref11_Right_j1 at hm
  refine d_flat [(0, .slice Ap0_0 p0.length cp0_0)] ⟨rfl, trivial⟩ (fun u => ?_)
  refine d_sta ⟨w0, M, H, R, φ⟩ (fun _ h => h) ?_
  refine d_then ?_
  refine c_seq ?_
  refine c_region ?_
  refine g_v rfl r_move ?_
  refine g_v rfl (r_lenL Try.underlying42 rfl) ?_
  refine g_v rfl (r_gtr rfl rfl) ?_
  refine g_v rfl r_assign ?_
  refine g_nil ?_
  refine d_then ?_
  refine c_ret ?_
  replace hm := Option.some.inj hm
  subst hm
  refine d_retC () Try.results96 ?_ trivial (fun W h => ok_pre (H1 := []) (R1 := []) h (fun W hφ => hφ)) (.inr rfl)
  refine res_tmp ?_
  refine res_nil ?_
  exact rfl

noncomputable def m_ref11_Last (p0 : GLog) : Option Int :=
  some (w64 (p0.fBase + (p0.fEntries.length : Int)))
theorem c_ref11_Last {w0 : World} {M : Nat → Prop} {H : List (Nat × Nat × Obj)} {R : List (Nat × Row)} {φ : World → Prop} (p0 : GLog) (Ap0_0 : Option Addr) (cp0_0 : Nat) (hcp0_0 : p0.fEntries.length ≤ cp0_0) (fp0_0 : ∀ W, (Sta.mk w0 M H R φ).ok W → Cl W Ap0_0 (p0.fEntries.flatMap GEntry.enc)) (r : Int) (hm : m_ref11_Last p0 = some r) :
    Cn Try.prog 39 #[.agg #[.int .i64 p0.fBase, .int .i64 p0.fBaseTerm, .slice Ap0_0 p0.fEntries.length cp0_0]] ⟨w0, M, H, R, φ⟩ (fun x : Unit => .int .i64 r) (fun x => True) (fun x => ⟨w0, M, H, R, φ⟩) := by
 unfold m_ref11_Last at hm
 refine cn_intro (fn := Try.f39) (N := 9) Try.func39 rfl Try.ntmps39 rfl ?_
 refine c_seq ?_
 refine c_region ?_
 refine g_e rfl (e_box 100010 rfl) (fun g1 _ => ?_)
 refine g_v rfl r_assign ?_
 refine g_nil ?_
 refine d_then ?_
 refine c_seq ?_
 refine c_region ?_
 refine g_v rfl (r_field (n := 0) Try.underlying26 rfl Try.sizeOf3 rfl rfl) ?_
 refine g_v rfl (r_load (tag := 100010) rfl rfl rfl Try.isAgg3) ?_
 refine g_v rfl (r_field (n := 2) Try.underlying26 rfl Try.sizeOf24 rfl rfl) ?_
 refine g_v rfl (r_load (tag := 100010) rfl rfl rfl Try.isAgg24) ?_
 refine g_v rfl (r_lenL Try.underlying24 rfl) ?_
 refine g_v rfl (r_add rfl rfl rfl) ?_
 refine g_v rfl r_assign ?_
 refine g_nil ?_
 refine d_then ?_
 refine c_flat [(2, .int .i64 (w64 (p0.fBase + (p0.fEntries.length : Int))))] ⟨rfl, trivial⟩ (fun u => ?_)
 refine c_sta ⟨w0, M, (100010, g1, .cells #[.int .i64 p0.fBase, .int .i64 p0.fBaseTerm, .slice Ap0_0 p0.fEntries.length cp0_0] 26 (0, 0)) :: H, R, φ⟩ (fun _ h => h) ?_
 refine c_ret ?_
 replace hm := Option.some.inj hm
 subst hm
 refine d_retC () Try.results39 ?_ trivial (fun W h => ok_pre (H1 := [_]) (R1 := []) h (fun W hφ => hφ)) (.inr rfl)
 refine res_tmp ?_
 refine res_nil ?_
 exact rfl

theorem bld26_9 (z0 : Int) (z1 : Int) (zA2 : Option Addr) (zn2 : Nat) (zc2 : Nat) : ∀ W, (Instr.build 26 #[(0, .int .i64 z0), (1, .int .i64 z1), (2, .slice zA2 zn2 zc2)]).run Try.prog W = .ok (.agg #[.int .i64 z0, .int .i64 z1, .slice zA2 zn2 zc2]) W := fun _ => by kernel_rfl
noncomputable def m_ref11_Add (p0 : GLog) (p1 : List GEntry) : Option GLog :=
  (app 32 ([] : List GEntry) p0.fEntries).bind fun l4 =>
  (app 32 l4 p1).bind fun l7 =>
  some (⟨p0.fBase, p0.fBaseTerm, l7⟩ : GLog)
theorem c_ref11_Add {w0 : World} {M : Nat → Prop} {H : List (Nat × Nat × Obj)} {R : List (Nat × Row)} {φ : World → Prop} (p0 : GLog) (Ap0_0 : Option Addr) (cp0_0 : Nat) (hcp0_0 : p0.fEntries.length ≤ cp0_0) (fp0_0 : ∀ W, (Sta.mk w0 M H R φ).ok W → Cl W Ap0_0 (p0.fEntries.flatMap GEntry.enc)) (p1 : List GEntry) (Ap1_0 : Option Addr) (cp1_0 : Nat) (hcp1_0 : p1.length ≤ cp1_0) (fp1_0 : ∀ W, (Sta.mk w0 M H R φ).ok W → Cl W Ap1_0 (p1.flatMap GEntry.enc)) (r : GLog) (hm : m_ref11_Add p0 p1 = some r) :
    Cn Try.prog 97 #[.agg #[.int .i64 p0.fBase, .int .i64 p0.fBaseTerm, .slice Ap0_0 p0.fEntries.length cp0_0], .slice Ap1_0 p1.length cp1_0] ⟨w0, M, H, R, φ⟩ (fun x : Option Addr × Nat => .agg #[.int .i64 r.fBase, .int .i64 r.fBaseTerm, .slice x.1 r.fEntries.length x.2]) (fun x => r.fEntries.length ≤ x.2) (fun x => ⟨w0, M, H, R, fun W => φ W ∧ Cl W x.1 (r.fEntries.flatMap GEntry.enc)⟩) := by
 unfold m_ref11_Add at hm
 refine cn_intro (fn := Try.f97) (N := 23) Try.func97 rfl Try.ntmps97 rfl ?_
 refine c_seq ?_
 refine c_region ?_
 refine g_e rfl (e_box 100020 rfl) (fun g1 _ => ?_)
 refine g_e rfl (e_alloc 100040 Try.zeroValue26) (fun g2 _ => ?_)
 refine g_nil ?_
 refine d_then ?_
 refine c_seq ?_
 refine c_region ?_
 refine g_v rfl (r_field (n := 0) Try.underlying26 rfl Try.sizeOf3 rfl rfl) ?_
 refine g_v rfl (r_load (tag := 100020) rfl rfl rfl Try.isAgg3) ?_
 refine g_v rfl (r_field (n := 1) Try.underlying26 rfl Try.sizeOf3 rfl rfl) ?_
 refine g_v rfl (r_load (tag := 100020) rfl rfl rfl Try.isAgg3) ?_
 refine g_v rfl (r_build _ rfl (bld26_0 _ _)) ?_
 refine g_e rfl (e_alloc 100050 Try.zeroValue26) (fun g3 _ => ?_)
 refine g_storeL (tag := 100050) rfl rfl rfl rfl Try.sizeOf26 rfl rfl ?_
 refine g_nil ?_
 refine d_then ?_
 refine c_flat [(1, .slice Ap1_0 p1.length cp1_0), (2, .pointer (some ⟨g1, 0, none⟩)), (4, .pointer (some ⟨g2, 0, none⟩)), (5, .pointer (some ⟨g3, 0, none⟩))] ⟨rfl, rfl, rfl, rfl, trivial⟩ (fun u => ?_)
 refine c_sta ⟨w0, M, (100050, g3, .cells #[.int .i64 p0.fBase, .int .i64 p0.fBaseTerm, .slice none 0 0] 26 (0, 0)) :: (100040, g2, .cells #[.int .i64 0, .int .i64 0, .slice none 0 0] 26 (0, 0)) :: (100020, g1, .cells #[.int .i64 p0.fBase, .int .i64 p0.fBaseTerm, .slice Ap0_0 p0.fEntries.length cp0_0] 26 (0, 0)) :: H, R, φ⟩ (fun _ h => h) ?_
 refine c_seq ?_
 refine c_region ?_
 refine g_v rfl (r_field (n := 2) Try.underlying26 rfl Try.sizeOf24 rfl rfl) ?_
 refine g_v rfl (r_load (tag := 100050) rfl rfl rfl Try.isAgg24) ?_
 refine g_v rfl (r_field (n := 2) Try.underlying26 rfl Try.sizeOf24 rfl rfl) ?_
 refine g_v rfl (r_load (tag := 100020) rfl rfl rfl Try.isAgg24) ?_
 refine g_sta _ (fun W h => nilR h 1 35 3) ?_
 replace hm := bnd hm
 obtain ⟨l4, hl4, hm⟩ := hm
 refine g_e rfl (e_appR (enc := GEntry.enc) (l := []) (l1 := p0.fEntries) (l2 := l4) (tag := 1) Try.underlying24 inf35_6 rfl (by decide) (by decide) (fun _ => rfl) (fun _ => rfl) rfl (Nat.le_refl 0) rfl rfl (fun W hS => fp0_0 W (ok_pre (H1 := [_, _, _]) (R1 := [_]) hS (fun W h => h))) hl4) (fun ⟨A5, c6⟩ hc6 => ?_)
 refine g_v rfl (r_field (n := 2) Try.underlying26 rfl Try.sizeOf24 rfl rfl) ?_
 refine g_storeL (tag := 100050) rfl rfl rfl rfl Try.sizeOf24 rfl rfl ?_
 refine g_nil ?_
 refine d_then ?_
 refine c_seq ?_
 refine c_region ?_
 refine g_v rfl (r_field (n := 2) Try.underlying26 rfl Try.sizeOf24 rfl rfl) ?_
 refine g_v rfl (r_load (tag := 100050) rfl rfl rfl Try.isAgg24) ?_
 refine g_v rfl r_move ?_
 replace hm := bnd hm
 obtain ⟨l7, hl7, hm⟩ := hm
 refine g_e rfl (e_appR (enc := GEntry.enc) (l := l4) (l1 := p1) (l2 := l7) (tag := 1) Try.underlying24 inf35_6 rfl (by decide) (by decide) (fun _ => rfl) (fun _ => rfl) rfl hc6 rfl rfl (fun W hS => fp1_0 W (ok_pre (H1 := [_, _, _]) (R1 := [_]) hS (fun W h => h))) hl7) (fun ⟨A8, c9⟩ hc9 => ?_)
 refine g_v rfl (r_field (n := 2) Try.underlying26 rfl Try.sizeOf24 rfl rfl) ?_
 refine g_storeL (tag := 100050) rfl rfl rfl rfl Try.sizeOf24 rfl rfl ?_
 refine g_nil ?_
 refine d_then ?_
 refine c_flat [(4, .pointer (some ⟨g2, 0, none⟩)), (5, .pointer (some ⟨g3, 0, none⟩))] ⟨rfl, rfl, trivial⟩ (fun u => ?_)
 refine c_sta ⟨w0, M, (100050, g3, .cells #[.int .i64 p0.fBase, .int .i64 p0.fBaseTerm, .slice A8 l7.length c9] 26 (0, 0)) :: (100040, g2, .cells #[.int .i64 0, .int .i64 0, .slice none 0 0] 26 (0, 0)) :: (100020, g1, .cells #[.int .i64 p0.fBase, .int .i64 p0.fBaseTerm, .slice Ap0_0 p0.fEntries.length cp0_0] 26 (0, 0)) :: H, (1, ⟨.slice A8 l7.length c9, 35, 3, l7.length, l7.flatMap GEntry.enc⟩) :: R, φ⟩ (fun _ h => h) ?_
 refine c_seq ?_
 refine c_region ?_
 refine g_v rfl (r_loadA (tag := 100050) rfl rfl Try.isAgg26 Try.sizeOf26 rfl rfl) ?_
 refine g_storeL (tag := 100040) rfl rfl rfl rfl Try.sizeOf26 rfl rfl ?_
 refine g_nil ?_
 refine d_then ?_
 refine c_ret ?_
 replace hm := Option.some.inj hm
 subst hm
 refine d_shut (tag := 1) rfl (fun φ10 q10' => ?_)
 have q10 : ∀ W, φ10 W → φ W := fun W h => (q10' W h).1
 have f11 := fun (W : World) (h : φ10 W) => (q10' W h).2
 refine d_retC (A8, c9) Try.results97 ?_ hc9 (fun W h => ok_pre (H1 := [_, _, _]) (R1 := []) h (fun W hφ => ⟨(q10 _ hφ), (fun W h => f11 W h) W hφ⟩)) (.inr rfl)
 refine res_agg (tag := 100040) rfl rfl Try.isAgg26 Try.sizeOf26 ?_
 refine res_nil ?_
 exact rfl

noncomputable def m_ref11_List_j1 (p0 : ByteArray) (l107 : List Int) : Option ((List Int) × Bool) :=
  some (l107, decide (0 < (p0.size : Int)))
noncomputable def m_ref11_List_j3 (p0 : ByteArray) (i129 : Int) (l126 : List Int) : Option (((List Int) × Int) ⊕ ((List Int) ⊕ ((List Int) × Bool))) :=
  (sat_ p0 i129).bind fun b174 =>
  (app 8 l126 [w64 b174]).bind fun l176 =>
  some (.inl (l176, w64 (i129 + 1)))
noncomputable def m_ref11_List_s2 (p0 : ByteArray) (l126 : List Int) (i129 : Int) : Option (((List Int) × Int) ⊕ ((List Int) ⊕ ((List Int) × Bool))) :=
  if i129 < (p0.size : Int) then
    (sat_ p0 i129).bind fun b190 =>
    if 63 < b190 then
      some (.inr (.inr (([] : List Int), false)))
    else
      if 0 < i129 then
        (sat_ p0 i129).bind fun b193 =>
        (sat_ p0 (w64 (i129 - 1))).bind fun b194 =>
        if b193 ≤ b194 then
          some (.inr (.inr (([] : List Int), false)))
        else
          m_ref11_List_j3 p0 i129 l126
      else
        m_ref11_List_j3 p0 i129 l126
  else
    some (.inr (.inl l126))
noncomputable def m_ref11_List (p0 : ByteArray) : Option ((List Int) × Bool) :=
  (loop (fun s => m_ref11_List_s2 p0 s.1 s.2) (([] : List Int), 0)).bind fun e => Sum.elim (fun e => m_ref11_List_j1 p0 e) (fun x => some x) e
theorem c_ref11_List {w0 : World} {M : Nat → Prop} {H : List (Nat × Nat × Obj)} {R : List (Nat × Row)} {φ : World → Prop} (p0 : ByteArray) (r : (List Int) × Bool) (hm : m_ref11_List p0 = some r) :
    Cn Try.prog 24 #[.string p0] ⟨w0, M, H, R, φ⟩ (fun x : Option Addr × Nat => .tuple #[.slice x.1 r.1.length x.2, .bool r.2]) (fun x => r.1.length ≤ x.2) (fun x => ⟨w0, M, H, (2000, ⟨.slice x.1 r.1.length x.2, 3, 1, r.1.length, r.1.flatMap (fun x : Int => [Value.int .i64 x])⟩) :: R, φ⟩) := by
 unfold m_ref11_List at hm
 refine cn_intro (fn := Try.f24) (N := 41) Try.func24 rfl Try.ntmps24 rfl ?_
 refine c_seq ?_
 refine c_region ?_
 refine g_v rfl r_assign ?_
 refine g_v rfl r_assign ?_
 refine g_nil ?_
 refine d_then ?_
 refine c_seq ?_
 refine c_region ?_
 refine g_v rfl r_assign ?_
 refine g_nil ?_
 refine d_then ?_
 refine c_seq ?_
 refine c_seq ?_
 refine c_region ?_
 refine g_v rfl r_assign ?_
 refine g_nil ?_
 refine d_then ?_
 refine c_sta _ (fun W h => nilR h 7 3 1) ?_
 refine c_cut (ι := (List Int) × Option Addr × Nat) [0, 4] (fun ⟨l107, A108, c109⟩ => [(4, .slice A108 l107.length c109)]) (fun ⟨l107, A108, c109⟩ => ⟨w0, M, H, (7, ⟨.slice A108 l107.length c109, 3, 1, l107.length, l107.flatMap (fun x : Int => [Value.int .i64 x])⟩) :: R, φ⟩) (fun ⟨l107, A108, c109⟩ => m_ref11_List_j1 p0 l107 = some r ∧ l107.length ≤ c109) ?_ (fun ⟨l107, A108, c109⟩ u ⟨hm, hc109⟩ => ?_)
 ·
  refine c_block ?_
  replace hm := bnd hm
  obtain ⟨out2, hl2, hr2⟩ := hm
  obtain ⟨n156', hl2⟩ := loop_lp hl2
  refine c_loopU (ι := Nat × (List Int) × Int × Option Addr × Nat) [0, 4, 5] (fun ⟨n156, l126, i129, A127, c128⟩ => [(4, .slice A127 l126.length c128), (5, .int .i64 i129)]) (fun ⟨n156, l126, i129, A127, c128⟩ => ⟨w0, M, H, (7, ⟨.slice A127 l126.length c128, 3, 1, l126.length, l126.flatMap (fun x : Int => [Value.int .i64 x])⟩) :: R, φ⟩) (fun ⟨n156, l126, i129, A127, c128⟩ => Lp (fun s => m_ref11_List_s2 p0 s.1 s.2) n156 (l126, i129) out2 ∧ l126.length ≤ c128) (fun ⟨n156, l126, i129, A127, c128⟩ => n156) (n156', ([] : List Int), 0, none, 0) ⟨hl2, (Nat.le_refl 0)⟩ ⟨rfl, rfl, rfl, trivial⟩ (fun W h => h.phi (fun W hφ => hφ)) (fun ⟨n156, l126, i129, A127, c128⟩ u ⟨hlp, hc128⟩ => ?_)
  obtain ⟨o2, hm, hnx2⟩ := lp_step hlp
  clear hlp
  replace hm : m_ref11_List_s2 p0 l126 i129 = some o2 := hm
  unfold m_ref11_List_s2 at hm
  refine c_flat [(0, .string p0), (4, .slice A127 l126.length c128), (5, .int .i64 i129)] ⟨rfl, rfl, rfl, trivial⟩ (fun u => ?_)
  refine c_sta ⟨w0, M, H, (7, ⟨.slice A127 l126.length c128, 3, 1, l126.length, l126.flatMap (fun x : Int => [Value.int .i64 x])⟩) :: R, φ⟩ (fun _ h => h) ?_
  refine c_seq ?_
  refine c_seq ?_
  refine c_region ?_
  refine g_v rfl r_move ?_
  refine g_v rfl r_move ?_
  refine g_v rfl (r_len Try.underlying9 rfl) ?_
  refine g_v rfl (r_lss rfl rfl) ?_
  refine g_nil ?_
  refine d_then ?_
  refine c_cond rfl (fun h157 => ?_) (fun h157 => ?_)
  ·
   replace hm := ite_t hm (of_decide_eq_true h157)
   refine c_skip ?_
   refine d_then ?_
   refine c_seq ?_
   refine c_block ?_
   refine c_seq ?_
   refine c_cut (ι := Unit) [0, 4, 5] (fun _ => []) (fun _ => ⟨w0, M, H, (7, ⟨.slice A127 l126.length c128, 3, 1, l126.length, l126.flatMap (fun x : Int => [Value.int .i64 x])⟩) :: R, φ⟩) (fun _ => m_ref11_List_j3 p0 i129 l126 = some o2) ?_ (fun _ u hm => ?_)
   ·
    refine c_seq ?_
    refine ga_start (n := 18) ⟨w0, M, H, (7, ⟨.slice A127 l126.length c128, 3, 1, l126.length, l126.flatMap (fun x : Int => [Value.int .i64 x])⟩) :: R, φ⟩ [] #[false, false, false, false, false, false, false, false, false, false, false, false, false, false, false, false, false, false] (fun W h => h.phi (fun W hφ => hφ)) mixed rfl rfl ?_
    refine ga_v (i := 0) #[true, false, false, false, false, false, false, false, false, false, false, false, false, false, false, false, false, false] rfl (by kernel_rfl) (fun _ _ _ _ h => h) rfl (r_move) ?_
    refine ga_r (i := 1) #[true, true, false, false, false, false, false, false, false, false, false, false, false, false, false, false, false, false] rfl (by kernel_rfl) (by decide) rfl (r_move) ?_
    replace hm := bnd hm
    obtain ⟨b190, hb190, hm⟩ := hm
    refine ga_r (i := 2) #[true, true, true, false, false, false, false, false, false, false, false, false, false, false, false, false, false, false] rfl (by kernel_rfl) (by decide) rfl (r_sat Try.underlying9 rfl rfl hb190) ?_
    refine ga_r (i := 3) #[true, true, true, true, false, false, false, false, false, false, false, false, false, false, false, false, false, false] rfl (by kernel_rfl) (by decide) rfl (r_gtr rfl rfl) ?_
    refine ga_r (i := 4) #[true, true, true, true, true, false, false, false, false, false, false, false, false, false, false, false, false, false] rfl (by kernel_rfl) (by decide) rfl (r_move) ?_
    refine ga_if (t := 16) rfl (fun h191 => ?_) (fun h191 => ?_)
    ·
     replace hm := ite_t hm (of_decide_eq_true h191)
     refine ga_no (i := 5) #[true, true, true, true, true, true, false, false, false, false, false, false, false, false, false, false, false, false] rfl (by kernel_rfl) (fun _ _ _ _ h => h) rfl rfl rfl rfl rfl h191 ?_
     refine ga_no (i := 6) #[true, true, true, true, true, true, true, false, false, false, false, false, false, false, false, false, false, false] rfl (by kernel_rfl) (fun _ _ _ _ h => h) rfl rfl rfl rfl rfl h191 ?_
     refine ga_no (i := 7) #[true, true, true, true, true, true, true, true, false, false, false, false, false, false, false, false, false, false] rfl (by kernel_rfl) (fun _ _ _ _ h => h) rfl rfl rfl rfl rfl h191 ?_
     refine ga_nu (i := 8) #[true, true, true, true, true, true, true, true, true, false, false, false, false, false, false, false, false, false] rfl (by kernel_rfl) (fun _ _ _ _ h => h) rfl rfl rfl rfl rfl ?_
     refine ga_nu (i := 9) #[true, true, true, true, true, true, true, true, true, true, false, false, false, false, false, false, false, false] rfl (by kernel_rfl) (fun _ _ _ _ h => h) rfl rfl rfl rfl rfl ?_
     refine ga_nu (i := 10) #[true, true, true, true, true, true, true, true, true, true, true, false, false, false, false, false, false, false] rfl (by kernel_rfl) (fun _ _ _ _ h => h) rfl rfl rfl rfl rfl ?_
     refine ga_nu (i := 11) #[true, true, true, true, true, true, true, true, true, true, true, true, false, false, false, false, false, false] rfl (by kernel_rfl) (fun _ _ _ _ h => h) rfl rfl rfl rfl rfl ?_
     refine ga_nu (i := 12) #[true, true, true, true, true, true, true, true, true, true, true, true, true, false, false, false, false, false] rfl (by kernel_rfl) (fun _ _ _ _ h => h) rfl rfl rfl rfl rfl ?_
     refine ga_nu (i := 13) #[true, true, true, true, true, true, true, true, true, true, true, true, true, true, false, false, false, false] rfl (by kernel_rfl) (fun _ _ _ _ h => h) rfl rfl rfl rfl rfl ?_
     refine ga_nu (i := 14) #[true, true, true, true, true, true, true, true, true, true, true, true, true, true, true, false, false, false] rfl (by kernel_rfl) (fun _ _ _ _ h => h) rfl rfl rfl rfl rfl ?_
     refine ga_nu (i := 15) #[true, true, true, true, true, true, true, true, true, true, true, true, true, true, true, true, false, false] rfl (by kernel_rfl) (fun _ _ _ _ h => h) rfl rfl rfl rfl rfl ?_
     refine ga_no (i := 16) #[true, true, true, true, true, true, true, true, true, true, true, true, true, true, true, true, true, false] rfl (by kernel_rfl) (fun _ _ _ _ h => h) rfl rfl rfl rfl rfl h191 ?_
     refine ga_r (i := 17) #[true, true, true, true, true, true, true, true, true, true, true, true, true, true, true, true, true, true] rfl (by kernel_rfl) (by decide) rfl (r_pick1 rfl h191) ?_
     refine ga_done (by kernel_rfl) ?_
     refine d_then ?_
     refine c_flat [(0, .string p0), (4, .slice A127 l126.length c128), (5, .int .i64 i129), (29, .bool true)] ⟨rfl, rfl, rfl, rfl, trivial⟩ (fun u => ?_)
     refine c_sta ⟨w0, M, H, (7, ⟨.slice A127 l126.length c128, 3, 1, l126.length, l126.flatMap (fun x : Int => [Value.int .i64 x])⟩) :: R, φ⟩ (fun _ h => h) ?_
     refine c_cond1 rfl rfl ?_
     refine c_seq ?_
     refine c_region ?_
     refine g_v rfl r_assign ?_
     refine g_v rfl r_assign ?_
     refine g_nil ?_
     refine d_then ?_
     refine c_ret ?_
     refine d_ret_then ?_
     refine d_ret_then ?_
     refine d_ret_block ?_
     refine d_ret_then ?_
     refine d_ret_then ?_
     refine d_ret_block ?_
     refine d_ret_then ?_
     refine d_ret_then ?_
     replace hm := nx_out (C := (fun e => Sum.elim (fun e => m_ref11_List_j1 p0 e) (fun x => some x) e = some r)) hm hnx2 hr2
     replace hm : some (([] : List Int), false) = some r := hm
     replace hm := Option.some.inj hm
     subst hm
     refine d_sta _ (fun W h => nilR h 16 3 1) ?_
     refine d_sta _ (fun W h => ok_frontR (t := 16) (t' := 2000) h rfl) ?_
     refine d_retC (none, 0) Try.results24 ?_ (Nat.le_refl 0) (fun W h => ((h.shut (t := 7) rfl).phi (fun _ hh => hh.1)).phi (fun W hφ => hφ)) (.inr rfl)
     refine res_tmp ?_
     refine res_tmp ?_
     refine res_nil ?_
     exact rfl
    ·
     replace hm := ite_f hm (of_decide_eq_false h191)
     refine ga_rG (i := 5) #[true, true, true, true, true, true, false, false, false, false, false, false, false, false, false, false, false, false] rfl (by kernel_rfl) (by decide) rfl rfl rfl rfl rfl h191 (r_move) ?_
     refine ga_rG (i := 6) #[true, true, true, true, true, true, true, false, false, false, false, false, false, false, false, false, false, false] rfl (by kernel_rfl) (by decide) rfl rfl rfl rfl rfl h191 (r_gtr rfl rfl) ?_
     refine ga_rG (i := 7) #[true, true, true, true, true, true, true, true, false, false, false, false, false, false, false, false, false, false] rfl (by kernel_rfl) (by decide) rfl rfl rfl rfl rfl h191 (r_move) ?_
     refine ga_if (t := 19) rfl (fun h192 => ?_) (fun h192 => ?_)
     ·
      replace hm := ite_t hm (of_decide_eq_true h192)
      refine ga_do (i := 8) #[true, true, true, true, true, true, true, true, true, false, false, false, false, false, false, false, false, false] rfl (by kernel_rfl) (fun _ _ _ _ h => h) rfl rfl rfl rfl rfl h192 (r_move) ?_
      refine ga_do (i := 9) #[true, true, true, true, true, true, true, true, true, true, false, false, false, false, false, false, false, false] rfl (by kernel_rfl) (fun _ _ _ _ h => h) rfl rfl rfl rfl rfl h192 (r_move) ?_
      replace hm := bnd hm
      obtain ⟨b193, hb193, hm⟩ := hm
      refine ga_do (i := 10) #[true, true, true, true, true, true, true, true, true, true, true, false, false, false, false, false, false, false] rfl (by kernel_rfl) (fun _ _ _ _ h => h) rfl rfl rfl rfl rfl h192 (r_sat Try.underlying9 rfl rfl hb193) ?_
      refine ga_do (i := 11) #[true, true, true, true, true, true, true, true, true, true, true, true, false, false, false, false, false, false] rfl (by kernel_rfl) (fun _ _ _ _ h => h) rfl rfl rfl rfl rfl h192 (r_move) ?_
      refine ga_rG (i := 12) #[true, true, true, true, true, true, true, true, true, true, true, true, true, false, false, false, false, false] rfl (by kernel_rfl) (by decide) rfl rfl rfl rfl rfl h192 (r_move) ?_
      refine ga_rG (i := 13) #[true, true, true, true, true, true, true, true, true, true, true, true, true, true, false, false, false, false] rfl (by kernel_rfl) (by decide) rfl rfl rfl rfl rfl h192 (r_sub rfl rfl rfl) ?_
      replace hm := bnd hm
      obtain ⟨b194, hb194, hm⟩ := hm
      refine ga_rG (i := 14) #[true, true, true, true, true, true, true, true, true, true, true, true, true, true, true, false, false, false] rfl (by kernel_rfl) (by decide) rfl rfl rfl rfl rfl h192 (r_sat Try.underlying9 rfl rfl hb194) ?_
      refine ga_rG (i := 15) #[true, true, true, true, true, true, true, true, true, true, true, true, true, true, true, true, false, false] rfl (by kernel_rfl) (by decide) rfl rfl rfl rfl rfl h192 (r_leq rfl rfl) ?_
      refine ga_rG (i := 16) #[true, true, true, true, true, true, true, true, true, true, true, true, true, true, true, true, true, false] rfl (by kernel_rfl) (by decide) rfl rfl rfl rfl rfl h191 (r_pick1 rfl h192) ?_
      refine ga_r (i := 17) #[true, true, true, true, true, true, true, true, true, true, true, true, true, true, true, true, true, true] rfl (by kernel_rfl) (by decide) rfl (r_pick0 rfl h191) ?_
      refine ga_done (by kernel_rfl) ?_
      refine d_then ?_
      refine c_flat [(0, .string p0), (4, .slice A127 l126.length c128), (5, .int .i64 i129), (29, .bool (decide (b193 ≤ b194)))] ⟨rfl, rfl, rfl, rfl, trivial⟩ (fun u => ?_)
      refine c_sta ⟨w0, M, H, (7, ⟨.slice A127 l126.length c128, 3, 1, l126.length, l126.flatMap (fun x : Int => [Value.int .i64 x])⟩) :: R, φ⟩ (fun _ h => h) ?_
      refine c_cond rfl (fun h195 => ?_) (fun h195 => ?_)
      ·
       replace hm := ite_t hm (of_decide_eq_true h195)
       refine c_seq ?_
       refine c_region ?_
       refine g_v rfl r_assign ?_
       refine g_v rfl r_assign ?_
       refine g_nil ?_
       refine d_then ?_
       refine c_ret ?_
       refine d_ret_then ?_
       refine d_ret_then ?_
       refine d_ret_block ?_
       refine d_ret_then ?_
       refine d_ret_then ?_
       refine d_ret_block ?_
       refine d_ret_then ?_
       refine d_ret_then ?_
       replace hm := nx_out (C := (fun e => Sum.elim (fun e => m_ref11_List_j1 p0 e) (fun x => some x) e = some r)) hm hnx2 hr2
       replace hm : some (([] : List Int), false) = some r := hm
       replace hm := Option.some.inj hm
       subst hm
       refine d_sta _ (fun W h => nilR h 17 3 1) ?_
       refine d_sta _ (fun W h => ok_frontR (t := 17) (t' := 2000) h rfl) ?_
       refine d_retC (none, 0) Try.results24 ?_ (Nat.le_refl 0) (fun W h => ((h.shut (t := 7) rfl).phi (fun _ hh => hh.1)).phi (fun W hφ => hφ)) (.inr rfl)
       refine res_tmp ?_
       refine res_tmp ?_
       refine res_nil ?_
       exact rfl
      ·
       replace hm := ite_f hm (of_decide_eq_false h195)
       refine c_skip ?_
       exact d_round () hm Nat.zero_lt_one ⟨rfl, rfl, rfl, trivial⟩ (fun W h => h.phi (fun W hφ => hφ))
     ·
      replace hm := ite_f hm (of_decide_eq_false h192)
      refine ga_no (i := 8) #[true, true, true, true, true, true, true, true, true, false, false, false, false, false, false, false, false, false] rfl (by kernel_rfl) (fun _ _ _ _ h => h) rfl rfl rfl rfl rfl h192 ?_
      refine ga_no (i := 9) #[true, true, true, true, true, true, true, true, true, true, false, false, false, false, false, false, false, false] rfl (by kernel_rfl) (fun _ _ _ _ h => h) rfl rfl rfl rfl rfl h192 ?_
      refine ga_no (i := 10) #[true, true, true, true, true, true, true, true, true, true, true, false, false, false, false, false, false, false] rfl (by kernel_rfl) (fun _ _ _ _ h => h) rfl rfl rfl rfl rfl h192 ?_
      refine ga_no (i := 11) #[true, true, true, true, true, true, true, true, true, true, true, true, false, false, false, false, false, false] rfl (by kernel_rfl) (fun _ _ _ _ h => h) rfl rfl rfl rfl rfl h192 ?_
      refine ga_no (i := 12) #[true, true, true, true, true, true, true, true, true, true, true, true, true, false, false, false, false, false] rfl (by kernel_rfl) (fun _ _ _ _ h => h) rfl rfl rfl rfl rfl h192 ?_
      refine ga_no (i := 13) #[true, true, true, true, true, true, true, true, true, true, true, true, true, true, false, false, false, false] rfl (by kernel_rfl) (fun _ _ _ _ h => h) rfl rfl rfl rfl rfl h192 ?_
      refine ga_no (i := 14) #[true, true, true, true, true, true, true, true, true, true, true, true, true, true, true, false, false, false] rfl (by kernel_rfl) (fun _ _ _ _ h => h) rfl rfl rfl rfl rfl h192 ?_
      refine ga_no (i := 15) #[true, true, true, true, true, true, true, true, true, true, true, true, true, true, true, true, false, false] rfl (by kernel_rfl) (fun _ _ _ _ h => h) rfl rfl rfl rfl rfl h192 ?_
      refine ga_rG (i := 16) #[true, true, true, true, true, true, true, true, true, true, true, true, true, true, true, true, true, false] rfl (by kernel_rfl) (by decide) rfl rfl rfl rfl rfl h191 (r_pick0 rfl h192) ?_
      refine ga_r (i := 17) #[true, true, true, true, true, true, true, true, true, true, true, true, true, true, true, true, true, true] rfl (by kernel_rfl) (by decide) rfl (r_pick0 rfl h191) ?_
      refine ga_done (by kernel_rfl) ?_
      refine d_then ?_
      refine c_flat [(0, .string p0), (4, .slice A127 l126.length c128), (5, .int .i64 i129), (29, .bool false)] ⟨rfl, rfl, rfl, rfl, trivial⟩ (fun u => ?_)
      refine c_sta ⟨w0, M, H, (7, ⟨.slice A127 l126.length c128, 3, 1, l126.length, l126.flatMap (fun x : Int => [Value.int .i64 x])⟩) :: R, φ⟩ (fun _ h => h) ?_
      refine c_cond0 rfl rfl ?_
      refine c_skip ?_
      exact d_round () hm Nat.zero_lt_one ⟨rfl, rfl, rfl, trivial⟩ (fun W h => h.phi (fun W hφ => hφ))
   ·
    unfold m_ref11_List_j3 at hm
    refine d_flat [(0, .string p0), (4, .slice A127 l126.length c128), (5, .int .i64 i129)] ⟨rfl, rfl, rfl, trivial⟩ (fun u => ?_)
    refine d_sta ⟨w0, M, H, (7, ⟨.slice A127 l126.length c128, 3, 1, l126.length, l126.flatMap (fun x : Int => [Value.int .i64 x])⟩) :: R, φ⟩ (fun _ h => h) ?_
    refine d_then ?_
    refine c_region ?_
    refine g_v rfl r_move ?_
    refine g_v rfl r_move ?_
    refine g_v rfl r_move ?_
    replace hm := bnd hm
    obtain ⟨b174, hb174, hm⟩ := hm
    refine g_v rfl (r_sat Try.underlying9 rfl rfl hb174) ?_
    refine g_v rfl (r_conv Try.underlying5 Try.underlying3 rfl rfl) ?_
    refine g_e rfl (e_lit (tag := 100350) (l := [w64 b174]) (enc := (fun x : Int => [Value.int .i64 x])) (sz := 1) rfl Try.underlying42 (lit3_2 _) rfl rfl (fun _ => rfl)) (fun g175 _ => ?_)
    replace hm := bnd hm
    obtain ⟨l176, hl176, hm⟩ := hm
    refine g_e rfl (e_appR (enc := (fun x : Int => [Value.int .i64 x])) (l := l126) (l1 := [w64 b174]) (l2 := l176) (tag := 7) Try.underlying42 inf3_3 rfl (by decide) (by decide) (fun _ => rfl) (fun _ => rfl) rfl hc128 rfl rfl (fun W hS => rowCl (tag := 100350) rfl W hS) hl176) (fun ⟨A177, c178⟩ hc178 => ?_)
    refine g_v rfl r_assign ?_
    refine g_nil ?_
    refine d_normal_block ?_
    refine d_then ?_
    refine c_region ?_
    refine g_v rfl r_move ?_
    refine g_v rfl (r_add rfl rfl rfl) ?_
    refine g_v rfl r_assign ?_
    refine g_nil ?_
    obtain ⟨n179, hn179, hlp⟩ := nx_inl hm hnx2
    exact d_round (n179, l176, w64 (i129 + 1), A177, c178) ⟨hlp, hc178⟩ hn179 ⟨rfl, rfl, rfl, trivial⟩ (fun W h => ((h.shut (t := 100350) rfl).phi (fun _ hh => hh.1)).phi (fun W hφ => hφ))
  ·
   replace hm := ite_f hm (of_decide_eq_false h157)
   refine c_exit ?_
   refine d_exit_then ?_
   refine d_exit_then ?_
   refine d_exit_block ?_
   replace hm := nx_out (C := (fun e => Sum.elim (fun e => m_ref11_List_j1 p0 e) (fun x => some x) e = some r)) hm hnx2 hr2
   exact d_round (l126, A127, c128) ⟨hm, hc128⟩ Nat.zero_lt_one ⟨rfl, rfl, trivial⟩ (fun W h => h.phi (fun W hφ => hφ))
 ·
  unfold m_ref11_List_j1 at hm
  refine d_flat [(0, .string p0), (4, .slice A108 l107.length c109)] ⟨rfl, rfl, trivial⟩ (fun u => ?_)
  refine d_sta ⟨w0, M, H, (7, ⟨.slice A108 l107.length c109, 3, 1, l107.length, l107.flatMap (fun x : Int => [Value.int .i64 x])⟩) :: R, φ⟩ (fun _ h => h) ?_
  refine d_then ?_
  refine c_seq ?_
  refine c_region ?_
  refine g_v rfl r_move ?_
  refine g_v rfl r_move ?_
  refine g_v rfl (r_len Try.underlying9 rfl) ?_
  refine g_v rfl (r_gtr rfl rfl) ?_
  refine g_v rfl r_assign ?_
  refine g_v rfl r_assign ?_
  refine g_nil ?_
  refine d_then ?_
  refine c_ret ?_
  replace hm := Option.some.inj hm
  subst hm
  refine d_sta _ (fun W h => ok_frontR (t := 7) (t' := 2000) h rfl) ?_
  refine d_retC (A108, c109) Try.results24 ?_ hc109 (fun W h => h.phi (fun W hφ => hφ)) (.inr rfl)
  refine res_tmp ?_
  refine res_tmp ?_
  refine res_nil ?_
  exact rfl

noncomputable def m_ref11_Check_j1  : Option Int :=
  some 0
noncomputable def m_ref11_Check_s2 (p0 : GLog) (i76 : Int) (i77 : Int) : Option ((Int × Int) ⊕ (Unit ⊕ Int)) :=
  if i77 < (p0.fEntries.length : Int) then
    (at_ p0.fEntries i77).bind fun x102 =>
    if x102.fTerm < i76 then
      some (.inr (.inr 1))
    else
      if 1099511627776 < x102.fTerm then
        some (.inr (.inr 1))
      else
        if x102.fKind < 0 then
          some (.inr (.inr 1))
        else
          if 2 < x102.fKind then
            some (.inr (.inr 1))
          else
            if 8000 < (x102.fData.size : Int) then
              some (.inr (.inr 1))
            else
              (m_ref11_List x102.fData).bind fun (z118 : (List Int) × Bool) =>
              if x102.fKind = 1 then
                if z118.2 = true then
                  some (.inl (x102.fTerm, w64 (i77 + 1)))
                else
                  some (.inr (.inr 1))
              else
                some (.inl (x102.fTerm, w64 (i77 + 1)))
  else
    some (.inr (.inl ()))
noncomputable def m_ref11_Check (p0 : GLog) : Option Int :=
  if p0.fBase < 0 then
    some 1
  else
    if 1099511627776 < p0.fBase then
      some 1
    else
      if p0.fBaseTerm < 0 then
        some 1
      else
        if 1099511627776 < p0.fBaseTerm then
          some 1
        else
          if 100000 < (p0.fEntries.length : Int) then
            some 1
          else
            (loop (fun s => m_ref11_Check_s2 p0 s.1 s.2) (p0.fBaseTerm, 0)).bind fun e => Sum.elim (fun e => m_ref11_Check_j1) (fun x => some x) e
theorem c_ref11_Check {w0 : World} {M : Nat → Prop} {H : List (Nat × Nat × Obj)} {R : List (Nat × Row)} {φ : World → Prop} (p0 : GLog) (Ap0_0 : Option Addr) (cp0_0 : Nat) (hcp0_0 : p0.fEntries.length ≤ cp0_0) (fp0_0 : ∀ W, (Sta.mk w0 M H R φ).ok W → Cl W Ap0_0 (p0.fEntries.flatMap GEntry.enc)) (r : Int) (hm : m_ref11_Check p0 = some r) :
    Cn Try.prog 37 #[.agg #[.int .i64 p0.fBase, .int .i64 p0.fBaseTerm, .slice Ap0_0 p0.fEntries.length cp0_0]] ⟨w0, M, H, R, φ⟩ (fun x : Unit => .int .i64 r) (fun x => True) (fun x => ⟨w0, M, H, R, φ⟩) := by
 unfold m_ref11_Check at hm
 refine cn_intro (fn := Try.f37) (N := 86) Try.func37 rfl Try.ntmps37 rfl ?_
 refine c_seq ?_
 refine c_region ?_
 refine g_e rfl (e_box 100010 rfl) (fun g1 _ => ?_)
 refine g_v rfl r_assign ?_
 refine g_nil ?_
 refine d_then ?_
 refine c_seq ?_
 refine c_seq ?_
 refine c_region ?_
 refine g_v rfl (r_field (n := 0) Try.underlying26 rfl Try.sizeOf3 rfl rfl) ?_
 refine g_v rfl (r_load (tag := 100010) rfl rfl rfl Try.isAgg3) ?_
 refine g_v rfl (r_lss rfl rfl) ?_
 refine g_v rfl r_move ?_
 refine g_if rfl rfl rfl rfl rfl (fun h2 => ?_) (fun h2 => ?_)
 ·
  replace hm := ite_f hm (of_decide_eq_false h2)
  refine g_v rfl (r_field (n := 0) Try.underlying26 rfl Try.sizeOf3 rfl rfl) ?_
  refine g_do rfl rfl rfl rfl rfl h2 ?_
  refine g_v rfl (r_load (tag := 100010) rfl rfl rfl Try.isAgg3) ?_
  refine g_do rfl rfl rfl rfl rfl h2 ?_
  refine g_v rfl (r_gtr rfl rfl) ?_
  refine g_v rfl (r_pick0 rfl h2) ?_
  refine g_v rfl r_move ?_
  refine g_if rfl rfl rfl rfl rfl (fun h3 => ?_) (fun h3 => ?_)
  ·
   replace hm := ite_f hm (of_decide_eq_false h3)
   refine g_v rfl (r_field (n := 1) Try.underlying26 rfl Try.sizeOf3 rfl rfl) ?_
   refine g_do rfl rfl rfl rfl rfl h3 ?_
   refine g_v rfl (r_load (tag := 100010) rfl rfl rfl Try.isAgg3) ?_
   refine g_do rfl rfl rfl rfl rfl h3 ?_
   refine g_v rfl (r_lss rfl rfl) ?_
   refine g_v rfl (r_pick0 rfl h3) ?_
   refine g_v rfl r_move ?_
   refine g_if rfl rfl rfl rfl rfl (fun h4 => ?_) (fun h4 => ?_)
   ·
    replace hm := ite_f hm (of_decide_eq_false h4)
    refine g_v rfl (r_field (n := 1) Try.underlying26 rfl Try.sizeOf3 rfl rfl) ?_
    refine g_do rfl rfl rfl rfl rfl h4 ?_
    refine g_v rfl (r_load (tag := 100010) rfl rfl rfl Try.isAgg3) ?_
    refine g_do rfl rfl rfl rfl rfl h4 ?_
    refine g_v rfl (r_gtr rfl rfl) ?_
    refine g_v rfl (r_pick0 rfl h4) ?_
    refine g_v rfl r_move ?_
    refine g_if rfl rfl rfl rfl rfl (fun h5 => ?_) (fun h5 => ?_)
    ·
     replace hm := ite_f hm (of_decide_eq_false h5)
     refine g_v rfl (r_field (n := 2) Try.underlying26 rfl Try.sizeOf24 rfl rfl) ?_
     refine g_do rfl rfl rfl rfl rfl h5 ?_
     refine g_v rfl (r_load (tag := 100010) rfl rfl rfl Try.isAgg24) ?_
     refine g_do rfl rfl rfl rfl rfl h5 ?_
     refine g_v rfl (r_lenL Try.underlying24 rfl) ?_
     refine g_do rfl rfl rfl rfl rfl h5 ?_
     refine g_v rfl (r_gtr rfl rfl) ?_
     refine g_v rfl (r_pick0 rfl h5) ?_
     refine g_nil ?_
     refine d_then ?_
     refine c_flat [(1, .pointer (some ⟨g1, 0, none⟩)), (31, .bool (decide (100000 < (p0.fEntries.length : Int))))] ⟨rfl, rfl, trivial⟩ (fun u => ?_)
     refine c_sta ⟨w0, M, (100010, g1, .cells #[.int .i64 p0.fBase, .int .i64 p0.fBaseTerm, .slice Ap0_0 p0.fEntries.length cp0_0] 26 (0, 0)) :: H, R, φ⟩ (fun _ h => h) ?_
     refine c_cond rfl (fun h6 => ?_) (fun h6 => ?_)
     ·
      replace hm := ite_t hm (of_decide_eq_true h6)
      refine c_seq ?_
      refine c_region ?_
      refine g_v rfl r_assign ?_
      refine g_nil ?_
      refine d_then ?_
      refine c_ret ?_
      refine d_ret_then ?_
      replace hm := Option.some.inj hm
      subst hm
      refine d_retC () Try.results37 ?_ trivial (fun W h => ok_pre (H1 := [_]) (R1 := []) h (fun W hφ => hφ)) (.inr rfl)
      refine res_tmp ?_
      refine res_nil ?_
      exact rfl
     ·
      replace hm := ite_f hm (of_decide_eq_false h6)
      refine c_skip ?_
      refine d_then ?_
      refine c_seq ?_
      refine c_region ?_
      refine g_v rfl (r_field (n := 1) Try.underlying26 rfl Try.sizeOf3 rfl rfl) ?_
      refine g_v rfl (r_load (tag := 100010) rfl rfl rfl Try.isAgg3) ?_
      refine g_v rfl r_assign ?_
      refine g_nil ?_
      refine d_then ?_
      refine c_seq ?_
      refine c_seq ?_
      refine c_region ?_
      refine g_v rfl r_assign ?_
      refine g_nil ?_
      refine d_then ?_
      refine c_cut (ι := Unit) [] (fun _ => []) (fun _ => ⟨w0, M, H, R, φ⟩) (fun _ => m_ref11_Check_j1 = some r) ?_ (fun _ u hm => ?_)
      ·
       refine c_block ?_
       replace hm := bnd hm
       obtain ⟨out2, hl2, hr2⟩ := hm
       obtain ⟨n100', hl2⟩ := loop_lp hl2
       refine c_loopU (ι := Nat × Int × Int) [1, 3, 4] (fun ⟨n100, i76, i77⟩ => [(3, .int .i64 i76), (4, .int .i64 i77)]) (fun ⟨n100, i76, i77⟩ => ⟨w0, M, (100010, g1, .cells #[.int .i64 p0.fBase, .int .i64 p0.fBaseTerm, .slice Ap0_0 p0.fEntries.length cp0_0] 26 (0, 0)) :: H, R, φ⟩) (fun ⟨n100, i76, i77⟩ => Lp (fun s => m_ref11_Check_s2 p0 s.1 s.2) n100 (i76, i77) out2) (fun ⟨n100, i76, i77⟩ => n100) (n100', p0.fBaseTerm, 0) hl2 ⟨rfl, rfl, rfl, trivial⟩ (fun W h => h.phi (fun W hφ => hφ)) (fun ⟨n100, i76, i77⟩ u hlp => ?_)
       obtain ⟨o2, hm, hnx2⟩ := lp_step hlp
       clear hlp
       replace hm : m_ref11_Check_s2 p0 i76 i77 = some o2 := hm
       unfold m_ref11_Check_s2 at hm
       refine c_flat [(1, .pointer (some ⟨g1, 0, none⟩)), (3, .int .i64 i76), (4, .int .i64 i77)] ⟨rfl, rfl, rfl, trivial⟩ (fun u => ?_)
       refine c_sta ⟨w0, M, (100010, g1, .cells #[.int .i64 p0.fBase, .int .i64 p0.fBaseTerm, .slice Ap0_0 p0.fEntries.length cp0_0] 26 (0, 0)) :: H, R, φ⟩ (fun _ h => h) ?_
       refine c_seq ?_
       refine c_seq ?_
       refine c_region ?_
       refine g_v rfl r_move ?_
       refine g_v rfl (r_field (n := 2) Try.underlying26 rfl Try.sizeOf24 rfl rfl) ?_
       refine g_v rfl (r_load (tag := 100010) rfl rfl rfl Try.isAgg24) ?_
       refine g_v rfl (r_lenL Try.underlying24 rfl) ?_
       refine g_v rfl (r_lss rfl rfl) ?_
       refine g_nil ?_
       refine d_then ?_
       refine c_cond rfl (fun h101 => ?_) (fun h101 => ?_)
       ·
        replace hm := ite_t hm (of_decide_eq_true h101)
        refine c_skip ?_
        refine d_then ?_
        refine c_seq ?_
        refine c_block ?_
        refine c_seq ?_
        refine c_region ?_
        refine g_v rfl (r_field (n := 2) Try.underlying26 rfl Try.sizeOf24 rfl rfl) ?_
        refine g_v rfl (r_load (tag := 100010) rfl rfl rfl Try.isAgg24) ?_
        refine g_v rfl r_move ?_
        replace hm := bnd hm
        obtain ⟨x102, hx102, hm⟩ := hm
        refine g_know _ (fun W hS => cl_at (p := (Sta.mk w0 M H R φ).ok) (sz := 3) (fun _ => rfl) (by decide) (ok_pre (H1 := [_]) (R1 := []) hS (fun W h => h)) fp0_0 hx102) ?_
        rintro ⟨ad103, hA105, f104⟩
        refine g_v rfl (r_ix Try.underlying24 Try.sizeOf35 rfl hA105 rfl hx102) ?_
        refine g_v rfl (r_ldA rfl Try.isAgg35 Try.sizeOf35 (fun W hS => (f104 W (ok_pre (H1 := [_]) (R1 := []) hS (fun W h => h))).take 3) rfl) ?_
        refine g_e rfl (e_alloc 100050 Try.zeroValue35) (fun g106 _ => ?_)
        refine g_storeL (tag := 100050) rfl rfl rfl rfl Try.sizeOf35 rfl rfl ?_
        refine g_nil ?_
        refine d_then ?_
        refine c_flat [(1, .pointer (some ⟨g1, 0, none⟩)), (3, .int .i64 i76), (4, .int .i64 i77), (5, .pointer (some ⟨g106, 0, none⟩))] ⟨rfl, rfl, rfl, rfl, trivial⟩ (fun u => ?_)
        refine c_sta ⟨w0, M, (100050, g106, .cells #[.int .i64 x102.fTerm, .int .i64 x102.fKind, .string x102.fData] 35 (0, 0)) :: (100010, g1, .cells #[.int .i64 p0.fBase, .int .i64 p0.fBaseTerm, .slice Ap0_0 p0.fEntries.length cp0_0] 26 (0, 0)) :: H, R, φ⟩ (fun _ h => h) ?_
        refine c_seq ?_
        refine c_seq ?_
        refine c_region ?_
        refine g_v rfl (r_field (n := 0) Try.underlying35 rfl Try.sizeOf3 rfl rfl) ?_
        refine g_v rfl (r_load (tag := 100050) rfl rfl rfl Try.isAgg3) ?_
        refine g_v rfl r_move ?_
        refine g_v rfl (r_lss rfl rfl) ?_
        refine g_v rfl r_move ?_
        refine g_if rfl rfl rfl rfl rfl (fun h107 => ?_) (fun h107 => ?_)
        ·
         replace hm := ite_f hm (of_decide_eq_false h107)
         refine g_v rfl (r_field (n := 0) Try.underlying35 rfl Try.sizeOf3 rfl rfl) ?_
         refine g_do rfl rfl rfl rfl rfl h107 ?_
         refine g_v rfl (r_load (tag := 100050) rfl rfl rfl Try.isAgg3) ?_
         refine g_do rfl rfl rfl rfl rfl h107 ?_
         refine g_v rfl (r_gtr rfl rfl) ?_
         refine g_v rfl (r_pick0 rfl h107) ?_
         refine g_v rfl r_move ?_
         refine g_if rfl rfl rfl rfl rfl (fun h108 => ?_) (fun h108 => ?_)
         ·
          replace hm := ite_f hm (of_decide_eq_false h108)
          refine g_v rfl (r_field (n := 1) Try.underlying35 rfl Try.sizeOf3 rfl rfl) ?_
          refine g_do rfl rfl rfl rfl rfl h108 ?_
          refine g_v rfl (r_load (tag := 100050) rfl rfl rfl Try.isAgg3) ?_
          refine g_do rfl rfl rfl rfl rfl h108 ?_
          refine g_v rfl (r_lss rfl rfl) ?_
          refine g_v rfl (r_pick0 rfl h108) ?_
          refine g_v rfl r_move ?_
          refine g_if rfl rfl rfl rfl rfl (fun h109 => ?_) (fun h109 => ?_)
          ·
           replace hm := ite_f hm (of_decide_eq_false h109)
           refine g_v rfl (r_field (n := 1) Try.underlying35 rfl Try.sizeOf3 rfl rfl) ?_
           refine g_do rfl rfl rfl rfl rfl h109 ?_
           refine g_v rfl (r_load (tag := 100050) rfl rfl rfl Try.isAgg3) ?_
           refine g_do rfl rfl rfl rfl rfl h109 ?_
           refine g_v rfl (r_gtr rfl rfl) ?_
           refine g_v rfl (r_pick0 rfl h109) ?_
           refine g_v rfl r_move ?_
           refine g_if rfl rfl rfl rfl rfl (fun h110 => ?_) (fun h110 => ?_)
           ·
            replace hm := ite_f hm (of_decide_eq_false h110)
            refine g_v rfl (r_field (n := 2) Try.underlying35 rfl Try.sizeOf9 rfl rfl) ?_
            refine g_do rfl rfl rfl rfl rfl h110 ?_
            refine g_v rfl (r_load (tag := 100050) rfl rfl rfl Try.isAgg9) ?_
            refine g_do rfl rfl rfl rfl rfl h110 ?_
            refine g_v rfl (r_len Try.underlying9 rfl) ?_
            refine g_do rfl rfl rfl rfl rfl h110 ?_
            refine g_v rfl (r_gtr rfl rfl) ?_
            refine g_v rfl (r_pick0 rfl h110) ?_
            refine g_nil ?_
            refine d_then ?_
            refine c_flat [(1, .pointer (some ⟨g1, 0, none⟩)), (4, .int .i64 i77), (5, .pointer (some ⟨g106, 0, none⟩)), (70, .bool (decide (8000 < (x102.fData.size : Int))))] ⟨rfl, rfl, rfl, rfl, trivial⟩ (fun u => ?_)
            refine c_sta ⟨w0, M, (100050, g106, .cells #[.int .i64 x102.fTerm, .int .i64 x102.fKind, .string x102.fData] 35 (0, 0)) :: (100010, g1, .cells #[.int .i64 p0.fBase, .int .i64 p0.fBaseTerm, .slice Ap0_0 p0.fEntries.length cp0_0] 26 (0, 0)) :: H, R, φ⟩ (fun _ h => h) ?_
            refine c_cond rfl (fun h111 => ?_) (fun h111 => ?_)
            ·
             replace hm := ite_t hm (of_decide_eq_true h111)
             refine c_seq ?_
             refine c_region ?_
             refine g_v rfl r_assign ?_
             refine g_nil ?_
             refine d_then ?_
             refine c_ret ?_
             refine d_ret_then ?_
             refine d_ret_block ?_
             refine d_ret_then ?_
             refine d_ret_then ?_
             refine d_ret_block ?_
             refine d_ret_then ?_
             refine d_ret_then ?_
             replace hm := nx_out (C := (fun e => Sum.elim (fun e => m_ref11_Check_j1) (fun x => some x) e = some r)) hm hnx2 hr2
             replace hm : some 1 = some r := hm
             replace hm := Option.some.inj hm
             subst hm
             refine d_retC () Try.results37 ?_ trivial (fun W h => ok_pre (H1 := [_, _]) (R1 := []) h (fun W hφ => hφ)) (.inr rfl)
             refine res_tmp ?_
             refine res_nil ?_
             exact rfl
            ·
             replace hm := ite_f hm (of_decide_eq_false h111)
             refine c_skip ?_
             refine d_then ?_
             refine c_seq ?_
             refine c_region ?_
             refine g_v rfl (r_field (n := 2) Try.underlying35 rfl Try.sizeOf9 rfl rfl) ?_
             refine g_v rfl (r_load (tag := 100050) rfl rfl rfl Try.isAgg9) ?_
             replace hm := bnd hm
             obtain ⟨⟨x112, x113⟩, hx114, hm⟩ := hm
             refine g_cn ⟨w0, M, _, _, φ⟩ (fun _ h => h) Try.call24 rfl rfl (c_ref11_List x102.fData _ hx114) (fun ⟨A115, c116⟩ hc116 => ?_)
             refine g_sta _ (fun W h => (ok_frontR (t := 2000) (t' := 100740) h rfl)) ?_
             refine g_v rfl r_move ?_
             refine g_v rfl (r_extract rfl rfl) ?_
             refine g_v rfl (r_extract rfl rfl) ?_
             refine g_v rfl r_assign ?_
             refine g_v rfl r_assign ?_
             refine g_nil ?_
             refine d_then ?_
             refine c_seq ?_
             refine c_seq ?_
             refine c_region ?_
             refine g_v rfl (r_field (n := 1) Try.underlying35 rfl Try.sizeOf3 rfl rfl) ?_
             refine g_v rfl (r_load (tag := 100050) rfl rfl rfl Try.isAgg3) ?_
             refine g_v rfl (r_eql rfl rfl) ?_
             refine g_v rfl r_move ?_
             refine g_if rfl rfl rfl rfl rfl (fun h119 => ?_) (fun h119 => ?_)
             ·
              replace hm := ite_t hm (of_decide_eq_true h119)
              refine g_v rfl r_move ?_
              refine g_do rfl rfl rfl rfl rfl h119 ?_
              refine g_v rfl (r_not rfl) ?_
              refine g_v rfl (r_pick1 rfl h119) ?_
              refine g_nil ?_
              refine d_then ?_
              refine c_flat [(1, .pointer (some ⟨g1, 0, none⟩)), (4, .int .i64 i77), (5, .pointer (some ⟨g106, 0, none⟩)), (83, .bool (!x113))] ⟨rfl, rfl, rfl, rfl, trivial⟩ (fun u => ?_)
              refine c_sta ⟨w0, M, (100050, g106, .cells #[.int .i64 x102.fTerm, .int .i64 x102.fKind, .string x102.fData] 35 (0, 0)) :: (100010, g1, .cells #[.int .i64 p0.fBase, .int .i64 p0.fBaseTerm, .slice Ap0_0 p0.fEntries.length cp0_0] 26 (0, 0)) :: H, (100740, ⟨.slice A115 x112.length c116, 3, 1, x112.length, x112.flatMap (fun x : Int => [Value.int .i64 x])⟩) :: R, φ⟩ (fun _ h => h) ?_
              refine c_cond rfl (fun h120 => ?_) (fun h120 => ?_)
              ·
               have h120' : x113 = false := by revert h120; cases x113 <;> simp
               replace hm := ite_f hm (bool_nt h120')
               refine c_seq ?_
               refine c_region ?_
               refine g_v rfl r_assign ?_
               refine g_nil ?_
               refine d_then ?_
               refine c_ret ?_
               refine d_ret_then ?_
               refine d_ret_block ?_
               refine d_ret_then ?_
               refine d_ret_then ?_
               refine d_ret_block ?_
               refine d_ret_then ?_
               refine d_ret_then ?_
               replace hm := nx_out (C := (fun e => Sum.elim (fun e => m_ref11_Check_j1) (fun x => some x) e = some r)) hm hnx2 hr2
               replace hm : some 1 = some r := hm
               replace hm := Option.some.inj hm
               subst hm
               refine d_retC () Try.results37 ?_ trivial (fun W h => ok_pre (H1 := [_, _]) (R1 := [_]) h (fun W hφ => hφ)) (.inr rfl)
               refine res_tmp ?_
               refine res_nil ?_
               exact rfl
              ·
               have h120' : x113 = true := by revert h120; cases x113 <;> simp
               replace hm := ite_t hm h120'
               refine c_skip ?_
               refine d_then ?_
               refine c_region ?_
               refine g_v rfl (r_field (n := 0) Try.underlying35 rfl Try.sizeOf3 rfl rfl) ?_
               refine g_v rfl (r_load (tag := 100050) rfl rfl rfl Try.isAgg3) ?_
               refine g_v rfl r_assign ?_
               refine g_nil ?_
               refine d_normal_block ?_
               refine d_then ?_
               refine c_region ?_
               refine g_v rfl r_move ?_
               refine g_v rfl (r_add rfl rfl rfl) ?_
               refine g_v rfl r_assign ?_
               refine g_nil ?_
               obtain ⟨n121, hn121, hlp⟩ := nx_inl hm hnx2
               exact d_round (n121, x102.fTerm, w64 (i77 + 1)) hlp hn121 ⟨rfl, rfl, rfl, trivial⟩ (fun W h => (((h.shut (t := 100740) rfl).phi (fun _ hh => hh.1)).dropH (t := 100050) rfl).phi (fun W hφ => hφ))
             ·
              replace hm := ite_f hm (of_decide_eq_false h119)
              refine g_no rfl rfl rfl rfl rfl h119 ?_
              refine g_v rfl (r_pick0 rfl h119) ?_
              refine g_nil ?_
              refine d_then ?_
              refine c_flat [(1, .pointer (some ⟨g1, 0, none⟩)), (4, .int .i64 i77), (5, .pointer (some ⟨g106, 0, none⟩)), (83, .bool false)] ⟨rfl, rfl, rfl, rfl, trivial⟩ (fun u => ?_)
              refine c_sta ⟨w0, M, (100050, g106, .cells #[.int .i64 x102.fTerm, .int .i64 x102.fKind, .string x102.fData] 35 (0, 0)) :: (100010, g1, .cells #[.int .i64 p0.fBase, .int .i64 p0.fBaseTerm, .slice Ap0_0 p0.fEntries.length cp0_0] 26 (0, 0)) :: H, (100740, ⟨.slice A115 x112.length c116, 3, 1, x112.length, x112.flatMap (fun x : Int => [Value.int .i64 x])⟩) :: R, φ⟩ (fun _ h => h) ?_
              refine c_cond0 rfl rfl ?_
              refine c_skip ?_
              refine d_then ?_
              refine c_region ?_
              refine g_v rfl (r_field (n := 0) Try.underlying35 rfl Try.sizeOf3 rfl rfl) ?_
              refine g_v rfl (r_load (tag := 100050) rfl rfl rfl Try.isAgg3) ?_
              refine g_v rfl r_assign ?_
              refine g_nil ?_
              refine d_normal_block ?_
              refine d_then ?_
              refine c_region ?_
              refine g_v rfl r_move ?_
              refine g_v rfl (r_add rfl rfl rfl) ?_
              refine g_v rfl r_assign ?_
              refine g_nil ?_
              obtain ⟨n122, hn122, hlp⟩ := nx_inl hm hnx2
              exact d_round (n122, x102.fTerm, w64 (i77 + 1)) hlp hn122 ⟨rfl, rfl, rfl, trivial⟩ (fun W h => (((h.shut (t := 100740) rfl).phi (fun _ hh => hh.1)).dropH (t := 100050) rfl).phi (fun W hφ => hφ))
           ·
            replace hm := ite_t hm (of_decide_eq_true h110)
            refine g_no rfl rfl rfl rfl rfl h110 ?_
            refine g_no rfl rfl rfl rfl rfl h110 ?_
            refine g_no rfl rfl rfl rfl rfl h110 ?_
            refine g_v rfl (r_pick1 rfl h110) ?_
            refine g_nil ?_
            refine d_then ?_
            refine c_flat [(1, .pointer (some ⟨g1, 0, none⟩)), (4, .int .i64 i77), (5, .pointer (some ⟨g106, 0, none⟩)), (70, .bool true)] ⟨rfl, rfl, rfl, rfl, trivial⟩ (fun u => ?_)
            refine c_sta ⟨w0, M, (100050, g106, .cells #[.int .i64 x102.fTerm, .int .i64 x102.fKind, .string x102.fData] 35 (0, 0)) :: (100010, g1, .cells #[.int .i64 p0.fBase, .int .i64 p0.fBaseTerm, .slice Ap0_0 p0.fEntries.length cp0_0] 26 (0, 0)) :: H, R, φ⟩ (fun _ h => h) ?_
            refine c_cond1 rfl rfl ?_
            refine c_seq ?_
            refine c_region ?_
            refine g_v rfl r_assign ?_
            refine g_nil ?_
            refine d_then ?_
            refine c_ret ?_
            refine d_ret_then ?_
            refine d_ret_block ?_
            refine d_ret_then ?_
            refine d_ret_then ?_
            refine d_ret_block ?_
            refine d_ret_then ?_
            refine d_ret_then ?_
            replace hm := nx_out (C := (fun e => Sum.elim (fun e => m_ref11_Check_j1) (fun x => some x) e = some r)) hm hnx2 hr2
            replace hm : some 1 = some r := hm
            replace hm := Option.some.inj hm
            subst hm
            refine d_retC () Try.results37 ?_ trivial (fun W h => ok_pre (H1 := [_, _]) (R1 := []) h (fun W hφ => hφ)) (.inr rfl)
            refine res_tmp ?_
            refine res_nil ?_
            exact rfl
          ·
           replace hm := ite_t hm (of_decide_eq_true h109)
           refine g_no rfl rfl rfl rfl rfl h109 ?_
           refine g_no rfl rfl rfl rfl rfl h109 ?_
           refine g_v rfl (r_pick1 rfl h109) ?_
           refine g_v rfl r_move ?_
           refine g_no rfl rfl rfl rfl rfl rfl ?_
           refine g_no rfl rfl rfl rfl rfl rfl ?_
           refine g_no rfl rfl rfl rfl rfl rfl ?_
           refine g_no rfl rfl rfl rfl rfl rfl ?_
           refine g_v rfl (r_pick1 rfl rfl) ?_
           refine g_nil ?_
           refine d_then ?_
           refine c_flat [(1, .pointer (some ⟨g1, 0, none⟩)), (4, .int .i64 i77), (5, .pointer (some ⟨g106, 0, none⟩)), (70, .bool true)] ⟨rfl, rfl, rfl, rfl, trivial⟩ (fun u => ?_)
           refine c_sta ⟨w0, M, (100050, g106, .cells #[.int .i64 x102.fTerm, .int .i64 x102.fKind, .string x102.fData] 35 (0, 0)) :: (100010, g1, .cells #[.int .i64 p0.fBase, .int .i64 p0.fBaseTerm, .slice Ap0_0 p0.fEntries.length cp0_0] 26 (0, 0)) :: H, R, φ⟩ (fun _ h => h) ?_
           refine c_cond1 rfl rfl ?_
           refine c_seq ?_
           refine c_region ?_
           refine g_v rfl r_assign ?_
           refine g_nil ?_
           refine d_then ?_
           refine c_ret ?_
           refine d_ret_then ?_
           refine d_ret_block ?_
           refine d_ret_then ?_
           refine d_ret_then ?_
           refine d_ret_block ?_
           refine d_ret_then ?_
           refine d_ret_then ?_
           replace hm := nx_out (C := (fun e => Sum.elim (fun e => m_ref11_Check_j1) (fun x => some x) e = some r)) hm hnx2 hr2
           replace hm : some 1 = some r := hm
           replace hm := Option.some.inj hm
           subst hm
           refine d_retC () Try.results37 ?_ trivial (fun W h => ok_pre (H1 := [_, _]) (R1 := []) h (fun W hφ => hφ)) (.inr rfl)
           refine res_tmp ?_
           refine res_nil ?_
           exact rfl
         ·
          replace hm := ite_t hm (of_decide_eq_true h108)
          refine g_no rfl rfl rfl rfl rfl h108 ?_
          refine g_no rfl rfl rfl rfl rfl h108 ?_
          refine g_v rfl (r_pick1 rfl h108) ?_
          refine g_v rfl r_move ?_
          refine g_no rfl rfl rfl rfl rfl rfl ?_
          refine g_no rfl rfl rfl rfl rfl rfl ?_
          refine g_no rfl rfl rfl rfl rfl rfl ?_
          refine g_v rfl (r_pick1 rfl rfl) ?_
          refine g_v rfl r_move ?_
          refine g_no rfl rfl rfl rfl rfl rfl ?_
          refine g_no rfl rfl rfl rfl rfl rfl ?_
          refine g_no rfl rfl rfl rfl rfl rfl ?_
          refine g_no rfl rfl rfl rfl rfl rfl ?_
          refine g_v rfl (r_pick1 rfl rfl) ?_
          refine g_nil ?_
          refine d_then ?_
          refine c_flat [(1, .pointer (some ⟨g1, 0, none⟩)), (4, .int .i64 i77), (5, .pointer (some ⟨g106, 0, none⟩)), (70, .bool true)] ⟨rfl, rfl, rfl, rfl, trivial⟩ (fun u => ?_)
          refine c_sta ⟨w0, M, (100050, g106, .cells #[.int .i64 x102.fTerm, .int .i64 x102.fKind, .string x102.fData] 35 (0, 0)) :: (100010, g1, .cells #[.int .i64 p0.fBase, .int .i64 p0.fBaseTerm, .slice Ap0_0 p0.fEntries.length cp0_0] 26 (0, 0)) :: H, R, φ⟩ (fun _ h => h) ?_
          refine c_cond1 rfl rfl ?_
          refine c_seq ?_
          refine c_region ?_
          refine g_v rfl r_assign ?_
          refine g_nil ?_
          refine d_then ?_
          refine c_ret ?_
          refine d_ret_then ?_
          refine d_ret_block ?_
          refine d_ret_then ?_
          refine d_ret_then ?_
          refine d_ret_block ?_
          refine d_ret_then ?_
          refine d_ret_then ?_
          replace hm := nx_out (C := (fun e => Sum.elim (fun e => m_ref11_Check_j1) (fun x => some x) e = some r)) hm hnx2 hr2
          replace hm : some 1 = some r := hm
          replace hm := Option.some.inj hm
          subst hm
          refine d_retC () Try.results37 ?_ trivial (fun W h => ok_pre (H1 := [_, _]) (R1 := []) h (fun W hφ => hφ)) (.inr rfl)
          refine res_tmp ?_
          refine res_nil ?_
          exact rfl
        ·
         replace hm := ite_t hm (of_decide_eq_true h107)
         refine g_no rfl rfl rfl rfl rfl h107 ?_
         refine g_no rfl rfl rfl rfl rfl h107 ?_
         refine g_v rfl (r_pick1 rfl h107) ?_
         refine g_v rfl r_move ?_
         refine g_no rfl rfl rfl rfl rfl rfl ?_
         refine g_no rfl rfl rfl rfl rfl rfl ?_
         refine g_no rfl rfl rfl rfl rfl rfl ?_
         refine g_v rfl (r_pick1 rfl rfl) ?_
         refine g_v rfl r_move ?_
         refine g_no rfl rfl rfl rfl rfl rfl ?_
         refine g_no rfl rfl rfl rfl rfl rfl ?_
         refine g_no rfl rfl rfl rfl rfl rfl ?_
         refine g_v rfl (r_pick1 rfl rfl) ?_
         refine g_v rfl r_move ?_
         refine g_no rfl rfl rfl rfl rfl rfl ?_
         refine g_no rfl rfl rfl rfl rfl rfl ?_
         refine g_no rfl rfl rfl rfl rfl rfl ?_
         refine g_no rfl rfl rfl rfl rfl rfl ?_
         refine g_v rfl (r_pick1 rfl rfl) ?_
         refine g_nil ?_
         refine d_then ?_
         refine c_flat [(1, .pointer (some ⟨g1, 0, none⟩)), (4, .int .i64 i77), (5, .pointer (some ⟨g106, 0, none⟩)), (70, .bool true)] ⟨rfl, rfl, rfl, rfl, trivial⟩ (fun u => ?_)
         refine c_sta ⟨w0, M, (100050, g106, .cells #[.int .i64 x102.fTerm, .int .i64 x102.fKind, .string x102.fData] 35 (0, 0)) :: (100010, g1, .cells #[.int .i64 p0.fBase, .int .i64 p0.fBaseTerm, .slice Ap0_0 p0.fEntries.length cp0_0] 26 (0, 0)) :: H, R, φ⟩ (fun _ h => h) ?_
         refine c_cond1 rfl rfl ?_
         refine c_seq ?_
         refine c_region ?_
         refine g_v rfl r_assign ?_
         refine g_nil ?_
         refine d_then ?_
         refine c_ret ?_
         refine d_ret_then ?_
         refine d_ret_block ?_
         refine d_ret_then ?_
         refine d_ret_then ?_
         refine d_ret_block ?_
         refine d_ret_then ?_
         refine d_ret_then ?_
         replace hm := nx_out (C := (fun e => Sum.elim (fun e => m_ref11_Check_j1) (fun x => some x) e = some r)) hm hnx2 hr2
         replace hm : some 1 = some r := hm
         replace hm := Option.some.inj hm
         subst hm
         refine d_retC () Try.results37 ?_ trivial (fun W h => ok_pre (H1 := [_, _]) (R1 := []) h (fun W hφ => hφ)) (.inr rfl)
         refine res_tmp ?_
         refine res_nil ?_
         exact rfl
       ·
        replace hm := ite_f hm (of_decide_eq_false h101)
        refine c_exit ?_
        refine d_exit_then ?_
        refine d_exit_then ?_
        refine d_exit_block ?_
        replace hm := nx_out (C := (fun e => Sum.elim (fun e => m_ref11_Check_j1) (fun x => some x) e = some r)) hm hnx2 hr2
        exact d_round () hm Nat.zero_lt_one trivial (fun W h => (h.dropH (t := 100010) rfl).phi (fun W hφ => hφ))
      ·
       unfold m_ref11_Check_j1 at hm
       refine d_flat [] trivial (fun u => ?_)
       refine d_sta ⟨w0, M, H, R, φ⟩ (fun _ h => h) ?_
       refine d_then ?_
       refine c_seq ?_
       refine c_region ?_
       refine g_v rfl r_assign ?_
       refine g_nil ?_
       refine d_then ?_
       refine c_ret ?_
       replace hm := Option.some.inj hm
       subst hm
       refine d_retC () Try.results37 ?_ trivial (fun W h => ok_pre (H1 := []) (R1 := []) h (fun W hφ => hφ)) (.inr rfl)
       refine res_tmp ?_
       refine res_nil ?_
       exact rfl
    ·
     replace hm := ite_t hm (of_decide_eq_true h5)
     refine g_no rfl rfl rfl rfl rfl h5 ?_
     refine g_no rfl rfl rfl rfl rfl h5 ?_
     refine g_no rfl rfl rfl rfl rfl h5 ?_
     refine g_v rfl (r_pick1 rfl h5) ?_
     refine g_nil ?_
     refine d_then ?_
     refine c_flat [(1, .pointer (some ⟨g1, 0, none⟩)), (31, .bool true)] ⟨rfl, rfl, trivial⟩ (fun u => ?_)
     refine c_sta ⟨w0, M, (100010, g1, .cells #[.int .i64 p0.fBase, .int .i64 p0.fBaseTerm, .slice Ap0_0 p0.fEntries.length cp0_0] 26 (0, 0)) :: H, R, φ⟩ (fun _ h => h) ?_
     refine c_cond1 rfl rfl ?_
     refine c_seq ?_
     refine c_region ?_
     refine g_v rfl r_assign ?_
     refine g_nil ?_
     refine d_then ?_
     refine c_ret ?_
     refine d_ret_then ?_
     replace hm := Option.some.inj hm
     subst hm
     refine d_retC () Try.results37 ?_ trivial (fun W h => ok_pre (H1 := [_]) (R1 := []) h (fun W hφ => hφ)) (.inr rfl)
     refine res_tmp ?_
     refine res_nil ?_
     exact rfl
   ·
    replace hm := ite_t hm (of_decide_eq_true h4)
    refine g_no rfl rfl rfl rfl rfl h4 ?_
    refine g_no rfl rfl rfl rfl rfl h4 ?_
    refine g_v rfl (r_pick1 rfl h4) ?_
    refine g_v rfl r_move ?_
    refine g_no rfl rfl rfl rfl rfl rfl ?_
    refine g_no rfl rfl rfl rfl rfl rfl ?_
    refine g_no rfl rfl rfl rfl rfl rfl ?_
    refine g_no rfl rfl rfl rfl rfl rfl ?_
    refine g_v rfl (r_pick1 rfl rfl) ?_
    refine g_nil ?_
    refine d_then ?_
    refine c_flat [(1, .pointer (some ⟨g1, 0, none⟩)), (31, .bool true)] ⟨rfl, rfl, trivial⟩ (fun u => ?_)
    refine c_sta ⟨w0, M, (100010, g1, .cells #[.int .i64 p0.fBase, .int .i64 p0.fBaseTerm, .slice Ap0_0 p0.fEntries.length cp0_0] 26 (0, 0)) :: H, R, φ⟩ (fun _ h => h) ?_
    refine c_cond1 rfl rfl ?_
    refine c_seq ?_
    refine c_region ?_
    refine g_v rfl r_assign ?_
    refine g_nil ?_
    refine d_then ?_
    refine c_ret ?_
    refine d_ret_then ?_
    replace hm := Option.some.inj hm
    subst hm
    refine d_retC () Try.results37 ?_ trivial (fun W h => ok_pre (H1 := [_]) (R1 := []) h (fun W hφ => hφ)) (.inr rfl)
    refine res_tmp ?_
    refine res_nil ?_
    exact rfl
  ·
   replace hm := ite_t hm (of_decide_eq_true h3)
   refine g_no rfl rfl rfl rfl rfl h3 ?_
   refine g_no rfl rfl rfl rfl rfl h3 ?_
   refine g_v rfl (r_pick1 rfl h3) ?_
   refine g_v rfl r_move ?_
   refine g_no rfl rfl rfl rfl rfl rfl ?_
   refine g_no rfl rfl rfl rfl rfl rfl ?_
   refine g_no rfl rfl rfl rfl rfl rfl ?_
   refine g_v rfl (r_pick1 rfl rfl) ?_
   refine g_v rfl r_move ?_
   refine g_no rfl rfl rfl rfl rfl rfl ?_
   refine g_no rfl rfl rfl rfl rfl rfl ?_
   refine g_no rfl rfl rfl rfl rfl rfl ?_
   refine g_no rfl rfl rfl rfl rfl rfl ?_
   refine g_v rfl (r_pick1 rfl rfl) ?_
   refine g_nil ?_
   refine d_then ?_
   refine c_flat [(1, .pointer (some ⟨g1, 0, none⟩)), (31, .bool true)] ⟨rfl, rfl, trivial⟩ (fun u => ?_)
   refine c_sta ⟨w0, M, (100010, g1, .cells #[.int .i64 p0.fBase, .int .i64 p0.fBaseTerm, .slice Ap0_0 p0.fEntries.length cp0_0] 26 (0, 0)) :: H, R, φ⟩ (fun _ h => h) ?_
   refine c_cond1 rfl rfl ?_
   refine c_seq ?_
   refine c_region ?_
   refine g_v rfl r_assign ?_
   refine g_nil ?_
   refine d_then ?_
   refine c_ret ?_
   refine d_ret_then ?_
   replace hm := Option.some.inj hm
   subst hm
   refine d_retC () Try.results37 ?_ trivial (fun W h => ok_pre (H1 := [_]) (R1 := []) h (fun W hφ => hφ)) (.inr rfl)
   refine res_tmp ?_
   refine res_nil ?_
   exact rfl
 ·
  replace hm := ite_t hm (of_decide_eq_true h2)
  refine g_no rfl rfl rfl rfl rfl h2 ?_
  refine g_no rfl rfl rfl rfl rfl h2 ?_
  refine g_v rfl (r_pick1 rfl h2) ?_
  refine g_v rfl r_move ?_
  refine g_no rfl rfl rfl rfl rfl rfl ?_
  refine g_no rfl rfl rfl rfl rfl rfl ?_
  refine g_no rfl rfl rfl rfl rfl rfl ?_
  refine g_v rfl (r_pick1 rfl rfl) ?_
  refine g_v rfl r_move ?_
  refine g_no rfl rfl rfl rfl rfl rfl ?_
  refine g_no rfl rfl rfl rfl rfl rfl ?_
  refine g_no rfl rfl rfl rfl rfl rfl ?_
  refine g_v rfl (r_pick1 rfl rfl) ?_
  refine g_v rfl r_move ?_
  refine g_no rfl rfl rfl rfl rfl rfl ?_
  refine g_no rfl rfl rfl rfl rfl rfl ?_
  refine g_no rfl rfl rfl rfl rfl rfl ?_
  refine g_no rfl rfl rfl rfl rfl rfl ?_
  refine g_v rfl (r_pick1 rfl rfl) ?_
  refine g_nil ?_
  refine d_then ?_
  refine c_flat [(1, .pointer (some ⟨g1, 0, none⟩)), (31, .bool true)] ⟨rfl, rfl, trivial⟩ (fun u => ?_)
  refine c_sta ⟨w0, M, (100010, g1, .cells #[.int .i64 p0.fBase, .int .i64 p0.fBaseTerm, .slice Ap0_0 p0.fEntries.length cp0_0] 26 (0, 0)) :: H, R, φ⟩ (fun _ h => h) ?_
  refine c_cond1 rfl rfl ?_
  refine c_seq ?_
  refine c_region ?_
  refine g_v rfl r_assign ?_
  refine g_nil ?_
  refine d_then ?_
  refine c_ret ?_
  refine d_ret_then ?_
  replace hm := Option.some.inj hm
  subst hm
  refine d_retC () Try.results37 ?_ trivial (fun W h => ok_pre (H1 := [_]) (R1 := []) h (fun W hφ => hφ)) (.inr rfl)
  refine res_tmp ?_
  refine res_nil ?_
  exact rfl

noncomputable def m_ref11_Load_j1  (i735 : Int) (i736 : Int) (l737 : List Int) (s741 : ByteArray) (i742 : Int) (i743 : Int) (l744 : List GEntry) : Option (GHard × Int) :=
  (m_ref11_Check (⟨i742, i743, l744⟩ : GLog)).bind fun x749 =>
  if x749 ≠ 0 then
    some ((⟨0, 0, ([] : List Int), (⟨#[]⟩ : ByteArray), (⟨0, 0, ([] : List GEntry)⟩ : GLog)⟩ : GHard), 10)
  else
    if 1099511627776 < i735 then
      some ((⟨0, 0, ([] : List Int), (⟨#[]⟩ : ByteArray), (⟨0, 0, ([] : List GEntry)⟩ : GLog)⟩ : GHard), 10)
    else
      if 1099511627776 < i736 then
        some ((⟨0, 0, ([] : List Int), (⟨#[]⟩ : ByteArray), (⟨0, 0, ([] : List GEntry)⟩ : GLog)⟩ : GHard), 10)
      else
        some ((⟨i735, i736, l737, s741, (⟨i742, i743, l744⟩ : GLog)⟩ : GHard), 0)
noncomputable def m_ref11_Load_j4 (i1219 : Int) (s1708 : ByteArray) (b1709 : Bool) (i1710 : Int) (i1711 : Int) (l1712 : List Int) (s1716 : ByteArray) (i1717 : Int) (i1718 : Int) (l1719 : List GEntry) : Option ((Int × Int × Int × (List Int) × ByteArray × Int × Int × (List GEntry)) ⊕ ((Int × Int × (List Int) × ByteArray × Int × Int × (List GEntry)) ⊕ (GHard × Int))) :=
  if b1709 = true then
    some (.inr (.inr ((⟨0, 0, ([] : List Int), (⟨#[]⟩ : ByteArray), (⟨0, 0, ([] : List GEntry)⟩ : GLog)⟩ : GHard), 10)))
  else
    some (.inl (w64 (i1219 + 1), i1710, i1711, l1712, s1716, i1717, i1718, l1719))
noncomputable def m_ref11_Load_j5 (x1749 : Gref11_reader) (i1219 : Int) (x1728 : Int) (x1732 : Int) (x1736 : Int) (x1740 : Int) (l1859 : List Int) : Option ((Int × Int × Int × (List Int) × ByteArray × Int × Int × (List GEntry)) ⊕ ((Int × Int × (List Int) × ByteArray × Int × Int × (List GEntry)) ⊕ (GHard × Int))) :=
  (m_ref11_reader_number x1749).bind fun (z1865 : Int × Gref11_reader) =>
  (m_ref11_reader_take z1865.1 z1865.2).bind fun (z1869 : ByteArray × Gref11_reader) =>
  (m_ref11_Right l1859).bind fun x1870 =>
  if z1869.2.fbad = true then
    m_ref11_Load_j4 i1219 z1869.2.fs true x1728 x1732 l1859 z1869.1 x1736 x1740 ([] : List GEntry)
  else
    if x1870 = true then
      if 50000 < (z1869.1.size : Int) then
        m_ref11_Load_j4 i1219 z1869.2.fs true x1728 x1732 l1859 z1869.1 x1736 x1740 ([] : List GEntry)
      else
        m_ref11_Load_j4 i1219 z1869.2.fs (!(decide (z1869.2.fs = (⟨#[]⟩ : ByteArray)))) x1728 x1732 l1859 z1869.1 x1736 x1740 ([] : List GEntry)
    else
      if 0 < (l1859.length : Int) then
        m_ref11_Load_j4 i1219 z1869.2.fs true x1728 x1732 l1859 z1869.1 x1736 x1740 ([] : List GEntry)
      else
        if 50000 < (z1869.1.size : Int) then
          m_ref11_Load_j4 i1219 z1869.2.fs true x1728 x1732 l1859 z1869.1 x1736 x1740 ([] : List GEntry)
        else
          m_ref11_Load_j4 i1219 z1869.2.fs (!(decide (z1869.2.fs = (⟨#[]⟩ : ByteArray)))) x1728 x1732 l1859 z1869.1 x1736 x1740 ([] : List GEntry)
noncomputable def m_ref11_Load_s6 (x1748 : ByteArray) (l1909 : List Int) (i1912 : Int) : Option (((List Int) × Int) ⊕ (List Int)) :=
  if i1912 < (x1748.size : Int) then
    (sat_ x1748 i1912).bind fun b1945 =>
    (app 8 l1909 [w64 b1945]).bind fun l1947 =>
    some (.inl (l1947, w64 (i1912 + 1)))
  else
    some (.inr l1909)
noncomputable def m_ref11_Load_j7 (x1972 : Gref11_reader) (x1962 : Int) (i1227 : Int) (i1228 : Int) (l1229 : List GEntry) (x1966 : Int) (i1219 : Int) (i1220 : Int) (i1221 : Int) (l1222 : List Int) (s1226 : ByteArray) (i1977 : Int) : Option ((Int × Int × Int × (List Int) × ByteArray × Int × Int × (List GEntry)) ⊕ ((Int × Int × (List Int) × ByteArray × Int × Int × (List GEntry)) ⊕ (GHard × Int))) :=
  if x1972.fbad = true then
    some (.inr (.inr ((⟨0, 0, ([] : List Int), (⟨#[]⟩ : ByteArray), (⟨0, 0, ([] : List GEntry)⟩ : GLog)⟩ : GHard), 10)))
  else
    if x1962 ≤ i1227 then
      some (.inr (.inr ((⟨0, 0, ([] : List Int), (⟨#[]⟩ : ByteArray), (⟨0, 0, ([] : List GEntry)⟩ : GLog)⟩ : GHard), 10)))
    else
      (m_ref11_Last (⟨i1227, i1228, l1229⟩ : GLog)).bind fun x1980 =>
      if w64 (x1980 + 1) < x1962 then
        some (.inr (.inr ((⟨0, 0, ([] : List Int), (⟨#[]⟩ : ByteArray), (⟨0, 0, ([] : List GEntry)⟩ : GLog)⟩ : GHard), 10)))
      else
        (cutHi l1229 (w64 ((w64 (x1962 - i1227)) - 1))).bind fun l2002 =>
        (m_ref11_Add (⟨i1227, i1228, l2002⟩ : GLog) [(⟨x1966, i1977, x1972.fs⟩ : GEntry)]).bind fun x2004 =>
        m_ref11_Load_j4 i1219 x1972.fs x1972.fbad i1220 i1221 l1222 s1226 x2004.fBase x2004.fBaseTerm x2004.fEntries
noncomputable def m_ref11_Load_j3 (x1488 : ByteArray) (i1219 : Int) (l1222 : List Int) (s1226 : ByteArray) (i1227 : Int) (i1228 : Int) (l1229 : List GEntry) (i1220 : Int) (i1221 : Int) : Option ((Int × Int × Int × (List Int) × ByteArray × Int × Int × (List GEntry)) ⊕ ((Int × Int × (List Int) × ByteArray × Int × Int × (List GEntry)) ⊕ (GHard × Int))) :=
  (scutLo x1488 1).bind fun s1496 =>
  (sat_ x1488 0).bind fun b1726 =>
  if b1726 = 87 then
    (m_ref11_reader_number (⟨s1496, false⟩ : Gref11_reader)).bind fun (z1731 : Int × Gref11_reader) =>
    (m_ref11_reader_number z1731.2).bind fun (z1735 : Int × Gref11_reader) =>
    (m_ref11_reader_number z1735.2).bind fun (z1739 : Int × Gref11_reader) =>
    (m_ref11_reader_number z1739.2).bind fun (z1743 : Int × Gref11_reader) =>
    (m_ref11_reader_number z1743.2).bind fun (z1747 : Int × Gref11_reader) =>
    (m_ref11_reader_take z1747.1 z1747.2).bind fun (z1751 : ByteArray × Gref11_reader) =>
    (loop (fun s => m_ref11_Load_s6 z1751.1 s.1 s.2) (([] : List Int), 0)).bind fun e => m_ref11_Load_j5 z1751.2 i1219 z1731.1 z1735.1 z1739.1 z1743.1 e
  else
    if b1726 = 84 then
      (m_ref11_reader_number (⟨s1496, false⟩ : Gref11_reader)).bind fun (z1955 : Int × Gref11_reader) =>
      (m_ref11_reader_number z1955.2).bind fun (z1959 : Int × Gref11_reader) =>
      if z1959.2.fbad = true then
        m_ref11_Load_j4 i1219 z1959.2.fs true z1955.1 z1959.1 l1222 s1226 i1227 i1228 l1229
      else
        m_ref11_Load_j4 i1219 z1959.2.fs (!(decide (z1959.2.fs = (⟨#[]⟩ : ByteArray)))) z1955.1 z1959.1 l1222 s1226 i1227 i1228 l1229
    else
      if b1726 = 69 then
        (m_ref11_reader_number (⟨s1496, false⟩ : Gref11_reader)).bind fun (z1965 : Int × Gref11_reader) =>
        (m_ref11_reader_number z1965.2).bind fun (z1969 : Int × Gref11_reader) =>
        (m_ref11_reader_take 1 z1969.2).bind fun (z1974 : ByteArray × Gref11_reader) =>
        if z1974.2.fbad = true then
          m_ref11_Load_j7 z1974.2 z1965.1 i1227 i1228 l1229 z1969.1 i1219 i1220 i1221 l1222 s1226 0
        else
          (sat_ z1974.1 0).bind fun b2011 =>
          m_ref11_Load_j7 z1974.2 z1965.1 i1227 i1228 l1229 z1969.1 i1219 i1220 i1221 l1222 s1226 (w64 b2011)
      else
        some (.inr (.inr ((⟨0, 0, ([] : List Int), (⟨#[]⟩ : ByteArray), (⟨0, 0, ([] : List GEntry)⟩ : GLog)⟩ : GHard), 10)))
noncomputable def m_ref11_Load_s2 (p0 : List ByteArray) (i1219 : Int) (i1220 : Int) (i1221 : Int) (l1222 : List Int) (s1226 : ByteArray) (i1227 : Int) (i1228 : Int) (l1229 : List GEntry) : Option ((Int × Int × Int × (List Int) × ByteArray × Int × Int × (List GEntry)) ⊕ ((Int × Int × (List Int) × ByteArray × Int × Int × (List GEntry)) ⊕ (GHard × Int))) :=
  if i1219 < (p0.length : Int) then
    (at_ p0 i1219).bind fun x1488 =>
    if x1488 = (⟨#[]⟩ : ByteArray) then
      some (.inr (.inr ((⟨0, 0, ([] : List Int), (⟨#[]⟩ : ByteArray), (⟨0, 0, ([] : List GEntry)⟩ : GLog)⟩ : GHard), 10)))
    else
      if i1219 = 0 then
        (sat_ x1488 0).bind fun b2014 =>
        if b2014 ≠ 87 then
          some (.inr (.inr ((⟨0, 0, ([] : List Int), (⟨#[]⟩ : ByteArray), (⟨0, 0, ([] : List GEntry)⟩ : GLog)⟩ : GHard), 10)))
        else
          m_ref11_Load_j3 x1488 i1219 l1222 s1226 i1227 i1228 l1229 i1220 i1221
      else
        m_ref11_Load_j3 x1488 i1219 l1222 s1226 i1227 i1228 l1229 i1220 i1221
  else
    some (.inr (.inl (i1220, i1221, l1222, s1226, i1227, i1228, l1229)))
noncomputable def m_ref11_Load (p0 : List ByteArray) : Option (GHard × Int) :=
  (loop (fun s => m_ref11_Load_s2 p0 s.1 s.2.1 s.2.2.1 s.2.2.2.1 s.2.2.2.2.1 s.2.2.2.2.2.1 s.2.2.2.2.2.2.1 s.2.2.2.2.2.2.2) (0, 0, 0, ([] : List Int), (⟨#[]⟩ : ByteArray), 0, 0, ([] : List GEntry))).bind fun e => Sum.elim (fun e => m_ref11_Load_j1 e.1 e.2.1 e.2.2.1 e.2.2.2.1 e.2.2.2.2.1 e.2.2.2.2.2.1 e.2.2.2.2.2.2) (fun x => some x) e
theorem c_ref11_Load {w0 : World} {M : Nat → Prop} {H : List (Nat × Nat × Obj)} {R : List (Nat × Row)} {φ : World → Prop} (p0 : List ByteArray) (Ap0_0 : Option Addr) (cp0_0 : Nat) (hcp0_0 : p0.length ≤ cp0_0) (fp0_0 : ∀ W, (Sta.mk w0 M H R φ).ok W → Cl W Ap0_0 (p0.flatMap (fun x : ByteArray => [Value.string x]))) (r : GHard × Int) (hm : m_ref11_Load p0 = some r) :
    Cn Try.prog 68 #[.slice Ap0_0 p0.length cp0_0] ⟨w0, M, H, R, φ⟩ (fun x : Option Addr × Nat × Option Addr × Nat => .tuple #[.agg #[.int .i64 r.1.fTerm, .int .i64 r.1.fVote, .slice x.1 r.1.fVoters.length x.2.1, .string r.1.fSnap, .int .i64 r.1.fLog.fBase, .int .i64 r.1.fLog.fBaseTerm, .slice x.2.2.1 r.1.fLog.fEntries.length x.2.2.2], .int .i64 r.2]) (fun x => r.1.fVoters.length ≤ x.2.1 ∧ r.1.fLog.fEntries.length ≤ x.2.2.2) (fun x => ⟨w0, M, H, R, fun W => φ W ∧ Cl W x.1 (r.1.fVoters.flatMap (fun x : Int => [Value.int .i64 x])) ∧ Cl W x.2.2.1 (r.1.fLog.fEntries.flatMap GEntry.enc)⟩) := by
 unfold m_ref11_Load at hm
 refine cn_intro (fn := Try.f68) (N := 227) Try.func68 rfl Try.ntmps68 rfl ?_
 refine c_seq ?_
 refine c_region ?_
 refine g_e rfl (e_alloc 100020 Try.zeroValue44) (fun g1 _ => ?_)
 refine g_v rfl r_assign ?_
 refine g_nil ?_
 refine d_then ?_
 refine c_seq ?_
 refine c_region ?_
 refine g_e rfl (e_alloc 100040 Try.zeroValue44) (fun g2 _ => ?_)
 refine g_nil ?_
 refine d_then ?_
 refine c_seq ?_
 refine c_seq ?_
 refine c_region ?_
 refine g_v rfl r_assign ?_
 refine g_nil ?_
 refine d_then ?_
 refine c_cut (ι := Int × Int × (List Int) × ByteArray × Int × Int × (List GEntry) × Option Addr × Nat × Option Addr × Nat) [2, 4] (fun ⟨i735, i736, l737, s741, i742, i743, l744, A738, c739, A745, c746⟩ => []) (fun ⟨i735, i736, l737, s741, i742, i743, l744, A738, c739, A745, c746⟩ => ⟨w0, M, (100040, g2, .cells #[.int .i64 i735, .int .i64 i736, .slice A738 l737.length c739, .string s741, .int .i64 i742, .int .i64 i743, .slice A745 l744.length c746] 44 (0, 0)) :: (100020, g1, .cells #[.int .i64 0, .int .i64 0, .slice none 0 0, .string (⟨#[]⟩ : ByteArray), .int .i64 0, .int .i64 0, .slice none 0 0] 44 (0, 0)) :: H, R, fun W => φ W ∧ Cl W A738 (l737.flatMap (fun x : Int => [Value.int .i64 x])) ∧ Cl W A745 (l744.flatMap GEntry.enc)⟩) (fun ⟨i735, i736, l737, s741, i742, i743, l744, A738, c739, A745, c746⟩ => m_ref11_Load_j1 i735 i736 l737 s741 i742 i743 l744 = some r ∧ l737.length ≤ c739 ∧ l744.length ≤ c746) ?_ (fun ⟨i735, i736, l737, s741, i742, i743, l744, A738, c739, A745, c746⟩ u ⟨hm, hc739, hc746⟩ => ?_)
 ·
  refine c_block ?_
  replace hm := bnd hm
  obtain ⟨out2, hl2, hr2⟩ := hm
  obtain ⟨n1485', hl2⟩ := loop_lp hl2
  refine c_loopU (ι := Nat × Int × Int × Int × (List Int) × ByteArray × Int × Int × (List GEntry) × Option Addr × Nat × Option Addr × Nat) [0, 2, 4, 5] (fun ⟨n1485, i1219, i1220, i1221, l1222, s1226, i1227, i1228, l1229, A1223, c1224, A1230, c1231⟩ => [(5, .int .i64 i1219)]) (fun ⟨n1485, i1219, i1220, i1221, l1222, s1226, i1227, i1228, l1229, A1223, c1224, A1230, c1231⟩ => ⟨w0, M, (100040, g2, .cells #[.int .i64 i1220, .int .i64 i1221, .slice A1223 l1222.length c1224, .string s1226, .int .i64 i1227, .int .i64 i1228, .slice A1230 l1229.length c1231] 44 (0, 0)) :: (100020, g1, .cells #[.int .i64 0, .int .i64 0, .slice none 0 0, .string (⟨#[]⟩ : ByteArray), .int .i64 0, .int .i64 0, .slice none 0 0] 44 (0, 0)) :: H, R, fun W => φ W ∧ Cl W A1223 (l1222.flatMap (fun x : Int => [Value.int .i64 x])) ∧ Cl W A1230 (l1229.flatMap GEntry.enc)⟩) (fun ⟨n1485, i1219, i1220, i1221, l1222, s1226, i1227, i1228, l1229, A1223, c1224, A1230, c1231⟩ => Lp (fun s => m_ref11_Load_s2 p0 s.1 s.2.1 s.2.2.1 s.2.2.2.1 s.2.2.2.2.1 s.2.2.2.2.2.1 s.2.2.2.2.2.2.1 s.2.2.2.2.2.2.2) n1485 (i1219, i1220, i1221, l1222, s1226, i1227, i1228, l1229) out2 ∧ l1222.length ≤ c1224 ∧ l1229.length ≤ c1231) (fun ⟨n1485, i1219, i1220, i1221, l1222, s1226, i1227, i1228, l1229, A1223, c1224, A1230, c1231⟩ => n1485) (n1485', 0, 0, 0, ([] : List Int), (⟨#[]⟩ : ByteArray), 0, 0, ([] : List GEntry), none, 0, none, 0) ⟨hl2, (Nat.le_refl 0), (Nat.le_refl 0)⟩ ⟨rfl, rfl, rfl, rfl, trivial⟩ (fun W h => h.phi (fun W hφ => ⟨hφ, (fun W _ => Cl.nil _ _) W hφ, (fun W _ => Cl.nil _ _) W hφ⟩)) (fun ⟨n1485, i1219, i1220, i1221, l1222, s1226, i1227, i1228, l1229, A1223, c1224, A1230, c1231⟩ u ⟨hlp, hc1224, hc1231⟩ => ?_)
  obtain ⟨o2, hm, hnx2⟩ := lp_step hlp
  clear hlp
  replace hm : m_ref11_Load_s2 p0 i1219 i1220 i1221 l1222 s1226 i1227 i1228 l1229 = some o2 := hm
  unfold m_ref11_Load_s2 at hm
  refine c_abs (fun φ1486 q1486' => ?_)
  have q1486 : ∀ W, φ1486 W → φ W := fun W h => (q1486' W h).1
  have f1225 := fun (W : World) (h : φ1486 W) => (q1486' W h).2.1
  have f1232 := fun (W : World) (h : φ1486 W) => (q1486' W h).2.2
  refine c_flat [(0, .slice Ap0_0 p0.length cp0_0), (2, .pointer (some ⟨g1, 0, none⟩)), (4, .pointer (some ⟨g2, 0, none⟩)), (5, .int .i64 i1219)] ⟨rfl, rfl, rfl, rfl, trivial⟩ (fun u => ?_)
  refine c_sta ⟨w0, M, (100040, g2, .cells #[.int .i64 i1220, .int .i64 i1221, .slice A1223 l1222.length c1224, .string s1226, .int .i64 i1227, .int .i64 i1228, .slice A1230 l1229.length c1231] 44 (0, 0)) :: (100020, g1, .cells #[.int .i64 0, .int .i64 0, .slice none 0 0, .string (⟨#[]⟩ : ByteArray), .int .i64 0, .int .i64 0, .slice none 0 0] 44 (0, 0)) :: H, R, φ1486⟩ (fun _ h => h) ?_
  refine c_seq ?_
  refine c_seq ?_
  refine c_region ?_
  refine g_v rfl r_move ?_
  refine g_v rfl r_move ?_
  refine g_v rfl (r_lenL Try.underlying58 rfl) ?_
  refine g_v rfl (r_lss rfl rfl) ?_
  refine g_nil ?_
  refine d_then ?_
  refine c_cond rfl (fun h1487 => ?_) (fun h1487 => ?_)
  ·
   replace hm := ite_t hm (of_decide_eq_true h1487)
   refine c_skip ?_
   refine d_then ?_
   refine c_seq ?_
   refine c_block ?_
   refine c_seq ?_
   refine c_region ?_
   refine g_v rfl r_move ?_
   refine g_v rfl r_move ?_
   replace hm := bnd hm
   obtain ⟨x1488, hx1488, hm⟩ := hm
   refine g_know _ (fun W hS => cl_at (p := (Sta.mk w0 M H R φ).ok) (sz := 1) (fun _ => rfl) (by decide) (ok_pre (H1 := [_, _]) (R1 := []) hS (fun W h => (q1486 _ h))) fp0_0 hx1488) ?_
   rintro ⟨ad1489, hA1491, f1490⟩
   refine g_v rfl (r_ix Try.underlying58 Try.sizeOf9 rfl hA1491 rfl hx1488) ?_
   refine g_v rfl (r_ld rfl Try.isAgg9 (fun W hS => Cl.head (f1490 W (ok_pre (H1 := [_, _]) (R1 := []) hS (fun W h => (q1486 _ h)))))) ?_
   refine g_v rfl r_assign ?_
   refine g_nil ?_
   refine d_then ?_
   refine c_flat [(0, .slice Ap0_0 p0.length cp0_0), (2, .pointer (some ⟨g1, 0, none⟩)), (4, .pointer (some ⟨g2, 0, none⟩)), (5, .int .i64 i1219), (6, .string x1488)] ⟨rfl, rfl, rfl, rfl, rfl, trivial⟩ (fun u => ?_)
   refine c_sta ⟨w0, M, (100040, g2, .cells #[.int .i64 i1220, .int .i64 i1221, .slice A1223 l1222.length c1224, .string s1226, .int .i64 i1227, .int .i64 i1228, .slice A1230 l1229.length c1231] 44 (0, 0)) :: (100020, g1, .cells #[.int .i64 0, .int .i64 0, .slice none 0 0, .string (⟨#[]⟩ : ByteArray), .int .i64 0, .int .i64 0, .slice none 0 0] 44 (0, 0)) :: H, R, φ1486⟩ (fun _ h => h) ?_
   refine c_seq ?_
   refine c_cut (ι := Unit) [0, 2, 4, 5, 6] (fun _ => []) (fun _ => ⟨w0, M, (100040, g2, .cells #[.int .i64 i1220, .int .i64 i1221, .slice A1223 l1222.length c1224, .string s1226, .int .i64 i1227, .int .i64 i1228, .slice A1230 l1229.length c1231] 44 (0, 0)) :: (100020, g1, .cells #[.int .i64 0, .int .i64 0, .slice none 0 0, .string (⟨#[]⟩ : ByteArray), .int .i64 0, .int .i64 0, .slice none 0 0] 44 (0, 0)) :: H, R, φ1486⟩) (fun _ => m_ref11_Load_j3 x1488 i1219 l1222 s1226 i1227 i1228 l1229 i1220 i1221 = some o2) ?_ (fun _ u hm => ?_)
   ·
    refine c_seq ?_
    refine c_region ?_
    refine g_v rfl r_move ?_
    refine g_v rfl (r_eqlT rfl rfl) ?_
    refine g_v rfl r_move ?_
    refine g_if rfl rfl rfl rfl rfl (fun h2012 => ?_) (fun h2012 => ?_)
    ·
     replace hm := ite_f hm (of_decide_eq_false h2012)
     refine g_v rfl r_move ?_
     refine g_do rfl rfl rfl rfl rfl h2012 ?_
     refine g_v rfl (r_eql rfl rfl) ?_
     refine g_do rfl rfl rfl rfl rfl h2012 ?_
     refine g_v rfl r_move ?_
     refine g_if rfl rfl rfl rfl rfl (fun h2013 => ?_) (fun h2013 => ?_)
     ·
      replace hm := ite_t hm (of_decide_eq_true h2013)
      refine g_v rfl r_move ?_
      refine g_do rfl rfl rfl rfl rfl h2013 ?_
      replace hm := bnd hm
      obtain ⟨b2014, hb2014, hm⟩ := hm
      refine g_v rfl (r_sat Try.underlying9 rfl rfl hb2014) ?_
      refine g_do rfl rfl rfl rfl rfl h2013 ?_
      refine g_v rfl (r_neq rfl rfl) ?_
      refine g_do rfl rfl rfl rfl rfl h2012 ?_
      refine g_v rfl (r_pick1 rfl h2013) ?_
      refine g_v rfl (r_pick0 rfl h2012) ?_
      refine g_nil ?_
      refine d_then ?_
      refine c_flat [(0, .slice Ap0_0 p0.length cp0_0), (2, .pointer (some ⟨g1, 0, none⟩)), (4, .pointer (some ⟨g2, 0, none⟩)), (5, .int .i64 i1219), (6, .string x1488), (35, .bool (decide (b2014 ≠ 87)))] ⟨rfl, rfl, rfl, rfl, rfl, rfl, trivial⟩ (fun u => ?_)
      refine c_sta ⟨w0, M, (100040, g2, .cells #[.int .i64 i1220, .int .i64 i1221, .slice A1223 l1222.length c1224, .string s1226, .int .i64 i1227, .int .i64 i1228, .slice A1230 l1229.length c1231] 44 (0, 0)) :: (100020, g1, .cells #[.int .i64 0, .int .i64 0, .slice none 0 0, .string (⟨#[]⟩ : ByteArray), .int .i64 0, .int .i64 0, .slice none 0 0] 44 (0, 0)) :: H, R, φ1486⟩ (fun _ h => h) ?_
      refine c_cond rfl (fun h2015 => ?_) (fun h2015 => ?_)
      ·
       replace hm := ite_t hm (of_decide_eq_true h2015)
       refine c_seq ?_
       refine c_region ?_
       refine g_v rfl (r_build _ rfl (bld44_7)) ?_
       refine g_storeL (tag := 100020) rfl rfl rfl rfl Try.sizeOf44 rfl rfl ?_
       refine g_v rfl r_assign ?_
       refine g_nil ?_
       refine d_then ?_
       refine c_ret ?_
       refine d_ret_then ?_
       refine d_ret_then ?_
       refine d_ret_block ?_
       refine d_ret_then ?_
       refine d_ret_then ?_
       refine d_ret_block ?_
       refine d_ret_then ?_
       refine d_ret_then ?_
       replace hm := nx_out (C := (fun e => Sum.elim (fun e => m_ref11_Load_j1 e.1 e.2.1 e.2.2.1 e.2.2.2.1 e.2.2.2.2.1 e.2.2.2.2.2.1 e.2.2.2.2.2.2) (fun x => some x) e = some r)) hm hnx2 hr2
       replace hm : some ((⟨0, 0, ([] : List Int), (⟨#[]⟩ : ByteArray), (⟨0, 0, ([] : List GEntry)⟩ : GLog)⟩ : GHard), 10) = some r := hm
       replace hm := Option.some.inj hm
       subst hm
       refine d_retC (none, 0, none, 0) Try.results68 ?_ ⟨(Nat.le_refl 0), (Nat.le_refl 0)⟩ (fun W h => ok_pre (H1 := [_, _]) (R1 := []) h (fun W hφ => ⟨(q1486 _ hφ), (fun W _ => Cl.nil _ _) W hφ, (fun W _ => Cl.nil _ _) W hφ⟩)) (.inr rfl)
       refine res_agg (tag := 100020) rfl rfl Try.isAgg44 Try.sizeOf44 ?_
       refine res_tmp ?_
       refine res_nil ?_
       exact rfl
      ·
       replace hm := ite_f hm (of_decide_eq_false h2015)
       refine c_skip ?_
       exact d_round () hm Nat.zero_lt_one ⟨rfl, rfl, rfl, rfl, rfl, trivial⟩ (fun W h => h.phi (fun W hφ => hφ))
     ·
      replace hm := ite_f hm (of_decide_eq_false h2013)
      refine g_no rfl rfl rfl rfl rfl h2013 ?_
      refine g_no rfl rfl rfl rfl rfl h2013 ?_
      refine g_do rfl rfl rfl rfl rfl h2012 ?_
      refine g_v rfl (r_pick0 rfl h2013) ?_
      refine g_v rfl (r_pick0 rfl h2012) ?_
      refine g_nil ?_
      refine d_then ?_
      refine c_cond0 rfl rfl ?_
      refine c_skip ?_
      exact d_round () hm Nat.zero_lt_one ⟨rfl, rfl, rfl, rfl, rfl, trivial⟩ (fun W h => h.phi (fun W hφ => hφ))
    ·
     replace hm := ite_t hm (of_decide_eq_true h2012)
     refine g_no rfl rfl rfl rfl rfl h2012 ?_
     refine g_no rfl rfl rfl rfl rfl h2012 ?_
     refine g_nu rfl rfl rfl rfl rfl ?_
     refine g_nu rfl rfl rfl rfl rfl ?_
     refine g_nu rfl rfl rfl rfl rfl ?_
     refine g_no rfl rfl rfl rfl rfl h2012 ?_
     refine g_v rfl (r_pick1 rfl h2012) ?_
     refine g_nil ?_
     refine d_then ?_
     refine c_cond1 rfl rfl ?_
     refine c_seq ?_
     refine c_region ?_
     refine g_v rfl (r_build _ rfl (bld44_7)) ?_
     refine g_storeL (tag := 100020) rfl rfl rfl rfl Try.sizeOf44 rfl rfl ?_
     refine g_v rfl r_assign ?_
     refine g_nil ?_
     refine d_then ?_
     refine c_ret ?_
     refine d_ret_then ?_
     refine d_ret_then ?_
     refine d_ret_block ?_
     refine d_ret_then ?_
     refine d_ret_then ?_
     refine d_ret_block ?_
     refine d_ret_then ?_
     refine d_ret_then ?_
     replace hm := nx_out (C := (fun e => Sum.elim (fun e => m_ref11_Load_j1 e.1 e.2.1 e.2.2.1 e.2.2.2.1 e.2.2.2.2.1 e.2.2.2.2.2.1 e.2.2.2.2.2.2) (fun x => some x) e = some r)) hm hnx2 hr2
     replace hm : some ((⟨0, 0, ([] : List Int), (⟨#[]⟩ : ByteArray), (⟨0, 0, ([] : List GEntry)⟩ : GLog)⟩ : GHard), 10) = some r := hm
     replace hm := Option.some.inj hm
     subst hm
     refine d_retC (none, 0, none, 0) Try.results68 ?_ ⟨(Nat.le_refl 0), (Nat.le_refl 0)⟩ (fun W h => ok_pre (H1 := [_, _]) (R1 := []) h (fun W hφ => ⟨(q1486 _ hφ), (fun W _ => Cl.nil _ _) W hφ, (fun W _ => Cl.nil _ _) W hφ⟩)) (.inr rfl)
     refine res_agg (tag := 100020) rfl rfl Try.isAgg44 Try.sizeOf44 ?_
     refine res_tmp ?_
     refine res_nil ?_
     exact rfl
   ·
    unfold m_ref11_Load_j3 at hm
    refine d_flat [(0, .slice Ap0_0 p0.length cp0_0), (2, .pointer (some ⟨g1, 0, none⟩)), (4, .pointer (some ⟨g2, 0, none⟩)), (5, .int .i64 i1219), (6, .string x1488)] ⟨rfl, rfl, rfl, rfl, rfl, trivial⟩ (fun u => ?_)
    refine d_sta ⟨w0, M, (100040, g2, .cells #[.int .i64 i1220, .int .i64 i1221, .slice A1223 l1222.length c1224, .string s1226, .int .i64 i1227, .int .i64 i1228, .slice A1230 l1229.length c1231] 44 (0, 0)) :: (100020, g1, .cells #[.int .i64 0, .int .i64 0, .slice none 0 0, .string (⟨#[]⟩ : ByteArray), .int .i64 0, .int .i64 0, .slice none 0 0] 44 (0, 0)) :: H, R, φ1486⟩ (fun _ h => h) ?_
    refine d_then ?_
    refine c_seq ?_
    refine c_region ?_
    refine g_v rfl r_move ?_
    replace hm := bnd hm
    obtain ⟨s1496, hs1496, hm⟩ := hm
    refine g_v rfl (r_scutLo Try.underlying9 rfl rfl hs1496) ?_
    refine g_v rfl (r_build _ rfl (bld137_8 _)) ?_
    refine g_e rfl (e_box 100400 rfl) (fun g1497 _ => ?_)
    refine g_v rfl r_assign ?_
    refine g_nil ?_
    refine d_then ?_
    refine c_seq ?_
    refine c_cut (ι := ByteArray × Bool × Int × Int × (List Int) × ByteArray × Int × Int × (List GEntry) × Option Addr × Nat × Option Addr × Nat) [0, 2, 4, 5, 7] (fun ⟨s1708, b1709, i1710, i1711, l1712, s1716, i1717, i1718, l1719, A1713, c1714, A1720, c1721⟩ => []) (fun ⟨s1708, b1709, i1710, i1711, l1712, s1716, i1717, i1718, l1719, A1713, c1714, A1720, c1721⟩ => ⟨w0, M, (100400, g1497, .cells #[.string s1708, .bool b1709] 137 (0, 0)) :: (100040, g2, .cells #[.int .i64 i1710, .int .i64 i1711, .slice A1713 l1712.length c1714, .string s1716, .int .i64 i1717, .int .i64 i1718, .slice A1720 l1719.length c1721] 44 (0, 0)) :: (100020, g1, .cells #[.int .i64 0, .int .i64 0, .slice none 0 0, .string (⟨#[]⟩ : ByteArray), .int .i64 0, .int .i64 0, .slice none 0 0] 44 (0, 0)) :: H, R, fun W => φ1486 W ∧ Cl W A1713 (l1712.flatMap (fun x : Int => [Value.int .i64 x])) ∧ Cl W A1720 (l1719.flatMap GEntry.enc)⟩) (fun ⟨s1708, b1709, i1710, i1711, l1712, s1716, i1717, i1718, l1719, A1713, c1714, A1720, c1721⟩ => m_ref11_Load_j4 i1219 s1708 b1709 i1710 i1711 l1712 s1716 i1717 i1718 l1719 = some o2 ∧ l1712.length ≤ c1714 ∧ l1719.length ≤ c1721) ?_ (fun ⟨s1708, b1709, i1710, i1711, l1712, s1716, i1717, i1718, l1719, A1713, c1714, A1720, c1721⟩ u ⟨hm, hc1714, hc1721⟩ => ?_)
    ·
     refine c_seq ?_
     refine c_region ?_
     refine g_v rfl r_move ?_
     replace hm := bnd hm
     obtain ⟨b1726, hb1726, hm⟩ := hm
     refine g_v rfl (r_sat Try.underlying9 rfl rfl hb1726) ?_
     refine g_nil ?_
     refine d_then ?_
     refine c_block ?_
     refine c_seq ?_
     refine c_region ?_
     refine g_v rfl (r_eql rfl rfl) ?_
     refine g_v rfl r_assign ?_
     refine g_nil ?_
     refine d_then ?_
     refine c_flat [(0, .slice Ap0_0 p0.length cp0_0), (2, .pointer (some ⟨g1, 0, none⟩)), (4, .pointer (some ⟨g2, 0, none⟩)), (5, .int .i64 i1219), (7, .pointer (some ⟨g1497, 0, none⟩)), (42, .int .u8 b1726), (44, .bool (decide (b1726 = 87)))] ⟨rfl, rfl, rfl, rfl, rfl, rfl, rfl, trivial⟩ (fun u => ?_)
     refine c_sta ⟨w0, M, (100400, g1497, .cells #[.string s1496, .bool false] 137 (0, 0)) :: (100040, g2, .cells #[.int .i64 i1220, .int .i64 i1221, .slice A1223 l1222.length c1224, .string s1226, .int .i64 i1227, .int .i64 i1228, .slice A1230 l1229.length c1231] 44 (0, 0)) :: (100020, g1, .cells #[.int .i64 0, .int .i64 0, .slice none 0 0, .string (⟨#[]⟩ : ByteArray), .int .i64 0, .int .i64 0, .slice none 0 0] 44 (0, 0)) :: H, R, φ1486⟩ (fun _ h => h) ?_
     refine c_cond rfl (fun h1727 => ?_) (fun h1727 => ?_)
     ·
      replace hm := ite_t hm (of_decide_eq_true h1727)
      refine c_seq ?_
      refine c_region ?_
      refine g_v rfl (r_build _ rfl (bld44_7)) ?_
      refine g_storeL (tag := 100040) rfl rfl rfl rfl Try.sizeOf44 rfl rfl ?_
      refine g_nil ?_
      refine d_then ?_
      refine c_seq ?_
      refine c_region ?_
      refine g_v rfl r_move ?_
      replace hm := bnd hm
      obtain ⟨⟨x1728, x1729⟩, hx1730, hm⟩ := hm
      refine g_cn ⟨w0, M, (1000, g1497, .cells #[.string s1496, .bool false] 137 (0, 0)) :: (100040, g2, .cells #[.int .i64 0, .int .i64 0, .slice none 0 0, .string (⟨#[]⟩ : ByteArray), .int .i64 0, .int .i64 0, .slice none 0 0] 44 (0, 0)) :: (100020, g1, .cells #[.int .i64 0, .int .i64 0, .slice none 0 0, .string (⟨#[]⟩ : ByteArray), .int .i64 0, .int .i64 0, .slice none 0 0] 44 (0, 0)) :: H, R, φ1486⟩ (fun W h => (ok_front (t := 100400) (t' := 1000) h rfl)) Try.call94 rfl rfl (c_ref11_reader_number g1497 (⟨s1496, false⟩ : Gref11_reader) _ hx1730) (fun _ _ => ?_)
      refine g_sta _ (fun W h => (ok_front (t := 1000) (t' := 100400) h rfl)) ?_
      refine g_v rfl (r_field (n := 0) Try.underlying44 rfl Try.sizeOf3 rfl rfl) ?_
      refine g_storeL (tag := 100040) rfl rfl rfl rfl Try.sizeOf3 rfl rfl ?_
      refine g_nil ?_
      refine d_then ?_
      refine c_seq ?_
      refine c_region ?_
      refine g_v rfl r_move ?_
      replace hm := bnd hm
      obtain ⟨⟨x1732, x1733⟩, hx1734, hm⟩ := hm
      refine g_cn ⟨w0, M, (1000, g1497, .cells #[.string x1729.fs, .bool x1729.fbad] 137 (0, 0)) :: (100040, g2, .cells #[.int .i64 x1728, .int .i64 0, .slice none 0 0, .string (⟨#[]⟩ : ByteArray), .int .i64 0, .int .i64 0, .slice none 0 0] 44 (0, 0)) :: (100020, g1, .cells #[.int .i64 0, .int .i64 0, .slice none 0 0, .string (⟨#[]⟩ : ByteArray), .int .i64 0, .int .i64 0, .slice none 0 0] 44 (0, 0)) :: H, R, φ1486⟩ (fun W h => (ok_front (t := 100400) (t' := 1000) h rfl)) Try.call94 rfl rfl (c_ref11_reader_number g1497 x1729 _ hx1734) (fun _ _ => ?_)
      refine g_sta _ (fun W h => (ok_front (t := 1000) (t' := 100400) h rfl)) ?_
      refine g_v rfl (r_field (n := 1) Try.underlying44 rfl Try.sizeOf3 rfl rfl) ?_
      refine g_storeL (tag := 100040) rfl rfl rfl rfl Try.sizeOf3 rfl rfl ?_
      refine g_nil ?_
      refine d_then ?_
      refine c_flat [(0, .slice Ap0_0 p0.length cp0_0), (2, .pointer (some ⟨g1, 0, none⟩)), (4, .pointer (some ⟨g2, 0, none⟩)), (5, .int .i64 i1219), (7, .pointer (some ⟨g1497, 0, none⟩))] ⟨rfl, rfl, rfl, rfl, rfl, trivial⟩ (fun u => ?_)
      refine c_sta ⟨w0, M, (100400, g1497, .cells #[.string x1733.fs, .bool x1733.fbad] 137 (0, 0)) :: (100040, g2, .cells #[.int .i64 x1728, .int .i64 x1732, .slice none 0 0, .string (⟨#[]⟩ : ByteArray), .int .i64 0, .int .i64 0, .slice none 0 0] 44 (0, 0)) :: (100020, g1, .cells #[.int .i64 0, .int .i64 0, .slice none 0 0, .string (⟨#[]⟩ : ByteArray), .int .i64 0, .int .i64 0, .slice none 0 0] 44 (0, 0)) :: H, R, φ1486⟩ (fun _ h => h) ?_
      refine c_seq ?_
      refine c_region ?_
      refine g_v rfl r_move ?_
      replace hm := bnd hm
      obtain ⟨⟨x1736, x1737⟩, hx1738, hm⟩ := hm
      refine g_cn ⟨w0, M, (1000, g1497, .cells #[.string x1733.fs, .bool x1733.fbad] 137 (0, 0)) :: (100040, g2, .cells #[.int .i64 x1728, .int .i64 x1732, .slice none 0 0, .string (⟨#[]⟩ : ByteArray), .int .i64 0, .int .i64 0, .slice none 0 0] 44 (0, 0)) :: (100020, g1, .cells #[.int .i64 0, .int .i64 0, .slice none 0 0, .string (⟨#[]⟩ : ByteArray), .int .i64 0, .int .i64 0, .slice none 0 0] 44 (0, 0)) :: H, R, φ1486⟩ (fun W h => (ok_front (t := 100400) (t' := 1000) h rfl)) Try.call94 rfl rfl (c_ref11_reader_number g1497 x1733 _ hx1738) (fun _ _ => ?_)
      refine g_sta _ (fun W h => (ok_front (t := 1000) (t' := 100400) h rfl)) ?_
      refine g_v rfl (r_field (n := 4) Try.underlying44 rfl Try.sizeOf26 rfl rfl) ?_
      refine g_v rfl (r_field (n := 4) Try.underlying26 rfl Try.sizeOf3 rfl rfl) ?_
      refine g_storeL (tag := 100040) rfl rfl rfl rfl Try.sizeOf3 rfl rfl ?_
      refine g_nil ?_
      refine d_then ?_
      refine c_seq ?_
      refine c_region ?_
      refine g_v rfl r_move ?_
      replace hm := bnd hm
      obtain ⟨⟨x1740, x1741⟩, hx1742, hm⟩ := hm
      refine g_cn ⟨w0, M, (1000, g1497, .cells #[.string x1737.fs, .bool x1737.fbad] 137 (0, 0)) :: (100040, g2, .cells #[.int .i64 x1728, .int .i64 x1732, .slice none 0 0, .string (⟨#[]⟩ : ByteArray), .int .i64 x1736, .int .i64 0, .slice none 0 0] 44 (0, 0)) :: (100020, g1, .cells #[.int .i64 0, .int .i64 0, .slice none 0 0, .string (⟨#[]⟩ : ByteArray), .int .i64 0, .int .i64 0, .slice none 0 0] 44 (0, 0)) :: H, R, φ1486⟩ (fun W h => (ok_front (t := 100400) (t' := 1000) h rfl)) Try.call94 rfl rfl (c_ref11_reader_number g1497 x1737 _ hx1742) (fun _ _ => ?_)
      refine g_sta _ (fun W h => (ok_front (t := 1000) (t' := 100400) h rfl)) ?_
      refine g_v rfl (r_field (n := 4) Try.underlying44 rfl Try.sizeOf26 rfl rfl) ?_
      refine g_v rfl (r_field (n := 5) Try.underlying26 rfl Try.sizeOf3 rfl rfl) ?_
      refine g_storeL (tag := 100040) rfl rfl rfl rfl Try.sizeOf3 rfl rfl ?_
      refine g_nil ?_
      refine d_then ?_
      refine c_flat [(0, .slice Ap0_0 p0.length cp0_0), (2, .pointer (some ⟨g1, 0, none⟩)), (4, .pointer (some ⟨g2, 0, none⟩)), (5, .int .i64 i1219), (7, .pointer (some ⟨g1497, 0, none⟩))] ⟨rfl, rfl, rfl, rfl, rfl, trivial⟩ (fun u => ?_)
      refine c_sta ⟨w0, M, (100400, g1497, .cells #[.string x1741.fs, .bool x1741.fbad] 137 (0, 0)) :: (100040, g2, .cells #[.int .i64 x1728, .int .i64 x1732, .slice none 0 0, .string (⟨#[]⟩ : ByteArray), .int .i64 x1736, .int .i64 x1740, .slice none 0 0] 44 (0, 0)) :: (100020, g1, .cells #[.int .i64 0, .int .i64 0, .slice none 0 0, .string (⟨#[]⟩ : ByteArray), .int .i64 0, .int .i64 0, .slice none 0 0] 44 (0, 0)) :: H, R, φ1486⟩ (fun _ h => h) ?_
      refine c_seq ?_
      refine c_region ?_
      refine g_v rfl r_move ?_
      replace hm := bnd hm
      obtain ⟨⟨x1744, x1745⟩, hx1746, hm⟩ := hm
      refine g_cn ⟨w0, M, (1000, g1497, .cells #[.string x1741.fs, .bool x1741.fbad] 137 (0, 0)) :: (100040, g2, .cells #[.int .i64 x1728, .int .i64 x1732, .slice none 0 0, .string (⟨#[]⟩ : ByteArray), .int .i64 x1736, .int .i64 x1740, .slice none 0 0] 44 (0, 0)) :: (100020, g1, .cells #[.int .i64 0, .int .i64 0, .slice none 0 0, .string (⟨#[]⟩ : ByteArray), .int .i64 0, .int .i64 0, .slice none 0 0] 44 (0, 0)) :: H, R, φ1486⟩ (fun W h => (ok_front (t := 100400) (t' := 1000) h rfl)) Try.call94 rfl rfl (c_ref11_reader_number g1497 x1741 _ hx1746) (fun _ _ => ?_)
      refine g_sta _ (fun W h => (ok_front (t := 1000) (t' := 100400) h rfl)) ?_
      refine g_v rfl r_assign ?_
      refine g_nil ?_
      refine d_then ?_
      refine c_seq ?_
      refine c_region ?_
      refine g_v rfl r_move ?_
      refine g_v rfl r_move ?_
      replace hm := bnd hm
      obtain ⟨⟨x1748, x1749⟩, hx1750, hm⟩ := hm
      refine g_cn ⟨w0, M, (1000, g1497, .cells #[.string x1745.fs, .bool x1745.fbad] 137 (0, 0)) :: (100040, g2, .cells #[.int .i64 x1728, .int .i64 x1732, .slice none 0 0, .string (⟨#[]⟩ : ByteArray), .int .i64 x1736, .int .i64 x1740, .slice none 0 0] 44 (0, 0)) :: (100020, g1, .cells #[.int .i64 0, .int .i64 0, .slice none 0 0, .string (⟨#[]⟩ : ByteArray), .int .i64 0, .int .i64 0, .slice none 0 0] 44 (0, 0)) :: H, R, φ1486⟩ (fun W h => (ok_front (t := 100400) (t' := 1000) h rfl)) Try.call95 rfl rfl (c_ref11_reader_take x1744 g1497 x1745 _ hx1750) (fun _ _ => ?_)
      refine g_sta _ (fun W h => (ok_front (t := 1000) (t' := 100400) h rfl)) ?_
      refine g_v rfl r_assign ?_
      refine g_nil ?_
      refine d_then ?_
      refine c_seq ?_
      refine c_seq ?_
      refine c_region ?_
      refine g_v rfl r_assign ?_
      refine g_nil ?_
      refine d_then ?_
      refine c_sta _ (fun W h => nilR h 42 3 1) ?_
      refine c_cut (ι := (List Int) × Option Addr × Nat) [0, 2, 4, 5, 7] (fun ⟨l1859, A1860, c1861⟩ => []) (fun ⟨l1859, A1860, c1861⟩ => ⟨w0, M, (100400, g1497, .cells #[.string x1749.fs, .bool x1749.fbad] 137 (0, 0)) :: (100040, g2, .cells #[.int .i64 x1728, .int .i64 x1732, .slice A1860 l1859.length c1861, .string (⟨#[]⟩ : ByteArray), .int .i64 x1736, .int .i64 x1740, .slice none 0 0] 44 (0, 0)) :: (100020, g1, .cells #[.int .i64 0, .int .i64 0, .slice none 0 0, .string (⟨#[]⟩ : ByteArray), .int .i64 0, .int .i64 0, .slice none 0 0] 44 (0, 0)) :: H, (42, ⟨.slice A1860 l1859.length c1861, 3, 1, l1859.length, l1859.flatMap (fun x : Int => [Value.int .i64 x])⟩) :: R, φ1486⟩) (fun ⟨l1859, A1860, c1861⟩ => m_ref11_Load_j5 x1749 i1219 x1728 x1732 x1736 x1740 l1859 = some o2 ∧ l1859.length ≤ c1861) ?_ (fun ⟨l1859, A1860, c1861⟩ u ⟨hm, hc1861⟩ => ?_)
      ·
       refine c_block ?_
       replace hm := bnd hm
       obtain ⟨out6, hl6, hr6⟩ := hm
       obtain ⟨n1933', hl6⟩ := loop_lp hl6
       refine c_loopU (ι := Nat × (List Int) × Int × Option Addr × Nat) [0, 2, 4, 5, 7, 9, 10] (fun ⟨n1933, l1909, i1912, A1910, c1911⟩ => [(10, .int .i64 i1912)]) (fun ⟨n1933, l1909, i1912, A1910, c1911⟩ => ⟨w0, M, (100400, g1497, .cells #[.string x1749.fs, .bool x1749.fbad] 137 (0, 0)) :: (100040, g2, .cells #[.int .i64 x1728, .int .i64 x1732, .slice A1910 l1909.length c1911, .string (⟨#[]⟩ : ByteArray), .int .i64 x1736, .int .i64 x1740, .slice none 0 0] 44 (0, 0)) :: (100020, g1, .cells #[.int .i64 0, .int .i64 0, .slice none 0 0, .string (⟨#[]⟩ : ByteArray), .int .i64 0, .int .i64 0, .slice none 0 0] 44 (0, 0)) :: H, (42, ⟨.slice A1910 l1909.length c1911, 3, 1, l1909.length, l1909.flatMap (fun x : Int => [Value.int .i64 x])⟩) :: R, φ1486⟩) (fun ⟨n1933, l1909, i1912, A1910, c1911⟩ => Lp (fun s => m_ref11_Load_s6 x1748 s.1 s.2) n1933 (l1909, i1912) out6 ∧ l1909.length ≤ c1911) (fun ⟨n1933, l1909, i1912, A1910, c1911⟩ => n1933) (n1933', ([] : List Int), 0, none, 0) ⟨hl6, (Nat.le_refl 0)⟩ ⟨rfl, rfl, rfl, rfl, rfl, rfl, rfl, trivial⟩ (fun W h => h.phi (fun W hφ => hφ)) (fun ⟨n1933, l1909, i1912, A1910, c1911⟩ u ⟨hlp, hc1911⟩ => ?_)
       obtain ⟨o6, hm, hnx6⟩ := lp_step hlp
       clear hlp
       replace hm : m_ref11_Load_s6 x1748 l1909 i1912 = some o6 := hm
       unfold m_ref11_Load_s6 at hm
       refine c_flat [(0, .slice Ap0_0 p0.length cp0_0), (2, .pointer (some ⟨g1, 0, none⟩)), (4, .pointer (some ⟨g2, 0, none⟩)), (5, .int .i64 i1219), (7, .pointer (some ⟨g1497, 0, none⟩)), (9, .string x1748), (10, .int .i64 i1912)] ⟨rfl, rfl, rfl, rfl, rfl, rfl, rfl, trivial⟩ (fun u => ?_)
       refine c_sta ⟨w0, M, (100400, g1497, .cells #[.string x1749.fs, .bool x1749.fbad] 137 (0, 0)) :: (100040, g2, .cells #[.int .i64 x1728, .int .i64 x1732, .slice A1910 l1909.length c1911, .string (⟨#[]⟩ : ByteArray), .int .i64 x1736, .int .i64 x1740, .slice none 0 0] 44 (0, 0)) :: (100020, g1, .cells #[.int .i64 0, .int .i64 0, .slice none 0 0, .string (⟨#[]⟩ : ByteArray), .int .i64 0, .int .i64 0, .slice none 0 0] 44 (0, 0)) :: H, (42, ⟨.slice A1910 l1909.length c1911, 3, 1, l1909.length, l1909.flatMap (fun x : Int => [Value.int .i64 x])⟩) :: R, φ1486⟩ (fun _ h => h) ?_
       refine c_seq ?_
       refine c_seq ?_
       refine c_region ?_
       refine g_v rfl r_move ?_
       refine g_v rfl r_move ?_
       refine g_v rfl (r_len Try.underlying9 rfl) ?_
       refine g_v rfl (r_lss rfl rfl) ?_
       refine g_nil ?_
       refine d_then ?_
       refine c_cond rfl (fun h1934 => ?_) (fun h1934 => ?_)
       ·
        replace hm := ite_t hm (of_decide_eq_true h1934)
        refine c_skip ?_
        refine d_then ?_
        refine c_seq ?_
        refine c_block ?_
        refine ga_start (n := 10) ⟨w0, M, (100400, g1497, .cells #[.string x1749.fs, .bool x1749.fbad] 137 (0, 0)) :: (100040, g2, .cells #[.int .i64 x1728, .int .i64 x1732, .slice A1910 l1909.length c1911, .string (⟨#[]⟩ : ByteArray), .int .i64 x1736, .int .i64 x1740, .slice none 0 0] 44 (0, 0)) :: (100020, g1, .cells #[.int .i64 0, .int .i64 0, .slice none 0 0, .string (⟨#[]⟩ : ByteArray), .int .i64 0, .int .i64 0, .slice none 0 0] 44 (0, 0)) :: H, R, φ1486⟩ [9] #[false, false, false, false, false, false, false, false, false, false] (fun W h => ((h.shut (t := 42) rfl).phi (fun _ hh => hh.1)).phi (fun W hφ => hφ)) mixed rfl rfl ?_
        refine ga_v (i := 0) #[true, false, false, false, false, false, false, false, false, false] rfl (by kernel_rfl) (fun _ _ _ _ h => h) rfl (r_field (n := 2) Try.underlying44 rfl Try.sizeOf42 rfl rfl) ?_
        refine ga_v (i := 1) #[true, true, false, false, false, false, false, false, false, false] rfl (by kernel_rfl) (fun _ _ _ _ h => h) rfl (r_load (tag := 100040) rfl rfl rfl Try.isAgg42) ?_
        refine ga_v (i := 2) #[true, true, true, false, false, false, false, false, false, false] rfl (by kernel_rfl) (fun _ _ _ _ h => h) rfl (r_move) ?_
        refine ga_r (i := 3) #[true, true, true, true, false, false, false, false, false, false] rfl (by kernel_rfl) (by decide) rfl (r_move) ?_
        replace hm := bnd hm
        obtain ⟨b1945, hb1945, hm⟩ := hm
        refine ga_r (i := 4) #[true, true, true, true, true, false, false, false, false, false] rfl (by kernel_rfl) (by decide) rfl (r_sat Try.underlying9 rfl rfl hb1945) ?_
        refine ga_r (i := 5) #[true, true, true, true, true, true, false, false, false, false] rfl (by kernel_rfl) (by decide) rfl (r_conv Try.underlying5 Try.underlying3 rfl rfl) ?_
        refine ga_e (i := 6) #[true, true, true, true, true, true, true, false, false, false] rfl (by kernel_rfl) (by decide) rfl  (e_lit (tag := 100780) (l := [w64 b1945]) (enc := (fun x : Int => [Value.int .i64 x])) (sz := 1) rfl Try.underlying42 (lit3_2 _) rfl rfl (fun _ => rfl)) (fun g1946 W _ h => ((((h.shut (t := 100780) rfl).phi (fun _ hh => hh.1)).shut (t := 42) rfl).phi (fun _ hh => hh.1)).phi (fun W hφ => hφ)) (fun g1946 _ => ?_)
        replace hm := bnd hm
        obtain ⟨l1947, hl1947, hm⟩ := hm
        refine ga_e (i := 7) #[true, true, true, true, true, true, true, true, false, false] rfl (by kernel_rfl) (by decide) rfl  (e_appR (enc := (fun x : Int => [Value.int .i64 x])) (l := l1909) (l1 := [w64 b1945]) (l2 := l1947) (tag := 42) Try.underlying42 inf3_3 rfl (by decide) (by decide) (fun _ => rfl) (fun _ => rfl) rfl hc1911 rfl rfl (fun W hS => rowCl (tag := 100780) rfl W hS) hl1947) (fun ⟨A1948, c1949⟩ W hc1949 h => ((((h.shut (t := 100780) rfl).phi (fun _ hh => hh.1)).shut (t := 42) rfl).phi (fun _ hh => hh.1)).phi (fun W hφ => hφ)) (fun ⟨A1948, c1949⟩ hc1949 => ?_)
        refine ga_r (i := 8) #[true, true, true, true, true, true, true, true, true, false] rfl (by kernel_rfl) (by decide) rfl (r_field (n := 2) Try.underlying44 rfl Try.sizeOf42 rfl rfl) ?_
        refine ga_lastL (i := 9) (tag := 100040) #[true, true, true, true, true, true, true, true, true, true] rfl (by kernel_rfl) (by decide) rfl rfl rfl rfl Try.sizeOf42 rfl rfl ?_
        refine gz_done (by kernel_rfl) ?_
        refine d_normal_block ?_
        refine d_then ?_
        refine c_flat [(0, .slice Ap0_0 p0.length cp0_0), (2, .pointer (some ⟨g1, 0, none⟩)), (4, .pointer (some ⟨g2, 0, none⟩)), (5, .int .i64 i1219), (7, .pointer (some ⟨g1497, 0, none⟩)), (9, .string x1748), (10, .int .i64 i1912)] ⟨rfl, rfl, rfl, rfl, rfl, rfl, rfl, trivial⟩ (fun u => ?_)
        refine c_sta ⟨w0, M, (100400, g1497, .cells #[.string x1749.fs, .bool x1749.fbad] 137 (0, 0)) :: (100040, g2, .cells #[.int .i64 x1728, .int .i64 x1732, .slice A1948 l1947.length c1949, .string (⟨#[]⟩ : ByteArray), .int .i64 x1736, .int .i64 x1740, .slice none 0 0] 44 (0, 0)) :: (100020, g1, .cells #[.int .i64 0, .int .i64 0, .slice none 0 0, .string (⟨#[]⟩ : ByteArray), .int .i64 0, .int .i64 0, .slice none 0 0] 44 (0, 0)) :: H, (100780, ⟨.slice (some ⟨g1946, 0, none⟩) [w64 b1945].length 1, 3, 1, [w64 b1945].length, [w64 b1945].flatMap (fun x : Int => [Value.int .i64 x])⟩) :: (42, ⟨.slice A1948 l1947.length c1949, 3, 1, l1947.length, l1947.flatMap (fun x : Int => [Value.int .i64 x])⟩) :: R, φ1486⟩ (fun _ h => h) ?_
        refine c_region ?_
        refine g_v rfl r_move ?_
        refine g_v rfl (r_add rfl rfl rfl) ?_
        refine g_v rfl r_assign ?_
        refine g_nil ?_
        obtain ⟨n1950, hn1950, hlp⟩ := nx_inl hm hnx6
        exact d_round (n1950, l1947, w64 (i1912 + 1), A1948, c1949) ⟨hlp, hc1949⟩ hn1950 ⟨rfl, rfl, rfl, rfl, rfl, rfl, rfl, trivial⟩ (fun W h => ((h.shut (t := 100780) rfl).phi (fun _ hh => hh.1)).phi (fun W hφ => hφ))
       ·
        replace hm := ite_f hm (of_decide_eq_false h1934)
        refine c_exit ?_
        refine d_exit_then ?_
        refine d_exit_then ?_
        refine d_exit_block ?_
        replace hm := nx_out (C := (fun e => m_ref11_Load_j5 x1749 i1219 x1728 x1732 x1736 x1740 e = some o2)) hm hnx6 hr6
        exact d_round (l1909, A1910, c1911) ⟨hm, hc1911⟩ Nat.zero_lt_one ⟨rfl, rfl, rfl, rfl, rfl, trivial⟩ (fun W h => h.phi (fun W hφ => hφ))
      ·
       unfold m_ref11_Load_j5 at hm
       refine d_flat [(0, .slice Ap0_0 p0.length cp0_0), (2, .pointer (some ⟨g1, 0, none⟩)), (4, .pointer (some ⟨g2, 0, none⟩)), (5, .int .i64 i1219), (7, .pointer (some ⟨g1497, 0, none⟩))] ⟨rfl, rfl, rfl, rfl, rfl, trivial⟩ (fun u => ?_)
       refine d_sta ⟨w0, M, (100400, g1497, .cells #[.string x1749.fs, .bool x1749.fbad] 137 (0, 0)) :: (100040, g2, .cells #[.int .i64 x1728, .int .i64 x1732, .slice A1860 l1859.length c1861, .string (⟨#[]⟩ : ByteArray), .int .i64 x1736, .int .i64 x1740, .slice none 0 0] 44 (0, 0)) :: (100020, g1, .cells #[.int .i64 0, .int .i64 0, .slice none 0 0, .string (⟨#[]⟩ : ByteArray), .int .i64 0, .int .i64 0, .slice none 0 0] 44 (0, 0)) :: H, (42, ⟨.slice A1860 l1859.length c1861, 3, 1, l1859.length, l1859.flatMap (fun x : Int => [Value.int .i64 x])⟩) :: R, φ1486⟩ (fun _ h => h) ?_
       refine d_then ?_
       refine c_seq ?_
       refine c_region ?_
       refine g_v rfl r_move ?_
       replace hm := bnd hm
       obtain ⟨⟨x1862, x1863⟩, hx1864, hm⟩ := hm
       refine g_cn ⟨w0, M, (1000, g1497, .cells #[.string x1749.fs, .bool x1749.fbad] 137 (0, 0)) :: (100040, g2, .cells #[.int .i64 x1728, .int .i64 x1732, .slice A1860 l1859.length c1861, .string (⟨#[]⟩ : ByteArray), .int .i64 x1736, .int .i64 x1740, .slice none 0 0] 44 (0, 0)) :: (100020, g1, .cells #[.int .i64 0, .int .i64 0, .slice none 0 0, .string (⟨#[]⟩ : ByteArray), .int .i64 0, .int .i64 0, .slice none 0 0] 44 (0, 0)) :: H, (42, ⟨.slice A1860 l1859.length c1861, 3, 1, l1859.length, l1859.flatMap (fun x : Int => [Value.int .i64 x])⟩) :: R, φ1486⟩ (fun W h => (ok_front (t := 100400) (t' := 1000) h rfl)) Try.call94 rfl rfl (c_ref11_reader_number g1497 x1749 _ hx1864) (fun _ _ => ?_)
       refine g_sta _ (fun W h => (ok_front (t := 1000) (t' := 100400) h rfl)) ?_
       refine g_v rfl r_assign ?_
       refine g_nil ?_
       refine d_then ?_
       refine c_seq ?_
       refine c_region ?_
       refine g_v rfl r_move ?_
       refine g_v rfl r_move ?_
       replace hm := bnd hm
       obtain ⟨⟨x1866, x1867⟩, hx1868, hm⟩ := hm
       refine g_cn ⟨w0, M, (1000, g1497, .cells #[.string x1863.fs, .bool x1863.fbad] 137 (0, 0)) :: (100040, g2, .cells #[.int .i64 x1728, .int .i64 x1732, .slice A1860 l1859.length c1861, .string (⟨#[]⟩ : ByteArray), .int .i64 x1736, .int .i64 x1740, .slice none 0 0] 44 (0, 0)) :: (100020, g1, .cells #[.int .i64 0, .int .i64 0, .slice none 0 0, .string (⟨#[]⟩ : ByteArray), .int .i64 0, .int .i64 0, .slice none 0 0] 44 (0, 0)) :: H, (42, ⟨.slice A1860 l1859.length c1861, 3, 1, l1859.length, l1859.flatMap (fun x : Int => [Value.int .i64 x])⟩) :: R, φ1486⟩ (fun W h => (ok_front (t := 100400) (t' := 1000) h rfl)) Try.call95 rfl rfl (c_ref11_reader_take x1862 g1497 x1863 _ hx1868) (fun _ _ => ?_)
       refine g_sta _ (fun W h => (ok_front (t := 1000) (t' := 100400) h rfl)) ?_
       refine g_v rfl (r_field (n := 3) Try.underlying44 rfl Try.sizeOf9 rfl rfl) ?_
       refine g_storeL (tag := 100040) rfl rfl rfl rfl Try.sizeOf9 rfl rfl ?_
       refine g_nil ?_
       refine d_then ?_
       refine c_seq ?_
       refine c_region ?_
       refine g_v rfl (r_field (n := 2) Try.underlying44 rfl Try.sizeOf42 rfl rfl) ?_
       refine g_v rfl (r_load (tag := 100040) rfl rfl rfl Try.isAgg42) ?_
       replace hm := bnd hm
       obtain ⟨x1870, hx1871, hm⟩ := hm
       refine g_cn ⟨w0, M, _, _, φ1486⟩ (fun _ h => h) Try.call96 rfl rfl (c_ref11_Right l1859 A1860 c1861 hc1861 (fun W hS => rowCl (tag := 42) rfl W hS) _ hx1871) (fun _ _ => ?_)
       refine g_v rfl r_assign ?_
       refine g_nil ?_
       refine d_then ?_
       refine c_flat [(0, .slice Ap0_0 p0.length cp0_0), (2, .pointer (some ⟨g1, 0, none⟩)), (4, .pointer (some ⟨g2, 0, none⟩)), (5, .int .i64 i1219), (7, .pointer (some ⟨g1497, 0, none⟩)), (11, .bool x1870)] ⟨rfl, rfl, rfl, rfl, rfl, rfl, trivial⟩ (fun u => ?_)
       refine c_sta ⟨w0, M, (100400, g1497, .cells #[.string x1867.fs, .bool x1867.fbad] 137 (0, 0)) :: (100040, g2, .cells #[.int .i64 x1728, .int .i64 x1732, .slice A1860 l1859.length c1861, .string x1866, .int .i64 x1736, .int .i64 x1740, .slice none 0 0] 44 (0, 0)) :: (100020, g1, .cells #[.int .i64 0, .int .i64 0, .slice none 0 0, .string (⟨#[]⟩ : ByteArray), .int .i64 0, .int .i64 0, .slice none 0 0] 44 (0, 0)) :: H, (42, ⟨.slice A1860 l1859.length c1861, 3, 1, l1859.length, l1859.flatMap (fun x : Int => [Value.int .i64 x])⟩) :: R, φ1486⟩ (fun _ h => h) ?_
       refine c_region ?_
       refine g_v rfl r_move ?_
       refine g_v rfl r_move ?_
       refine g_v rfl (r_nilck rfl) ?_
       refine g_v rfl (r_field (n := 1) Try.underlying137 rfl Try.sizeOf4 rfl rfl) ?_
       refine g_v rfl (r_load (tag := 100400) rfl rfl rfl Try.isAgg4) ?_
       refine g_v rfl r_move ?_
       refine g_if rfl rfl rfl rfl rfl (fun h1872 => ?_) (fun h1872 => ?_)
       ·
        replace hm := ite_f hm (bool_nt h1872)
        refine g_v rfl r_move ?_
        refine g_do rfl rfl rfl rfl rfl h1872 ?_
        refine g_v rfl (r_not rfl) ?_
        refine g_do rfl rfl rfl rfl rfl h1872 ?_
        refine g_v rfl r_move ?_
        refine g_if rfl rfl rfl rfl rfl (fun h1873 => ?_) (fun h1873 => ?_)
        ·
         have h1873' : x1870 = false := by revert h1873; cases x1870 <;> simp
         replace hm := ite_f hm (bool_nt h1873')
         refine g_v rfl (r_field (n := 2) Try.underlying44 rfl Try.sizeOf42 rfl rfl) ?_
         refine g_do rfl rfl rfl rfl rfl h1873 ?_
         refine g_v rfl (r_load (tag := 100040) rfl rfl rfl Try.isAgg42) ?_
         refine g_do rfl rfl rfl rfl rfl h1873 ?_
         refine g_v rfl (r_lenL Try.underlying42 rfl) ?_
         refine g_do rfl rfl rfl rfl rfl h1873 ?_
         refine g_v rfl (r_gtr rfl rfl) ?_
         refine g_do rfl rfl rfl rfl rfl h1872 ?_
         refine g_v rfl (r_pick1 rfl h1873) ?_
         refine g_v rfl (r_pick0 rfl h1872) ?_
         refine g_v rfl r_move ?_
         refine g_if rfl rfl rfl rfl rfl (fun h1874 => ?_) (fun h1874 => ?_)
         ·
          replace hm := ite_f hm (of_decide_eq_false h1874)
          refine g_v rfl (r_field (n := 3) Try.underlying44 rfl Try.sizeOf9 rfl rfl) ?_
          refine g_do rfl rfl rfl rfl rfl h1874 ?_
          refine g_v rfl (r_load (tag := 100040) rfl rfl rfl Try.isAgg9) ?_
          refine g_do rfl rfl rfl rfl rfl h1874 ?_
          refine g_v rfl (r_len Try.underlying9 rfl) ?_
          refine g_do rfl rfl rfl rfl rfl h1874 ?_
          refine g_v rfl (r_gtr rfl rfl) ?_
          refine g_v rfl (r_pick0 rfl h1874) ?_
          refine g_v rfl r_move ?_
          refine g_if rfl rfl rfl rfl rfl (fun h1875 => ?_) (fun h1875 => ?_)
          ·
           replace hm := ite_f hm (of_decide_eq_false h1875)
           refine g_v rfl r_move ?_
           refine g_do rfl rfl rfl rfl rfl h1875 ?_
           refine g_v rfl (r_nilck rfl) ?_
           refine g_do rfl rfl rfl rfl rfl h1875 ?_
           refine g_v rfl (r_field (n := 0) Try.underlying137 rfl Try.sizeOf9 rfl rfl) ?_
           refine g_do rfl rfl rfl rfl rfl h1875 ?_
           refine g_v rfl (r_load (tag := 100400) rfl rfl rfl Try.isAgg9) ?_
           refine g_do rfl rfl rfl rfl rfl h1875 ?_
           refine g_v rfl (r_neqT rfl rfl) ?_
           refine g_v rfl (r_pick0 rfl h1875) ?_
           refine g_v rfl (r_nilck rfl) ?_
           refine g_v rfl (r_field (n := 1) Try.underlying137 rfl Try.sizeOf4 rfl rfl) ?_
           refine g_storeL (tag := 100400) rfl rfl rfl rfl Try.sizeOf4 rfl rfl ?_
           refine g_nil ?_
           refine d_normal_block ?_
           refine d_shut (tag := 42) rfl (fun φ1876 q1876' => ?_)
           have q1876 : ∀ W, φ1876 W → φ1486 W := fun W h => (q1876' W h).1
           have f1877 := fun (W : World) (h : φ1876 W) => (q1876' W h).2
           exact d_round (x1867.fs, !(decide (x1867.fs = (⟨#[]⟩ : ByteArray))), x1728, x1732, l1859, x1866, x1736, x1740, ([] : List GEntry), A1860, c1861, none, 0) ⟨hm, hc1861, (Nat.le_refl 0)⟩ Nat.zero_lt_one ⟨rfl, rfl, rfl, rfl, rfl, trivial⟩ (fun W h => h.phi (fun W hφ => ⟨(q1876 _ hφ), (fun W h => f1877 W h) W hφ, (fun W _ => Cl.nil _ _) W hφ⟩))
          ·
           replace hm := ite_t hm (of_decide_eq_true h1875)
           refine g_no rfl rfl rfl rfl rfl h1875 ?_
           refine g_no rfl rfl rfl rfl rfl h1875 ?_
           refine g_no rfl rfl rfl rfl rfl h1875 ?_
           refine g_no rfl rfl rfl rfl rfl h1875 ?_
           refine g_v rfl (r_pick1 rfl h1875) ?_
           refine g_v rfl (r_nilck rfl) ?_
           refine g_v rfl (r_field (n := 1) Try.underlying137 rfl Try.sizeOf4 rfl rfl) ?_
           refine g_storeL (tag := 100400) rfl rfl rfl rfl Try.sizeOf4 rfl rfl ?_
           refine g_nil ?_
           refine d_normal_block ?_
           refine d_shut (tag := 42) rfl (fun φ1878 q1878' => ?_)
           have q1878 : ∀ W, φ1878 W → φ1486 W := fun W h => (q1878' W h).1
           have f1879 := fun (W : World) (h : φ1878 W) => (q1878' W h).2
           exact d_round (x1867.fs, true, x1728, x1732, l1859, x1866, x1736, x1740, ([] : List GEntry), A1860, c1861, none, 0) ⟨hm, hc1861, (Nat.le_refl 0)⟩ Nat.zero_lt_one ⟨rfl, rfl, rfl, rfl, rfl, trivial⟩ (fun W h => h.phi (fun W hφ => ⟨(q1878 _ hφ), (fun W h => f1879 W h) W hφ, (fun W _ => Cl.nil _ _) W hφ⟩))
         ·
          replace hm := ite_t hm (of_decide_eq_true h1874)
          refine g_no rfl rfl rfl rfl rfl h1874 ?_
          refine g_no rfl rfl rfl rfl rfl h1874 ?_
          refine g_no rfl rfl rfl rfl rfl h1874 ?_
          refine g_v rfl (r_pick1 rfl h1874) ?_
          refine g_v rfl r_move ?_
          refine g_no rfl rfl rfl rfl rfl rfl ?_
          refine g_no rfl rfl rfl rfl rfl rfl ?_
          refine g_no rfl rfl rfl rfl rfl rfl ?_
          refine g_no rfl rfl rfl rfl rfl rfl ?_
          refine g_no rfl rfl rfl rfl rfl rfl ?_
          refine g_v rfl (r_pick1 rfl rfl) ?_
          refine g_v rfl (r_nilck rfl) ?_
          refine g_v rfl (r_field (n := 1) Try.underlying137 rfl Try.sizeOf4 rfl rfl) ?_
          refine g_storeL (tag := 100400) rfl rfl rfl rfl Try.sizeOf4 rfl rfl ?_
          refine g_nil ?_
          refine d_normal_block ?_
          refine d_shut (tag := 42) rfl (fun φ1880 q1880' => ?_)
          have q1880 : ∀ W, φ1880 W → φ1486 W := fun W h => (q1880' W h).1
          have f1881 := fun (W : World) (h : φ1880 W) => (q1880' W h).2
          exact d_round (x1867.fs, true, x1728, x1732, l1859, x1866, x1736, x1740, ([] : List GEntry), A1860, c1861, none, 0) ⟨hm, hc1861, (Nat.le_refl 0)⟩ Nat.zero_lt_one ⟨rfl, rfl, rfl, rfl, rfl, trivial⟩ (fun W h => h.phi (fun W hφ => ⟨(q1880 _ hφ), (fun W h => f1881 W h) W hφ, (fun W _ => Cl.nil _ _) W hφ⟩))
        ·
         have h1873' : x1870 = true := by revert h1873; cases x1870 <;> simp
         replace hm := ite_t hm h1873'
         refine g_no rfl rfl rfl rfl rfl h1873 ?_
         refine g_no rfl rfl rfl rfl rfl h1873 ?_
         refine g_no rfl rfl rfl rfl rfl h1873 ?_
         refine g_do rfl rfl rfl rfl rfl h1872 ?_
         refine g_v rfl (r_pick0 rfl h1873) ?_
         refine g_v rfl (r_pick0 rfl h1872) ?_
         refine g_v rfl r_move ?_
         refine g_do rfl rfl rfl rfl rfl rfl ?_
         refine g_v rfl (r_field (n := 3) Try.underlying44 rfl Try.sizeOf9 rfl rfl) ?_
         refine g_do rfl rfl rfl rfl rfl rfl ?_
         refine g_v rfl (r_load (tag := 100040) rfl rfl rfl Try.isAgg9) ?_
         refine g_do rfl rfl rfl rfl rfl rfl ?_
         refine g_v rfl (r_len Try.underlying9 rfl) ?_
         refine g_do rfl rfl rfl rfl rfl rfl ?_
         refine g_v rfl (r_gtr rfl rfl) ?_
         refine g_v rfl (r_pick0 rfl rfl) ?_
         refine g_v rfl r_move ?_
         refine g_if rfl rfl rfl rfl rfl (fun h1882 => ?_) (fun h1882 => ?_)
         ·
          replace hm := ite_f hm (of_decide_eq_false h1882)
          refine g_v rfl r_move ?_
          refine g_do rfl rfl rfl rfl rfl h1882 ?_
          refine g_v rfl (r_nilck rfl) ?_
          refine g_do rfl rfl rfl rfl rfl h1882 ?_
          refine g_v rfl (r_field (n := 0) Try.underlying137 rfl Try.sizeOf9 rfl rfl) ?_
          refine g_do rfl rfl rfl rfl rfl h1882 ?_
          refine g_v rfl (r_load (tag := 100400) rfl rfl rfl Try.isAgg9) ?_
          refine g_do rfl rfl rfl rfl rfl h1882 ?_
          refine g_v rfl (r_neqT rfl rfl) ?_
          refine g_v rfl (r_pick0 rfl h1882) ?_
          refine g_v rfl (r_nilck rfl) ?_
          refine g_v rfl (r_field (n := 1) Try.underlying137 rfl Try.sizeOf4 rfl rfl) ?_
          refine g_storeL (tag := 100400) rfl rfl rfl rfl Try.sizeOf4 rfl rfl ?_
          refine g_nil ?_
          refine d_normal_block ?_
          refine d_shut (tag := 42) rfl (fun φ1883 q1883' => ?_)
          have q1883 : ∀ W, φ1883 W → φ1486 W := fun W h => (q1883' W h).1
          have f1884 := fun (W : World) (h : φ1883 W) => (q1883' W h).2
          exact d_round (x1867.fs, !(decide (x1867.fs = (⟨#[]⟩ : ByteArray))), x1728, x1732, l1859, x1866, x1736, x1740, ([] : List GEntry), A1860, c1861, none, 0) ⟨hm, hc1861, (Nat.le_refl 0)⟩ Nat.zero_lt_one ⟨rfl, rfl, rfl, rfl, rfl, trivial⟩ (fun W h => h.phi (fun W hφ => ⟨(q1883 _ hφ), (fun W h => f1884 W h) W hφ, (fun W _ => Cl.nil _ _) W hφ⟩))
         ·
          replace hm := ite_t hm (of_decide_eq_true h1882)
          refine g_no rfl rfl rfl rfl rfl h1882 ?_
          refine g_no rfl rfl rfl rfl rfl h1882 ?_
          refine g_no rfl rfl rfl rfl rfl h1882 ?_
          refine g_no rfl rfl rfl rfl rfl h1882 ?_
          refine g_v rfl (r_pick1 rfl h1882) ?_
          refine g_v rfl (r_nilck rfl) ?_
          refine g_v rfl (r_field (n := 1) Try.underlying137 rfl Try.sizeOf4 rfl rfl) ?_
          refine g_storeL (tag := 100400) rfl rfl rfl rfl Try.sizeOf4 rfl rfl ?_
          refine g_nil ?_
          refine d_normal_block ?_
          refine d_shut (tag := 42) rfl (fun φ1885 q1885' => ?_)
          have q1885 : ∀ W, φ1885 W → φ1486 W := fun W h => (q1885' W h).1
          have f1886 := fun (W : World) (h : φ1885 W) => (q1885' W h).2
          exact d_round (x1867.fs, true, x1728, x1732, l1859, x1866, x1736, x1740, ([] : List GEntry), A1860, c1861, none, 0) ⟨hm, hc1861, (Nat.le_refl 0)⟩ Nat.zero_lt_one ⟨rfl, rfl, rfl, rfl, rfl, trivial⟩ (fun W h => h.phi (fun W hφ => ⟨(q1885 _ hφ), (fun W h => f1886 W h) W hφ, (fun W _ => Cl.nil _ _) W hφ⟩))
       ·
        replace hm := ite_t hm h1872
        refine g_no rfl rfl rfl rfl rfl h1872 ?_
        refine g_no rfl rfl rfl rfl rfl h1872 ?_
        refine g_nu rfl rfl rfl rfl rfl ?_
        refine g_nu rfl rfl rfl rfl rfl ?_
        refine g_nu rfl rfl rfl rfl rfl ?_
        refine g_nu rfl rfl rfl rfl rfl ?_
        refine g_no rfl rfl rfl rfl rfl h1872 ?_
        refine g_v rfl (r_pick1 rfl h1872) ?_
        refine g_v rfl r_move ?_
        refine g_no rfl rfl rfl rfl rfl rfl ?_
        refine g_no rfl rfl rfl rfl rfl rfl ?_
        refine g_no rfl rfl rfl rfl rfl rfl ?_
        refine g_no rfl rfl rfl rfl rfl rfl ?_
        refine g_v rfl (r_pick1 rfl rfl) ?_
        refine g_v rfl r_move ?_
        refine g_no rfl rfl rfl rfl rfl rfl ?_
        refine g_no rfl rfl rfl rfl rfl rfl ?_
        refine g_no rfl rfl rfl rfl rfl rfl ?_
        refine g_no rfl rfl rfl rfl rfl rfl ?_
        refine g_no rfl rfl rfl rfl rfl rfl ?_
        refine g_v rfl (r_pick1 rfl rfl) ?_
        refine g_v rfl (r_nilck rfl) ?_
        refine g_v rfl (r_field (n := 1) Try.underlying137 rfl Try.sizeOf4 rfl rfl) ?_
        refine g_storeL (tag := 100400) rfl rfl rfl rfl Try.sizeOf4 rfl rfl ?_
        refine g_nil ?_
        refine d_normal_block ?_
        refine d_shut (tag := 42) rfl (fun φ1887 q1887' => ?_)
        have q1887 : ∀ W, φ1887 W → φ1486 W := fun W h => (q1887' W h).1
        have f1888 := fun (W : World) (h : φ1887 W) => (q1887' W h).2
        exact d_round (x1867.fs, true, x1728, x1732, l1859, x1866, x1736, x1740, ([] : List GEntry), A1860, c1861, none, 0) ⟨hm, hc1861, (Nat.le_refl 0)⟩ Nat.zero_lt_one ⟨rfl, rfl, rfl, rfl, rfl, trivial⟩ (fun W h => h.phi (fun W hφ => ⟨(q1887 _ hφ), (fun W h => f1888 W h) W hφ, (fun W _ => Cl.nil _ _) W hφ⟩))
     ·
      replace hm := ite_f hm (of_decide_eq_false h1727)
      refine c_seq ?_
      refine c_region ?_
      refine g_v rfl (r_eql rfl rfl) ?_
      refine g_v rfl r_assign ?_
      refine g_nil ?_
      refine d_then ?_
      refine c_cond rfl (fun h1951 => ?_) (fun h1951 => ?_)
      ·
       replace hm := ite_t hm (of_decide_eq_true h1951)
       refine c_seq ?_
       refine c_region ?_
       refine g_v rfl r_move ?_
       replace hm := bnd hm
       obtain ⟨⟨x1952, x1953⟩, hx1954, hm⟩ := hm
       refine g_cn ⟨w0, M, (1000, g1497, .cells #[.string s1496, .bool false] 137 (0, 0)) :: (100040, g2, .cells #[.int .i64 i1220, .int .i64 i1221, .slice A1223 l1222.length c1224, .string s1226, .int .i64 i1227, .int .i64 i1228, .slice A1230 l1229.length c1231] 44 (0, 0)) :: (100020, g1, .cells #[.int .i64 0, .int .i64 0, .slice none 0 0, .string (⟨#[]⟩ : ByteArray), .int .i64 0, .int .i64 0, .slice none 0 0] 44 (0, 0)) :: H, R, φ1486⟩ (fun W h => (ok_front (t := 100400) (t' := 1000) h rfl)) Try.call94 rfl rfl (c_ref11_reader_number g1497 (⟨s1496, false⟩ : Gref11_reader) _ hx1954) (fun _ _ => ?_)
       refine g_sta _ (fun W h => (ok_front (t := 1000) (t' := 100400) h rfl)) ?_
       refine g_v rfl (r_field (n := 0) Try.underlying44 rfl Try.sizeOf3 rfl rfl) ?_
       refine g_storeL (tag := 100040) rfl rfl rfl rfl Try.sizeOf3 rfl rfl ?_
       refine g_nil ?_
       refine d_then ?_
       refine c_seq ?_
       refine c_region ?_
       refine g_v rfl r_move ?_
       replace hm := bnd hm
       obtain ⟨⟨x1956, x1957⟩, hx1958, hm⟩ := hm
       refine g_cn ⟨w0, M, (1000, g1497, .cells #[.string x1953.fs, .bool x1953.fbad] 137 (0, 0)) :: (100040, g2, .cells #[.int .i64 x1952, .int .i64 i1221, .slice A1223 l1222.length c1224, .string s1226, .int .i64 i1227, .int .i64 i1228, .slice A1230 l1229.length c1231] 44 (0, 0)) :: (100020, g1, .cells #[.int .i64 0, .int .i64 0, .slice none 0 0, .string (⟨#[]⟩ : ByteArray), .int .i64 0, .int .i64 0, .slice none 0 0] 44 (0, 0)) :: H, R, φ1486⟩ (fun W h => (ok_front (t := 100400) (t' := 1000) h rfl)) Try.call94 rfl rfl (c_ref11_reader_number g1497 x1953 _ hx1958) (fun _ _ => ?_)
       refine g_sta _ (fun W h => (ok_front (t := 1000) (t' := 100400) h rfl)) ?_
       refine g_v rfl (r_field (n := 1) Try.underlying44 rfl Try.sizeOf3 rfl rfl) ?_
       refine g_storeL (tag := 100040) rfl rfl rfl rfl Try.sizeOf3 rfl rfl ?_
       refine g_nil ?_
       refine d_then ?_
       refine c_flat [(0, .slice Ap0_0 p0.length cp0_0), (2, .pointer (some ⟨g1, 0, none⟩)), (4, .pointer (some ⟨g2, 0, none⟩)), (5, .int .i64 i1219), (7, .pointer (some ⟨g1497, 0, none⟩))] ⟨rfl, rfl, rfl, rfl, rfl, trivial⟩ (fun u => ?_)
       refine c_sta ⟨w0, M, (100400, g1497, .cells #[.string x1957.fs, .bool x1957.fbad] 137 (0, 0)) :: (100040, g2, .cells #[.int .i64 x1952, .int .i64 x1956, .slice A1223 l1222.length c1224, .string s1226, .int .i64 i1227, .int .i64 i1228, .slice A1230 l1229.length c1231] 44 (0, 0)) :: (100020, g1, .cells #[.int .i64 0, .int .i64 0, .slice none 0 0, .string (⟨#[]⟩ : ByteArray), .int .i64 0, .int .i64 0, .slice none 0 0] 44 (0, 0)) :: H, R, φ1486⟩ (fun _ h => h) ?_
       refine c_region ?_
       refine g_v rfl r_move ?_
       refine g_v rfl r_move ?_
       refine g_v rfl (r_nilck rfl) ?_
       refine g_v rfl (r_field (n := 1) Try.underlying137 rfl Try.sizeOf4 rfl rfl) ?_
       refine g_v rfl (r_load (tag := 100400) rfl rfl rfl Try.isAgg4) ?_
       refine g_v rfl r_move ?_
       refine g_if rfl rfl rfl rfl rfl (fun h1960 => ?_) (fun h1960 => ?_)
       ·
        replace hm := ite_f hm (bool_nt h1960)
        refine g_v rfl r_move ?_
        refine g_do rfl rfl rfl rfl rfl h1960 ?_
        refine g_v rfl (r_nilck rfl) ?_
        refine g_do rfl rfl rfl rfl rfl h1960 ?_
        refine g_v rfl (r_field (n := 0) Try.underlying137 rfl Try.sizeOf9 rfl rfl) ?_
        refine g_do rfl rfl rfl rfl rfl h1960 ?_
        refine g_v rfl (r_load (tag := 100400) rfl rfl rfl Try.isAgg9) ?_
        refine g_do rfl rfl rfl rfl rfl h1960 ?_
        refine g_v rfl (r_neqT rfl rfl) ?_
        refine g_v rfl (r_pick0 rfl h1960) ?_
        refine g_v rfl (r_nilck rfl) ?_
        refine g_v rfl (r_field (n := 1) Try.underlying137 rfl Try.sizeOf4 rfl rfl) ?_
        refine g_storeL (tag := 100400) rfl rfl rfl rfl Try.sizeOf4 rfl rfl ?_
        refine g_nil ?_
        refine d_normal_block ?_
        exact d_round (x1957.fs, !(decide (x1957.fs = (⟨#[]⟩ : ByteArray))), x1952, x1956, l1222, s1226, i1227, i1228, l1229, A1223, c1224, A1230, c1231) ⟨hm, hc1224, hc1231⟩ Nat.zero_lt_one ⟨rfl, rfl, rfl, rfl, rfl, trivial⟩ (fun W h => h.phi (fun W hφ => ⟨hφ, (fun W h => f1225 W h) W hφ, (fun W h => f1232 W h) W hφ⟩))
       ·
        replace hm := ite_t hm h1960
        refine g_no rfl rfl rfl rfl rfl h1960 ?_
        refine g_no rfl rfl rfl rfl rfl h1960 ?_
        refine g_no rfl rfl rfl rfl rfl h1960 ?_
        refine g_no rfl rfl rfl rfl rfl h1960 ?_
        refine g_v rfl (r_pick1 rfl h1960) ?_
        refine g_v rfl (r_nilck rfl) ?_
        refine g_v rfl (r_field (n := 1) Try.underlying137 rfl Try.sizeOf4 rfl rfl) ?_
        refine g_storeL (tag := 100400) rfl rfl rfl rfl Try.sizeOf4 rfl rfl ?_
        refine g_nil ?_
        refine d_normal_block ?_
        exact d_round (x1957.fs, true, x1952, x1956, l1222, s1226, i1227, i1228, l1229, A1223, c1224, A1230, c1231) ⟨hm, hc1224, hc1231⟩ Nat.zero_lt_one ⟨rfl, rfl, rfl, rfl, rfl, trivial⟩ (fun W h => h.phi (fun W hφ => ⟨hφ, (fun W h => f1225 W h) W hφ, (fun W h => f1232 W h) W hφ⟩))
      ·
       replace hm := ite_f hm (of_decide_eq_false h1951)
       refine c_seq ?_
       refine c_region ?_
       refine g_v rfl (r_eql rfl rfl) ?_
       refine g_v rfl r_assign ?_
       refine g_nil ?_
       refine d_then ?_
       refine c_cond rfl (fun h1961 => ?_) (fun h1961 => ?_)
       ·
        replace hm := ite_t hm (of_decide_eq_true h1961)
        refine c_seq ?_
        refine c_region ?_
        refine g_v rfl r_move ?_
        replace hm := bnd hm
        obtain ⟨⟨x1962, x1963⟩, hx1964, hm⟩ := hm
        refine g_cn ⟨w0, M, (1000, g1497, .cells #[.string s1496, .bool false] 137 (0, 0)) :: (100040, g2, .cells #[.int .i64 i1220, .int .i64 i1221, .slice A1223 l1222.length c1224, .string s1226, .int .i64 i1227, .int .i64 i1228, .slice A1230 l1229.length c1231] 44 (0, 0)) :: (100020, g1, .cells #[.int .i64 0, .int .i64 0, .slice none 0 0, .string (⟨#[]⟩ : ByteArray), .int .i64 0, .int .i64 0, .slice none 0 0] 44 (0, 0)) :: H, R, φ1486⟩ (fun W h => (ok_front (t := 100400) (t' := 1000) h rfl)) Try.call94 rfl rfl (c_ref11_reader_number g1497 (⟨s1496, false⟩ : Gref11_reader) _ hx1964) (fun _ _ => ?_)
        refine g_sta _ (fun W h => (ok_front (t := 1000) (t' := 100400) h rfl)) ?_
        refine g_v rfl r_assign ?_
        refine g_nil ?_
        refine d_then ?_
        refine c_seq ?_
        refine c_region ?_
        refine g_v rfl r_move ?_
        replace hm := bnd hm
        obtain ⟨⟨x1966, x1967⟩, hx1968, hm⟩ := hm
        refine g_cn ⟨w0, M, (1000, g1497, .cells #[.string x1963.fs, .bool x1963.fbad] 137 (0, 0)) :: (100040, g2, .cells #[.int .i64 i1220, .int .i64 i1221, .slice A1223 l1222.length c1224, .string s1226, .int .i64 i1227, .int .i64 i1228, .slice A1230 l1229.length c1231] 44 (0, 0)) :: (100020, g1, .cells #[.int .i64 0, .int .i64 0, .slice none 0 0, .string (⟨#[]⟩ : ByteArray), .int .i64 0, .int .i64 0, .slice none 0 0] 44 (0, 0)) :: H, R, φ1486⟩ (fun W h => (ok_front (t := 100400) (t' := 1000) h rfl)) Try.call94 rfl rfl (c_ref11_reader_number g1497 x1963 _ hx1968) (fun _ _ => ?_)
        refine g_sta _ (fun W h => (ok_front (t := 1000) (t' := 100400) h rfl)) ?_
        refine g_v rfl (r_build _ rfl (bld35_4 _)) ?_
        refine g_e rfl (e_alloc 100130 Try.zeroValue35) (fun g1970 _ => ?_)
        refine g_storeL (tag := 100130) rfl rfl rfl rfl Try.sizeOf35 rfl rfl ?_
        refine g_nil ?_
        refine d_then ?_
        refine c_flat [(0, .slice Ap0_0 p0.length cp0_0), (2, .pointer (some ⟨g1, 0, none⟩)), (4, .pointer (some ⟨g2, 0, none⟩)), (5, .int .i64 i1219), (7, .pointer (some ⟨g1497, 0, none⟩)), (12, .int .i64 x1962), (13, .pointer (some ⟨g1970, 0, none⟩))] ⟨rfl, rfl, rfl, rfl, rfl, rfl, rfl, trivial⟩ (fun u => ?_)
        refine c_sta ⟨w0, M, (100130, g1970, .cells #[.int .i64 x1966, .int .i64 0, .string (⟨#[]⟩ : ByteArray)] 35 (0, 0)) :: (100400, g1497, .cells #[.string x1967.fs, .bool x1967.fbad] 137 (0, 0)) :: (100040, g2, .cells #[.int .i64 i1220, .int .i64 i1221, .slice A1223 l1222.length c1224, .string s1226, .int .i64 i1227, .int .i64 i1228, .slice A1230 l1229.length c1231] 44 (0, 0)) :: (100020, g1, .cells #[.int .i64 0, .int .i64 0, .slice none 0 0, .string (⟨#[]⟩ : ByteArray), .int .i64 0, .int .i64 0, .slice none 0 0] 44 (0, 0)) :: H, R, φ1486⟩ (fun _ h => h) ?_
        refine c_seq ?_
        refine c_region ?_
        refine g_v rfl r_move ?_
        replace hm := bnd hm
        obtain ⟨⟨x1971, x1972⟩, hx1973, hm⟩ := hm
        refine g_cn ⟨w0, M, (1000, g1497, .cells #[.string x1967.fs, .bool x1967.fbad] 137 (0, 0)) :: (100130, g1970, .cells #[.int .i64 x1966, .int .i64 0, .string (⟨#[]⟩ : ByteArray)] 35 (0, 0)) :: (100040, g2, .cells #[.int .i64 i1220, .int .i64 i1221, .slice A1223 l1222.length c1224, .string s1226, .int .i64 i1227, .int .i64 i1228, .slice A1230 l1229.length c1231] 44 (0, 0)) :: (100020, g1, .cells #[.int .i64 0, .int .i64 0, .slice none 0 0, .string (⟨#[]⟩ : ByteArray), .int .i64 0, .int .i64 0, .slice none 0 0] 44 (0, 0)) :: H, R, φ1486⟩ (fun W h => (ok_front (t := 100400) (t' := 1000) h rfl)) Try.call95 rfl rfl (c_ref11_reader_take 1 g1497 x1967 _ hx1973) (fun _ _ => ?_)
        refine g_sta _ (fun W h => (ok_front (t := 1000) (t' := 100400) h rfl)) ?_
        refine g_v rfl r_assign ?_
        refine g_nil ?_
        refine d_then ?_
        refine c_seq ?_
        refine c_cut (ι := Int) [0, 2, 4, 5, 7, 12, 13] (fun i1977 => []) (fun i1977 => ⟨w0, M, (100400, g1497, .cells #[.string x1972.fs, .bool x1972.fbad] 137 (0, 0)) :: (100130, g1970, .cells #[.int .i64 x1966, .int .i64 i1977, .string (⟨#[]⟩ : ByteArray)] 35 (0, 0)) :: (100040, g2, .cells #[.int .i64 i1220, .int .i64 i1221, .slice A1223 l1222.length c1224, .string s1226, .int .i64 i1227, .int .i64 i1228, .slice A1230 l1229.length c1231] 44 (0, 0)) :: (100020, g1, .cells #[.int .i64 0, .int .i64 0, .slice none 0 0, .string (⟨#[]⟩ : ByteArray), .int .i64 0, .int .i64 0, .slice none 0 0] 44 (0, 0)) :: H, R, φ1486⟩) (fun i1977 => m_ref11_Load_j7 x1972 x1962 i1227 i1228 l1229 x1966 i1219 i1220 i1221 l1222 s1226 i1977 = some o2) ?_ (fun i1977 u hm => ?_)
        ·
         refine c_seq ?_
         refine c_region ?_
         refine g_v rfl r_move ?_
         refine g_v rfl (r_nilck rfl) ?_
         refine g_v rfl (r_field (n := 1) Try.underlying137 rfl Try.sizeOf4 rfl rfl) ?_
         refine g_v rfl (r_load (tag := 100400) rfl rfl rfl Try.isAgg4) ?_
         refine g_v rfl (r_not rfl) ?_
         refine g_nil ?_
         refine d_then ?_
         refine c_cond rfl (fun h2010 => ?_) (fun h2010 => ?_)
         ·
          have h2010' : x1972.fbad = false := by revert h2010; cases x1972.fbad <;> simp
          replace hm := ite_f hm (bool_nt h2010')
          refine c_region ?_
          refine g_v rfl r_move ?_
          replace hm := bnd hm
          obtain ⟨b2011, hb2011, hm⟩ := hm
          refine g_v rfl (r_sat Try.underlying9 rfl rfl hb2011) ?_
          refine g_v rfl (r_conv Try.underlying5 Try.underlying3 rfl rfl) ?_
          refine g_v rfl (r_field (n := 1) Try.underlying35 rfl Try.sizeOf3 rfl rfl) ?_
          refine g_storeL (tag := 100130) rfl rfl rfl rfl Try.sizeOf3 rfl rfl ?_
          refine g_nil ?_
          exact d_round (w64 b2011) hm Nat.zero_lt_one ⟨rfl, rfl, rfl, rfl, rfl, rfl, rfl, trivial⟩ (fun W h => h.phi (fun W hφ => hφ))
         ·
          have h2010' : x1972.fbad = true := by revert h2010; cases x1972.fbad <;> simp
          replace hm := ite_t hm h2010'
          refine c_skip ?_
          exact d_round 0 hm Nat.zero_lt_one ⟨rfl, rfl, rfl, rfl, rfl, rfl, rfl, trivial⟩ (fun W h => h.phi (fun W hφ => hφ))
        ·
         unfold m_ref11_Load_j7 at hm
         refine d_flat [(0, .slice Ap0_0 p0.length cp0_0), (2, .pointer (some ⟨g1, 0, none⟩)), (4, .pointer (some ⟨g2, 0, none⟩)), (5, .int .i64 i1219), (7, .pointer (some ⟨g1497, 0, none⟩)), (12, .int .i64 x1962), (13, .pointer (some ⟨g1970, 0, none⟩))] ⟨rfl, rfl, rfl, rfl, rfl, rfl, rfl, trivial⟩ (fun u => ?_)
         refine d_sta ⟨w0, M, (100400, g1497, .cells #[.string x1972.fs, .bool x1972.fbad] 137 (0, 0)) :: (100130, g1970, .cells #[.int .i64 x1966, .int .i64 i1977, .string (⟨#[]⟩ : ByteArray)] 35 (0, 0)) :: (100040, g2, .cells #[.int .i64 i1220, .int .i64 i1221, .slice A1223 l1222.length c1224, .string s1226, .int .i64 i1227, .int .i64 i1228, .slice A1230 l1229.length c1231] 44 (0, 0)) :: (100020, g1, .cells #[.int .i64 0, .int .i64 0, .slice none 0 0, .string (⟨#[]⟩ : ByteArray), .int .i64 0, .int .i64 0, .slice none 0 0] 44 (0, 0)) :: H, R, φ1486⟩ (fun _ h => h) ?_
         refine d_then ?_
         refine c_seq ?_
         refine c_region ?_
         refine g_v rfl r_move ?_
         refine g_v rfl (r_nilck rfl) ?_
         refine g_v rfl (r_field (n := 0) Try.underlying137 rfl Try.sizeOf9 rfl rfl) ?_
         refine g_v rfl (r_load (tag := 100400) rfl rfl rfl Try.isAgg9) ?_
         refine g_v rfl (r_field (n := 2) Try.underlying35 rfl Try.sizeOf9 rfl rfl) ?_
         refine g_storeL (tag := 100130) rfl rfl rfl rfl Try.sizeOf9 rfl rfl ?_
         refine g_nil ?_
         refine d_then ?_
         refine c_seq ?_
         refine c_seq ?_
         refine c_region ?_
         refine g_v rfl r_move ?_
         refine g_v rfl (r_nilck rfl) ?_
         refine g_v rfl (r_field (n := 1) Try.underlying137 rfl Try.sizeOf4 rfl rfl) ?_
         refine g_v rfl (r_load (tag := 100400) rfl rfl rfl Try.isAgg4) ?_
         refine g_v rfl r_move ?_
         refine g_if rfl rfl rfl rfl rfl (fun h1978 => ?_) (fun h1978 => ?_)
         ·
          replace hm := ite_f hm (bool_nt h1978)
          refine g_v rfl r_move ?_
          refine g_do rfl rfl rfl rfl rfl h1978 ?_
          refine g_v rfl (r_field (n := 4) Try.underlying44 rfl Try.sizeOf26 rfl rfl) ?_
          refine g_do rfl rfl rfl rfl rfl h1978 ?_
          refine g_v rfl (r_field (n := 4) Try.underlying26 rfl Try.sizeOf3 rfl rfl) ?_
          refine g_do rfl rfl rfl rfl rfl h1978 ?_
          refine g_v rfl (r_load (tag := 100040) rfl rfl rfl Try.isAgg3) ?_
          refine g_do rfl rfl rfl rfl rfl h1978 ?_
          refine g_v rfl (r_leq rfl rfl) ?_
          refine g_v rfl (r_pick0 rfl h1978) ?_
          refine g_v rfl r_move ?_
          refine g_if rfl rfl rfl rfl rfl (fun h1979 => ?_) (fun h1979 => ?_)
          ·
           replace hm := ite_f hm (of_decide_eq_false h1979)
           refine g_v rfl r_move ?_
           refine g_do rfl rfl rfl rfl rfl h1979 ?_
           refine g_v rfl (r_field (n := 4) Try.underlying44 rfl Try.sizeOf26 rfl rfl) ?_
           refine g_do rfl rfl rfl rfl rfl h1979 ?_
           refine g_v rfl (r_loadA (tag := 100040) rfl rfl Try.isAgg26 Try.sizeOf26 rfl rfl) ?_
           refine g_do rfl rfl rfl rfl rfl h1979 ?_
           replace hm := bnd hm
           obtain ⟨x1980, hx1981, hm⟩ := hm
           refine g_cn ⟨w0, M, _, _, φ1486⟩ (fun _ h => h) Try.call39 rfl rfl (c_ref11_Last (⟨i1227, i1228, l1229⟩ : GLog) A1230 c1231 hc1231 (fun W hS => f1232 W hS.now) _ hx1981) (fun _ _ => ?_)
           refine g_do rfl rfl rfl rfl rfl h1979 ?_
           refine g_v rfl (r_add rfl rfl rfl) ?_
           refine g_do rfl rfl rfl rfl rfl h1979 ?_
           refine g_v rfl (r_gtr rfl rfl) ?_
           refine g_v rfl (r_pick0 rfl h1979) ?_
           refine g_nil ?_
           refine d_then ?_
           refine c_flat [(0, .slice Ap0_0 p0.length cp0_0), (2, .pointer (some ⟨g1, 0, none⟩)), (4, .pointer (some ⟨g2, 0, none⟩)), (5, .int .i64 i1219), (7, .pointer (some ⟨g1497, 0, none⟩)), (12, .int .i64 x1962), (13, .pointer (some ⟨g1970, 0, none⟩)), (183, .bool (decide (w64 (x1980 + 1) < x1962)))] ⟨rfl, rfl, rfl, rfl, rfl, rfl, rfl, rfl, trivial⟩ (fun u => ?_)
           refine c_sta ⟨w0, M, (100400, g1497, .cells #[.string x1972.fs, .bool x1972.fbad] 137 (0, 0)) :: (100130, g1970, .cells #[.int .i64 x1966, .int .i64 i1977, .string x1972.fs] 35 (0, 0)) :: (100040, g2, .cells #[.int .i64 i1220, .int .i64 i1221, .slice A1223 l1222.length c1224, .string s1226, .int .i64 i1227, .int .i64 i1228, .slice A1230 l1229.length c1231] 44 (0, 0)) :: (100020, g1, .cells #[.int .i64 0, .int .i64 0, .slice none 0 0, .string (⟨#[]⟩ : ByteArray), .int .i64 0, .int .i64 0, .slice none 0 0] 44 (0, 0)) :: H, R, φ1486⟩ (fun _ h => h) ?_
           refine c_cond rfl (fun h1982 => ?_) (fun h1982 => ?_)
           ·
            replace hm := ite_t hm (of_decide_eq_true h1982)
            refine c_seq ?_
            refine c_region ?_
            refine g_v rfl (r_build _ rfl (bld44_7)) ?_
            refine g_storeL (tag := 100020) rfl rfl rfl rfl Try.sizeOf44 rfl rfl ?_
            refine g_v rfl r_assign ?_
            refine g_nil ?_
            refine d_then ?_
            refine c_ret ?_
            refine d_ret_then ?_
            refine d_ret_block ?_
            refine d_ret_then ?_
            refine d_ret_then ?_
            refine d_ret_block ?_
            refine d_ret_then ?_
            refine d_ret_then ?_
            refine d_ret_block ?_
            refine d_ret_then ?_
            refine d_ret_then ?_
            replace hm := nx_out (C := (fun e => Sum.elim (fun e => m_ref11_Load_j1 e.1 e.2.1 e.2.2.1 e.2.2.2.1 e.2.2.2.2.1 e.2.2.2.2.2.1 e.2.2.2.2.2.2) (fun x => some x) e = some r)) hm hnx2 hr2
            replace hm : some ((⟨0, 0, ([] : List Int), (⟨#[]⟩ : ByteArray), (⟨0, 0, ([] : List GEntry)⟩ : GLog)⟩ : GHard), 10) = some r := hm
            replace hm := Option.some.inj hm
            subst hm
            refine d_retC (none, 0, none, 0) Try.results68 ?_ ⟨(Nat.le_refl 0), (Nat.le_refl 0)⟩ (fun W h => ok_pre (H1 := [_, _, _, _]) (R1 := []) h (fun W hφ => ⟨(q1486 _ hφ), (fun W _ => Cl.nil _ _) W hφ, (fun W _ => Cl.nil _ _) W hφ⟩)) (.inr rfl)
            refine res_agg (tag := 100020) rfl rfl Try.isAgg44 Try.sizeOf44 ?_
            refine res_tmp ?_
            refine res_nil ?_
            exact rfl
           ·
            replace hm := ite_f hm (of_decide_eq_false h1982)
            refine c_skip ?_
            refine d_then ?_
            refine ga_start (n := 22) ⟨w0, M, (100400, g1497, .cells #[.string x1972.fs, .bool x1972.fbad] 137 (0, 0)) :: (100130, g1970, .cells #[.int .i64 x1966, .int .i64 i1977, .string x1972.fs] 35 (0, 0)) :: (100040, g2, .cells #[.int .i64 i1220, .int .i64 i1221, .slice A1223 l1222.length c1224, .string s1226, .int .i64 i1227, .int .i64 i1228, .slice A1230 l1229.length c1231] 44 (0, 0)) :: (100020, g1, .cells #[.int .i64 0, .int .i64 0, .slice none 0 0, .string (⟨#[]⟩ : ByteArray), .int .i64 0, .int .i64 0, .slice none 0 0] 44 (0, 0)) :: H, R, φ1486⟩ [21] #[false, false, false, false, false, false, false, false, false, false, false, false, false, false, false, false, false, false, false, false, false, false] (fun W h => h.phi (fun W hφ => hφ)) mixed rfl rfl ?_
            refine ga_v (i := 0) #[true, false, false, false, false, false, false, false, false, false, false, false, false, false, false, false, false, false, false, false, false, false] rfl (by kernel_rfl) (fun _ _ _ _ h => h) rfl (r_field (n := 4) Try.underlying44 rfl Try.sizeOf26 rfl rfl) ?_
            refine ga_v (i := 1) #[true, true, false, false, false, false, false, false, false, false, false, false, false, false, false, false, false, false, false, false, false, false] rfl (by kernel_rfl) (fun _ _ _ _ h => h) rfl (r_field (n := 4) Try.underlying26 rfl Try.sizeOf3 rfl rfl) ?_
            refine ga_v (i := 2) #[true, true, true, false, false, false, false, false, false, false, false, false, false, false, false, false, false, false, false, false, false, false] rfl (by kernel_rfl) (fun _ _ _ _ h => h) rfl (r_load (tag := 100040) rfl rfl rfl Try.isAgg3) ?_
            refine ga_v (i := 3) #[true, true, true, true, false, false, false, false, false, false, false, false, false, false, false, false, false, false, false, false, false, false] rfl (by kernel_rfl) (fun _ _ _ _ h => h) rfl (r_field (n := 4) Try.underlying44 rfl Try.sizeOf26 rfl rfl) ?_
            refine ga_v (i := 4) #[true, true, true, true, true, false, false, false, false, false, false, false, false, false, false, false, false, false, false, false, false, false] rfl (by kernel_rfl) (fun _ _ _ _ h => h) rfl (r_field (n := 5) Try.underlying26 rfl Try.sizeOf3 rfl rfl) ?_
            refine ga_v (i := 5) #[true, true, true, true, true, true, false, false, false, false, false, false, false, false, false, false, false, false, false, false, false, false] rfl (by kernel_rfl) (fun _ _ _ _ h => h) rfl (r_load (tag := 100040) rfl rfl rfl Try.isAgg3) ?_
            refine ga_v (i := 6) #[true, true, true, true, true, true, true, false, false, false, false, false, false, false, false, false, false, false, false, false, false, false] rfl (by kernel_rfl) (fun _ _ _ _ h => h) rfl (r_field (n := 4) Try.underlying44 rfl Try.sizeOf26 rfl rfl) ?_
            refine ga_v (i := 7) #[true, true, true, true, true, true, true, true, false, false, false, false, false, false, false, false, false, false, false, false, false, false] rfl (by kernel_rfl) (fun _ _ _ _ h => h) rfl (r_field (n := 6) Try.underlying26 rfl Try.sizeOf24 rfl rfl) ?_
            refine ga_v (i := 8) #[true, true, true, true, true, true, true, true, true, false, false, false, false, false, false, false, false, false, false, false, false, false] rfl (by kernel_rfl) (fun _ _ _ _ h => h) rfl (r_load (tag := 100040) rfl rfl rfl Try.isAgg24) ?_
            refine ga_v (i := 9) #[true, true, true, true, true, true, true, true, true, true, false, false, false, false, false, false, false, false, false, false, false, false] rfl (by kernel_rfl) (fun _ _ _ _ h => h) rfl (r_move) ?_
            refine ga_v (i := 10) #[true, true, true, true, true, true, true, true, true, true, true, false, false, false, false, false, false, false, false, false, false, false] rfl (by kernel_rfl) (fun _ _ _ _ h => h) rfl (r_field (n := 4) Try.underlying44 rfl Try.sizeOf26 rfl rfl) ?_
            refine ga_v (i := 11) #[true, true, true, true, true, true, true, true, true, true, true, true, false, false, false, false, false, false, false, false, false, false] rfl (by kernel_rfl) (fun _ _ _ _ h => h) rfl (r_field (n := 4) Try.underlying26 rfl Try.sizeOf3 rfl rfl) ?_
            refine ga_v (i := 12) #[true, true, true, true, true, true, true, true, true, true, true, true, true, false, false, false, false, false, false, false, false, false] rfl (by kernel_rfl) (fun _ _ _ _ h => h) rfl (r_load (tag := 100040) rfl rfl rfl Try.isAgg3) ?_
            refine ga_v (i := 13) #[true, true, true, true, true, true, true, true, true, true, true, true, true, true, false, false, false, false, false, false, false, false] rfl (by kernel_rfl) (fun _ _ _ _ h => h) rfl (r_sub rfl rfl rfl) ?_
            refine ga_v (i := 14) #[true, true, true, true, true, true, true, true, true, true, true, true, true, true, true, false, false, false, false, false, false, false] rfl (by kernel_rfl) (fun _ _ _ _ h => h) rfl (r_sub rfl rfl rfl) ?_
            replace hm := bnd hm
            obtain ⟨l2002, hl2002, hm⟩ := hm
            have f2001 := fun (W : World) (h : φ1486 W) => cl_cutHi (enc := GEntry.enc) (sz := 3) (fun _ => rfl) hl2002 (f1232 W h)
            refine ga_v (i := 15) #[true, true, true, true, true, true, true, true, true, true, true, true, true, true, true, true, false, false, false, false, false, false] rfl (by kernel_rfl) (fun _ _ _ _ h => h) rfl (r_lcutHi Try.underlying24 Try.sizeOf35 rfl hc1231 rfl hl2002) ?_
            refine ga_v (i := 16) #[true, true, true, true, true, true, true, true, true, true, true, true, true, true, true, true, true, false, false, false, false, false] rfl (by kernel_rfl) (fun _ _ _ _ h => h) rfl (r_build _ rfl (bld26_9 _ _ _ _ _)) ?_
            refine ga_r (i := 17) #[true, true, true, true, true, true, true, true, true, true, true, true, true, true, true, true, true, true, false, false, false, false] rfl (by kernel_rfl) (by decide) rfl (r_loadA (tag := 100130) rfl rfl Try.isAgg35 Try.sizeOf35 rfl rfl) ?_
            refine ga_e (i := 18) #[true, true, true, true, true, true, true, true, true, true, true, true, true, true, true, true, true, true, true, false, false, false] rfl (by kernel_rfl) (by decide) rfl  (e_lit (tag := 102030) (l := [(⟨x1966, i1977, x1972.fs⟩ : GEntry)]) (enc := GEntry.enc) (sz := 3) rfl Try.underlying24 (lit35_5 _ _ _) rfl rfl (fun _ => rfl)) (fun g2003 W _ h => ((h.shut (t := 102030) rfl).phi (fun _ hh => hh.1)).phi (fun W hφ => hφ)) (fun g2003 _ => ?_)
            replace hm := bnd hm
            obtain ⟨x2004, hx2005, hm⟩ := hm
            refine ga_cn (first := #[]) (i := 19) #[true, true, true, true, true, true, true, true, true, true, true, true, true, true, true, true, true, true, true, true, false, false] rfl (by kernel_rfl) (by decide)  ⟨w0, M, _, _, φ1486⟩ (fun _ h => h) Try.call97 rfl rfl rfl (c_ref11_Add (⟨i1227, i1228, l2002⟩ : GLog) A1230 c1231 (cutHi_len hc1231 hl2002) (fun W hS => f2001 W hS.now) [(⟨x1966, i1977, x1972.fs⟩ : GEntry)] (some ⟨g2003, 0, none⟩) 1 (Nat.le_refl _) (fun W hS => rowCl (tag := 102030) rfl W hS) _ hx2005) (fun ⟨A2006, c2007⟩ W hc2007 h => (((h.phi (fun _ hh => hh.1)).shut (t := 102030) rfl).phi (fun _ hh => hh.1)).phi (fun W hφ => hφ)) (fun ⟨A2006, c2007⟩ hc2007 => ?_)
            refine ga_abs (fun φ2009 q2009' => ?_)
            have q2009 : ∀ W, φ2009 W → φ1486 W := fun W h => (q2009' W h).1
            have f2008 := fun (W : World) (h : φ2009 W) => (q2009' W h).2
            refine ga_r (i := 20) #[true, true, true, true, true, true, true, true, true, true, true, true, true, true, true, true, true, true, true, true, true, false] rfl (by kernel_rfl) (by decide) rfl (r_field (n := 4) Try.underlying44 rfl Try.sizeOf26 rfl rfl) ?_
            refine ga_lastL (i := 21) (tag := 100040) #[true, true, true, true, true, true, true, true, true, true, true, true, true, true, true, true, true, true, true, true, true, true] rfl (by kernel_rfl) (by decide) rfl rfl rfl rfl Try.sizeOf26 rfl rfl ?_
            refine gz_done (by kernel_rfl) ?_
            refine d_normal_block ?_
            exact d_round (x1972.fs, x1972.fbad, i1220, i1221, l1222, s1226, x2004.fBase, x2004.fBaseTerm, x2004.fEntries, A1223, c1224, A2006, c2007) ⟨hm, hc1224, hc2007⟩ Nat.zero_lt_one ⟨rfl, rfl, rfl, rfl, rfl, trivial⟩ (fun W h => (((h.shut (t := 102030) rfl).phi (fun _ hh => hh.1)).dropH (t := 100130) rfl).phi (fun W hφ => ⟨(q2009 _ hφ), (fun W h => f1225 W (q2009 _ h)) W hφ, (fun W h => f2008 W h) W hφ⟩))
          ·
           replace hm := ite_t hm (of_decide_eq_true h1979)
           refine g_no rfl rfl rfl rfl rfl h1979 ?_
           refine g_no rfl rfl rfl rfl rfl h1979 ?_
           refine g_no rfl rfl rfl rfl rfl h1979 ?_
           refine g_no rfl rfl rfl rfl rfl h1979 ?_
           refine g_no rfl rfl rfl rfl rfl h1979 ?_
           refine g_v rfl (r_pick1 rfl h1979) ?_
           refine g_nil ?_
           refine d_then ?_
           refine c_flat [(0, .slice Ap0_0 p0.length cp0_0), (2, .pointer (some ⟨g1, 0, none⟩)), (4, .pointer (some ⟨g2, 0, none⟩)), (5, .int .i64 i1219), (7, .pointer (some ⟨g1497, 0, none⟩)), (12, .int .i64 x1962), (13, .pointer (some ⟨g1970, 0, none⟩)), (183, .bool true)] ⟨rfl, rfl, rfl, rfl, rfl, rfl, rfl, rfl, trivial⟩ (fun u => ?_)
           refine c_sta ⟨w0, M, (100400, g1497, .cells #[.string x1972.fs, .bool x1972.fbad] 137 (0, 0)) :: (100130, g1970, .cells #[.int .i64 x1966, .int .i64 i1977, .string x1972.fs] 35 (0, 0)) :: (100040, g2, .cells #[.int .i64 i1220, .int .i64 i1221, .slice A1223 l1222.length c1224, .string s1226, .int .i64 i1227, .int .i64 i1228, .slice A1230 l1229.length c1231] 44 (0, 0)) :: (100020, g1, .cells #[.int .i64 0, .int .i64 0, .slice none 0 0, .string (⟨#[]⟩ : ByteArray), .int .i64 0, .int .i64 0, .slice none 0 0] 44 (0, 0)) :: H, R, φ1486⟩ (fun _ h => h) ?_
           refine c_cond1 rfl rfl ?_
           refine c_seq ?_
           refine c_region ?_
           refine g_v rfl (r_build _ rfl (bld44_7)) ?_
           refine g_storeL (tag := 100020) rfl rfl rfl rfl Try.sizeOf44 rfl rfl ?_
           refine g_v rfl r_assign ?_
           refine g_nil ?_
           refine d_then ?_
           refine c_ret ?_
           refine d_ret_then ?_
           refine d_ret_block ?_
           refine d_ret_then ?_
           refine d_ret_then ?_
           refine d_ret_block ?_
           refine d_ret_then ?_
           refine d_ret_then ?_
           refine d_ret_block ?_
           refine d_ret_then ?_
           refine d_ret_then ?_
           replace hm := nx_out (C := (fun e => Sum.elim (fun e => m_ref11_Load_j1 e.1 e.2.1 e.2.2.1 e.2.2.2.1 e.2.2.2.2.1 e.2.2.2.2.2.1 e.2.2.2.2.2.2) (fun x => some x) e = some r)) hm hnx2 hr2
           replace hm : some ((⟨0, 0, ([] : List Int), (⟨#[]⟩ : ByteArray), (⟨0, 0, ([] : List GEntry)⟩ : GLog)⟩ : GHard), 10) = some r := hm
           replace hm := Option.some.inj hm
           subst hm
           refine d_retC (none, 0, none, 0) Try.results68 ?_ ⟨(Nat.le_refl 0), (Nat.le_refl 0)⟩ (fun W h => ok_pre (H1 := [_, _, _, _]) (R1 := []) h (fun W hφ => ⟨(q1486 _ hφ), (fun W _ => Cl.nil _ _) W hφ, (fun W _ => Cl.nil _ _) W hφ⟩)) (.inr rfl)
           refine res_agg (tag := 100020) rfl rfl Try.isAgg44 Try.sizeOf44 ?_
           refine res_tmp ?_
           refine res_nil ?_
           exact rfl
         ·
          replace hm := ite_t hm h1978
          refine g_no rfl rfl rfl rfl rfl h1978 ?_
          refine g_no rfl rfl rfl rfl rfl h1978 ?_
          refine g_no rfl rfl rfl rfl rfl h1978 ?_
          refine g_no rfl rfl rfl rfl rfl h1978 ?_
          refine g_v rfl (r_pick1 rfl h1978) ?_
          refine g_v rfl r_move ?_
          refine g_no rfl rfl rfl rfl rfl rfl ?_
          refine g_no rfl rfl rfl rfl rfl rfl ?_
          refine g_no rfl rfl rfl rfl rfl rfl ?_
          refine g_no rfl rfl rfl rfl rfl rfl ?_
          refine g_no rfl rfl rfl rfl rfl rfl ?_
          refine g_no rfl rfl rfl rfl rfl rfl ?_
          refine g_v rfl (r_pick1 rfl rfl) ?_
          refine g_nil ?_
          refine d_then ?_
          refine c_flat [(0, .slice Ap0_0 p0.length cp0_0), (2, .pointer (some ⟨g1, 0, none⟩)), (4, .pointer (some ⟨g2, 0, none⟩)), (5, .int .i64 i1219), (7, .pointer (some ⟨g1497, 0, none⟩)), (12, .int .i64 x1962), (13, .pointer (some ⟨g1970, 0, none⟩)), (183, .bool true)] ⟨rfl, rfl, rfl, rfl, rfl, rfl, rfl, rfl, trivial⟩ (fun u => ?_)
          refine c_sta ⟨w0, M, (100400, g1497, .cells #[.string x1972.fs, .bool x1972.fbad] 137 (0, 0)) :: (100130, g1970, .cells #[.int .i64 x1966, .int .i64 i1977, .string x1972.fs] 35 (0, 0)) :: (100040, g2, .cells #[.int .i64 i1220, .int .i64 i1221, .slice A1223 l1222.length c1224, .string s1226, .int .i64 i1227, .int .i64 i1228, .slice A1230 l1229.length c1231] 44 (0, 0)) :: (100020, g1, .cells #[.int .i64 0, .int .i64 0, .slice none 0 0, .string (⟨#[]⟩ : ByteArray), .int .i64 0, .int .i64 0, .slice none 0 0] 44 (0, 0)) :: H, R, φ1486⟩ (fun _ h => h) ?_
          refine c_cond1 rfl rfl ?_
          refine c_seq ?_
          refine c_region ?_
          refine g_v rfl (r_build _ rfl (bld44_7)) ?_
          refine g_storeL (tag := 100020) rfl rfl rfl rfl Try.sizeOf44 rfl rfl ?_
          refine g_v rfl r_assign ?_
          refine g_nil ?_
          refine d_then ?_
          refine c_ret ?_
          refine d_ret_then ?_
          refine d_ret_block ?_
          refine d_ret_then ?_
          refine d_ret_then ?_
          refine d_ret_block ?_
          refine d_ret_then ?_
          refine d_ret_then ?_
          refine d_ret_block ?_
          refine d_ret_then ?_
          refine d_ret_then ?_
          replace hm := nx_out (C := (fun e => Sum.elim (fun e => m_ref11_Load_j1 e.1 e.2.1 e.2.2.1 e.2.2.2.1 e.2.2.2.2.1 e.2.2.2.2.2.1 e.2.2.2.2.2.2) (fun x => some x) e = some r)) hm hnx2 hr2
          replace hm : some ((⟨0, 0, ([] : List Int), (⟨#[]⟩ : ByteArray), (⟨0, 0, ([] : List GEntry)⟩ : GLog)⟩ : GHard), 10) = some r := hm
          replace hm := Option.some.inj hm
          subst hm
          refine d_retC (none, 0, none, 0) Try.results68 ?_ ⟨(Nat.le_refl 0), (Nat.le_refl 0)⟩ (fun W h => ok_pre (H1 := [_, _, _, _]) (R1 := []) h (fun W hφ => ⟨(q1486 _ hφ), (fun W _ => Cl.nil _ _) W hφ, (fun W _ => Cl.nil _ _) W hφ⟩)) (.inr rfl)
          refine res_agg (tag := 100020) rfl rfl Try.isAgg44 Try.sizeOf44 ?_
          refine res_tmp ?_
          refine res_nil ?_
          exact rfl
       ·
        replace hm := ite_f hm (of_decide_eq_false h1961)
        refine c_seq ?_
        refine c_region ?_
        refine g_v rfl (r_build _ rfl (bld44_7)) ?_
        refine g_storeL (tag := 100020) rfl rfl rfl rfl Try.sizeOf44 rfl rfl ?_
        refine g_v rfl r_assign ?_
        refine g_nil ?_
        refine d_then ?_
        refine c_ret ?_
        refine d_ret_block ?_
        refine d_ret_then ?_
        refine d_ret_then ?_
        refine d_ret_block ?_
        refine d_ret_then ?_
        refine d_ret_then ?_
        refine d_ret_block ?_
        refine d_ret_then ?_
        refine d_ret_then ?_
        replace hm := nx_out (C := (fun e => Sum.elim (fun e => m_ref11_Load_j1 e.1 e.2.1 e.2.2.1 e.2.2.2.1 e.2.2.2.2.1 e.2.2.2.2.2.1 e.2.2.2.2.2.2) (fun x => some x) e = some r)) hm hnx2 hr2
        replace hm : some ((⟨0, 0, ([] : List Int), (⟨#[]⟩ : ByteArray), (⟨0, 0, ([] : List GEntry)⟩ : GLog)⟩ : GHard), 10) = some r := hm
        replace hm := Option.some.inj hm
        subst hm
        refine d_retC (none, 0, none, 0) Try.results68 ?_ ⟨(Nat.le_refl 0), (Nat.le_refl 0)⟩ (fun W h => ok_pre (H1 := [_, _, _]) (R1 := []) h (fun W hφ => ⟨(q1486 _ hφ), (fun W _ => Cl.nil _ _) W hφ, (fun W _ => Cl.nil _ _) W hφ⟩)) (.inr rfl)
        refine res_agg (tag := 100020) rfl rfl Try.isAgg44 Try.sizeOf44 ?_
        refine res_tmp ?_
        refine res_nil ?_
        exact rfl
    ·
     unfold m_ref11_Load_j4 at hm
     refine d_abs (fun φ1723 q1723' => ?_)
     have q1723 : ∀ W, φ1723 W → φ1486 W := fun W h => (q1723' W h).1
     have f1715 := fun (W : World) (h : φ1723 W) => (q1723' W h).2.1
     have f1722 := fun (W : World) (h : φ1723 W) => (q1723' W h).2.2
     refine d_flat [(0, .slice Ap0_0 p0.length cp0_0), (2, .pointer (some ⟨g1, 0, none⟩)), (4, .pointer (some ⟨g2, 0, none⟩)), (5, .int .i64 i1219), (7, .pointer (some ⟨g1497, 0, none⟩))] ⟨rfl, rfl, rfl, rfl, rfl, trivial⟩ (fun u => ?_)
     refine d_sta ⟨w0, M, (100400, g1497, .cells #[.string s1708, .bool b1709] 137 (0, 0)) :: (100040, g2, .cells #[.int .i64 i1710, .int .i64 i1711, .slice A1713 l1712.length c1714, .string s1716, .int .i64 i1717, .int .i64 i1718, .slice A1720 l1719.length c1721] 44 (0, 0)) :: (100020, g1, .cells #[.int .i64 0, .int .i64 0, .slice none 0 0, .string (⟨#[]⟩ : ByteArray), .int .i64 0, .int .i64 0, .slice none 0 0] 44 (0, 0)) :: H, R, φ1723⟩ (fun _ h => h) ?_
     refine d_then ?_
     refine c_seq ?_
     refine c_region ?_
     refine g_v rfl r_move ?_
     refine g_v rfl (r_nilck rfl) ?_
     refine g_v rfl (r_field (n := 1) Try.underlying137 rfl Try.sizeOf4 rfl rfl) ?_
     refine g_v rfl (r_load (tag := 100400) rfl rfl rfl Try.isAgg4) ?_
     refine g_nil ?_
     refine d_then ?_
     refine c_cond rfl (fun h1724 => ?_) (fun h1724 => ?_)
     ·
      replace hm := ite_t hm h1724
      refine c_seq ?_
      refine c_region ?_
      refine g_v rfl (r_build _ rfl (bld44_7)) ?_
      refine g_storeL (tag := 100020) rfl rfl rfl rfl Try.sizeOf44 rfl rfl ?_
      refine g_v rfl r_assign ?_
      refine g_nil ?_
      refine d_then ?_
      refine c_ret ?_
      refine d_ret_block ?_
      refine d_ret_then ?_
      refine d_ret_then ?_
      refine d_ret_block ?_
      refine d_ret_then ?_
      refine d_ret_then ?_
      replace hm := nx_out (C := (fun e => Sum.elim (fun e => m_ref11_Load_j1 e.1 e.2.1 e.2.2.1 e.2.2.2.1 e.2.2.2.2.1 e.2.2.2.2.2.1 e.2.2.2.2.2.2) (fun x => some x) e = some r)) hm hnx2 hr2
      replace hm : some ((⟨0, 0, ([] : List Int), (⟨#[]⟩ : ByteArray), (⟨0, 0, ([] : List GEntry)⟩ : GLog)⟩ : GHard), 10) = some r := hm
      replace hm := Option.some.inj hm
      subst hm
      refine d_retC (none, 0, none, 0) Try.results68 ?_ ⟨(Nat.le_refl 0), (Nat.le_refl 0)⟩ (fun W h => ok_pre (H1 := [_, _, _]) (R1 := []) h (fun W hφ => ⟨(q1486 _ (q1723 _ hφ)), (fun W _ => Cl.nil _ _) W hφ, (fun W _ => Cl.nil _ _) W hφ⟩)) (.inr rfl)
      refine res_agg (tag := 100020) rfl rfl Try.isAgg44 Try.sizeOf44 ?_
      refine res_tmp ?_
      refine res_nil ?_
      exact rfl
     ·
      replace hm := ite_f hm (bool_nt h1724)
      refine c_skip ?_
      refine d_normal_block ?_
      refine d_then ?_
      refine c_region ?_
      refine g_v rfl r_move ?_
      refine g_v rfl (r_add rfl rfl rfl) ?_
      refine g_v rfl r_assign ?_
      refine g_nil ?_
      obtain ⟨n1725, hn1725, hlp⟩ := nx_inl hm hnx2
      exact d_round (n1725, w64 (i1219 + 1), i1710, i1711, l1712, s1716, i1717, i1718, l1719, A1713, c1714, A1720, c1721) ⟨hlp, hc1714, hc1721⟩ hn1725 ⟨rfl, rfl, rfl, rfl, trivial⟩ (fun W h => (h.dropH (t := 100400) rfl).phi (fun W hφ => ⟨(q1486 _ (q1723 _ hφ)), (fun W h => f1715 W h) W hφ, (fun W h => f1722 W h) W hφ⟩))
  ·
   replace hm := ite_f hm (of_decide_eq_false h1487)
   refine c_exit ?_
   refine d_exit_then ?_
   refine d_exit_then ?_
   refine d_exit_block ?_
   replace hm := nx_out (C := (fun e => Sum.elim (fun e => m_ref11_Load_j1 e.1 e.2.1 e.2.2.1 e.2.2.2.1 e.2.2.2.2.1 e.2.2.2.2.2.1 e.2.2.2.2.2.2) (fun x => some x) e = some r)) hm hnx2 hr2
   exact d_round (i1220, i1221, l1222, s1226, i1227, i1228, l1229, A1223, c1224, A1230, c1231) ⟨hm, hc1224, hc1231⟩ Nat.zero_lt_one ⟨rfl, rfl, trivial⟩ (fun W h => h.phi (fun W hφ => ⟨(q1486 _ hφ), (fun W h => f1225 W h) W hφ, (fun W h => f1232 W h) W hφ⟩))
 ·
  unfold m_ref11_Load_j1 at hm
  refine d_abs (fun φ748 q748' => ?_)
  have q748 : ∀ W, φ748 W → φ W := fun W h => (q748' W h).1
  have f740 := fun (W : World) (h : φ748 W) => (q748' W h).2.1
  have f747 := fun (W : World) (h : φ748 W) => (q748' W h).2.2
  refine d_flat [(2, .pointer (some ⟨g1, 0, none⟩)), (4, .pointer (some ⟨g2, 0, none⟩))] ⟨rfl, rfl, trivial⟩ (fun u => ?_)
  refine d_sta ⟨w0, M, (100040, g2, .cells #[.int .i64 i735, .int .i64 i736, .slice A738 l737.length c739, .string s741, .int .i64 i742, .int .i64 i743, .slice A745 l744.length c746] 44 (0, 0)) :: (100020, g1, .cells #[.int .i64 0, .int .i64 0, .slice none 0 0, .string (⟨#[]⟩ : ByteArray), .int .i64 0, .int .i64 0, .slice none 0 0] 44 (0, 0)) :: H, R, φ748⟩ (fun _ h => h) ?_
  refine d_then ?_
  refine c_seq ?_
  refine c_seq ?_
  refine c_region ?_
  refine g_v rfl (r_field (n := 4) Try.underlying44 rfl Try.sizeOf26 rfl rfl) ?_
  refine g_v rfl (r_loadA (tag := 100040) rfl rfl Try.isAgg26 Try.sizeOf26 rfl rfl) ?_
  replace hm := bnd hm
  obtain ⟨x749, hx750, hm⟩ := hm
  refine g_cn ⟨w0, M, _, _, φ748⟩ (fun _ h => h) Try.call37 rfl rfl (c_ref11_Check (⟨i742, i743, l744⟩ : GLog) A745 c746 hc746 (fun W hS => f747 W hS.now) _ hx750) (fun _ _ => ?_)
  refine g_v rfl (r_neq rfl rfl) ?_
  refine g_v rfl r_move ?_
  refine g_if rfl rfl rfl rfl rfl (fun h751 => ?_) (fun h751 => ?_)
  ·
   replace hm := ite_f hm (of_decide_eq_false h751)
   refine g_v rfl (r_field (n := 0) Try.underlying44 rfl Try.sizeOf3 rfl rfl) ?_
   refine g_do rfl rfl rfl rfl rfl h751 ?_
   refine g_v rfl (r_load (tag := 100040) rfl rfl rfl Try.isAgg3) ?_
   refine g_do rfl rfl rfl rfl rfl h751 ?_
   refine g_v rfl (r_gtr rfl rfl) ?_
   refine g_v rfl (r_pick0 rfl h751) ?_
   refine g_v rfl r_move ?_
   refine g_if rfl rfl rfl rfl rfl (fun h752 => ?_) (fun h752 => ?_)
   ·
    replace hm := ite_f hm (of_decide_eq_false h752)
    refine g_v rfl (r_field (n := 1) Try.underlying44 rfl Try.sizeOf3 rfl rfl) ?_
    refine g_do rfl rfl rfl rfl rfl h752 ?_
    refine g_v rfl (r_load (tag := 100040) rfl rfl rfl Try.isAgg3) ?_
    refine g_do rfl rfl rfl rfl rfl h752 ?_
    refine g_v rfl (r_gtr rfl rfl) ?_
    refine g_v rfl (r_pick0 rfl h752) ?_
    refine g_nil ?_
    refine d_then ?_
    refine c_flat [(2, .pointer (some ⟨g1, 0, none⟩)), (4, .pointer (some ⟨g2, 0, none⟩)), (224, .bool (decide (1099511627776 < i736)))] ⟨rfl, rfl, rfl, trivial⟩ (fun u => ?_)
    refine c_sta ⟨w0, M, (100040, g2, .cells #[.int .i64 i735, .int .i64 i736, .slice A738 l737.length c739, .string s741, .int .i64 i742, .int .i64 i743, .slice A745 l744.length c746] 44 (0, 0)) :: (100020, g1, .cells #[.int .i64 0, .int .i64 0, .slice none 0 0, .string (⟨#[]⟩ : ByteArray), .int .i64 0, .int .i64 0, .slice none 0 0] 44 (0, 0)) :: H, R, φ748⟩ (fun _ h => h) ?_
    refine c_cond rfl (fun h753 => ?_) (fun h753 => ?_)
    ·
     replace hm := ite_t hm (of_decide_eq_true h753)
     refine c_seq ?_
     refine c_region ?_
     refine g_v rfl (r_build _ rfl (bld44_7)) ?_
     refine g_storeL (tag := 100020) rfl rfl rfl rfl Try.sizeOf44 rfl rfl ?_
     refine g_v rfl r_assign ?_
     refine g_nil ?_
     refine d_then ?_
     refine c_ret ?_
     refine d_ret_then ?_
     replace hm := Option.some.inj hm
     subst hm
     refine d_retC (none, 0, none, 0) Try.results68 ?_ ⟨(Nat.le_refl 0), (Nat.le_refl 0)⟩ (fun W h => ok_pre (H1 := [_, _]) (R1 := []) h (fun W hφ => ⟨(q748 _ hφ), (fun W _ => Cl.nil _ _) W hφ, (fun W _ => Cl.nil _ _) W hφ⟩)) (.inr rfl)
     refine res_agg (tag := 100020) rfl rfl Try.isAgg44 Try.sizeOf44 ?_
     refine res_tmp ?_
     refine res_nil ?_
     exact rfl
    ·
     replace hm := ite_f hm (of_decide_eq_false h753)
     refine c_skip ?_
     refine d_then ?_
     refine c_seq ?_
     refine c_region ?_
     refine g_v rfl (r_loadA (tag := 100040) rfl rfl Try.isAgg44 Try.sizeOf44 rfl rfl) ?_
     refine g_storeL (tag := 100020) rfl rfl rfl rfl Try.sizeOf44 rfl rfl ?_
     refine g_v rfl r_assign ?_
     refine g_nil ?_
     refine d_then ?_
     refine c_ret ?_
     replace hm := Option.some.inj hm
     subst hm
     refine d_retC (A738, c739, A745, c746) Try.results68 ?_ ⟨hc739, hc746⟩ (fun W h => ok_pre (H1 := [_, _]) (R1 := []) h (fun W hφ => ⟨(q748 _ hφ), (fun W h => f740 W h) W hφ, (fun W h => f747 W h) W hφ⟩)) (.inr rfl)
     refine res_agg (tag := 100020) rfl rfl Try.isAgg44 Try.sizeOf44 ?_
     refine res_tmp ?_
     refine res_nil ?_
     exact rfl
   ·
    replace hm := ite_t hm (of_decide_eq_true h752)
    refine g_no rfl rfl rfl rfl rfl h752 ?_
    refine g_no rfl rfl rfl rfl rfl h752 ?_
    refine g_v rfl (r_pick1 rfl h752) ?_
    refine g_nil ?_
    refine d_then ?_
    refine c_flat [(2, .pointer (some ⟨g1, 0, none⟩)), (4, .pointer (some ⟨g2, 0, none⟩)), (224, .bool true)] ⟨rfl, rfl, rfl, trivial⟩ (fun u => ?_)
    refine c_sta ⟨w0, M, (100040, g2, .cells #[.int .i64 i735, .int .i64 i736, .slice A738 l737.length c739, .string s741, .int .i64 i742, .int .i64 i743, .slice A745 l744.length c746] 44 (0, 0)) :: (100020, g1, .cells #[.int .i64 0, .int .i64 0, .slice none 0 0, .string (⟨#[]⟩ : ByteArray), .int .i64 0, .int .i64 0, .slice none 0 0] 44 (0, 0)) :: H, R, φ748⟩ (fun _ h => h) ?_
    refine c_cond1 rfl rfl ?_
    refine c_seq ?_
    refine c_region ?_
    refine g_v rfl (r_build _ rfl (bld44_7)) ?_
    refine g_storeL (tag := 100020) rfl rfl rfl rfl Try.sizeOf44 rfl rfl ?_
    refine g_v rfl r_assign ?_
    refine g_nil ?_
    refine d_then ?_
    refine c_ret ?_
    refine d_ret_then ?_
    replace hm := Option.some.inj hm
    subst hm
    refine d_retC (none, 0, none, 0) Try.results68 ?_ ⟨(Nat.le_refl 0), (Nat.le_refl 0)⟩ (fun W h => ok_pre (H1 := [_, _]) (R1 := []) h (fun W hφ => ⟨(q748 _ hφ), (fun W _ => Cl.nil _ _) W hφ, (fun W _ => Cl.nil _ _) W hφ⟩)) (.inr rfl)
    refine res_agg (tag := 100020) rfl rfl Try.isAgg44 Try.sizeOf44 ?_
    refine res_tmp ?_
    refine res_nil ?_
    exact rfl
  ·
   replace hm := ite_t hm (of_decide_eq_true h751)
   refine g_no rfl rfl rfl rfl rfl h751 ?_
   refine g_no rfl rfl rfl rfl rfl h751 ?_
   refine g_v rfl (r_pick1 rfl h751) ?_
   refine g_v rfl r_move ?_
   refine g_no rfl rfl rfl rfl rfl rfl ?_
   refine g_no rfl rfl rfl rfl rfl rfl ?_
   refine g_no rfl rfl rfl rfl rfl rfl ?_
   refine g_v rfl (r_pick1 rfl rfl) ?_
   refine g_nil ?_
   refine d_then ?_
   refine c_cond1 rfl rfl ?_
   refine c_seq ?_
   refine c_region ?_
   refine g_v rfl (r_build _ rfl (bld44_7)) ?_
   refine g_storeL (tag := 100020) rfl rfl rfl rfl Try.sizeOf44 rfl rfl ?_
   refine g_v rfl r_assign ?_
   refine g_nil ?_
   refine d_then ?_
   refine c_flat [(2, .pointer (some ⟨g1, 0, none⟩)), (3, .int .i64 10)] ⟨rfl, rfl, trivial⟩ (fun u => ?_)
   refine c_sta ⟨w0, M, (100040, g2, .cells #[.int .i64 i735, .int .i64 i736, .slice A738 l737.length c739, .string s741, .int .i64 i742, .int .i64 i743, .slice A745 l744.length c746] 44 (0, 0)) :: (100020, g1, .cells #[.int .i64 0, .int .i64 0, .slice none 0 0, .string (⟨#[]⟩ : ByteArray), .int .i64 0, .int .i64 0, .slice none 0 0] 44 (0, 0)) :: H, R, φ748⟩ (fun _ h => h) ?_
   refine c_ret ?_
   refine d_ret_then ?_
   replace hm := Option.some.inj hm
   subst hm
   refine d_retC (none, 0, none, 0) Try.results68 ?_ ⟨(Nat.le_refl 0), (Nat.le_refl 0)⟩ (fun W h => ok_pre (H1 := [_, _]) (R1 := []) h (fun W hφ => ⟨(q748 _ hφ), (fun W _ => Cl.nil _ _) W hφ, (fun W _ => Cl.nil _ _) W hφ⟩)) (.inr rfl)
   refine res_agg (tag := 100020) rfl rfl Try.isAgg44 Try.sizeOf44 ?_
   refine res_tmp ?_
   refine res_nil ?_
   exact rfl
end Go.Proofs.Ytildknbbpkbkeaa
