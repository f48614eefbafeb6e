import Derived.Test.YtildknbbpkbkeaaU31
set_option maxRecDepth 16384
set_option maxHeartbeats 4000000
set_option linter.unusedVariables false
set_option linter.unusedSimpArgs false
namespace Go.Proofs.Ytildknbbpkbkeaa
open Go.RowKit Go.Proofs.YtildknbbpkbkeaaW.PrintLast
noncomputable def m_plog_Save_j2 (p1 : GHard) (x3 : Int) (l210 : List ByteArray) : Option ((List ByteArray) × Bool) :=
  (m_plog_entries p1.fLog x3).bind fun x245 =>
  (app 16 l210 x245).bind fun l250 =>
  some (l250, false)
noncomputable def m_plog_Save_j1 (p0 : GHard) (p1 : GHard) (x3 : Int) : Option ((List ByteArray) × Bool) :=
  if p0.fTerm ≠ p1.fTerm then
    (m_plog_numbers [84] [p1.fTerm, p1.fVote]).bind fun x236 =>
    (app 16 ([] : List ByteArray) [strOfNums x236]).bind fun l242 =>
    m_plog_Save_j2 p1 x3 l242
  else
    if p0.fVote ≠ p1.fVote then
      (m_plog_numbers [84] [p1.fTerm, p1.fVote]).bind fun x225 =>
      (app 16 ([] : List ByteArray) [strOfNums x225]).bind fun l231 =>
      m_plog_Save_j2 p1 x3 l231
    else
      m_plog_Save_j2 p1 x3 ([] : List ByteArray)
noncomputable def m_plog_Save (p0 : GHard) (p1 : GHard) : Option ((List ByteArray) × Bool) :=
  (m_plog_shared_78 p0.fLog.fEntries p1.fLog.fEntries).bind fun x3 =>
  if p0.fLog.fBase ≠ p1.fLog.fBase then
    (m_plog_anew p1).bind fun x157 =>
    some (x157, true)
  else
    if p0.fLog.fBaseTerm ≠ p1.fLog.fBaseTerm then
      (m_plog_anew p1).bind fun x152 =>
      some (x152, true)
    else
      if p0.fSnap = p1.fSnap then
        (m_slices_Equal_80 p0.fVoters p1.fVoters).bind fun x137 =>
        if x137 = true then
          if x3 = (p1.fLog.fEntries.length : Int) then
            if x3 < (p0.fLog.fEntries.length : Int) then
              (m_plog_anew p1).bind fun x142 =>
              some (x142, true)
            else
              m_plog_Save_j1 p0 p1 x3
          else
            m_plog_Save_j1 p0 p1 x3
        else
          (m_plog_anew p1).bind fun x147 =>
          some (x147, true)
      else
        (m_plog_anew p1).bind fun x132 =>
        some (x132, true)
theorem c_plog_Save {w0 : World} {M : Nat → Prop} {H : List (Nat × Nat × Obj)} {R : List (Nat × Row)} {φ : World → Prop} (p0 : GHard) (Ap0_0 : Option Addr) (cp0_0 : Nat) (hcp0_0 : p0.fVoters.length ≤ cp0_0) (fp0_0 : ∀ W, (Sta.mk w0 M H R φ).ok W → Cl W Ap0_0 (p0.fVoters.flatMap (fun x : Int => [Value.int .i64 x]))) (Ap0_1 : Option Addr) (cp0_1 : Nat) (hcp0_1 : p0.fLog.fEntries.length ≤ cp0_1) (fp0_1 : ∀ W, (Sta.mk w0 M H R φ).ok W → Cl W Ap0_1 (p0.fLog.fEntries.flatMap GEntry.enc)) (p1 : GHard) (Ap1_0 : Option Addr) (cp1_0 : Nat) (hcp1_0 : p1.fVoters.length ≤ cp1_0) (fp1_0 : ∀ W, (Sta.mk w0 M H R φ).ok W → Cl W Ap1_0 (p1.fVoters.flatMap (fun x : Int => [Value.int .i64 x]))) (Ap1_1 : Option Addr) (cp1_1 : Nat) (hcp1_1 : p1.fLog.fEntries.length ≤ cp1_1) (fp1_1 : ∀ W, (Sta.mk w0 M H R φ).ok W → Cl W Ap1_1 (p1.fLog.fEntries.flatMap GEntry.enc)) (r : (List ByteArray) × Bool) (hm : m_plog_Save p0 p1 = some r) :
    Cn Try.prog 41 #[.agg #[.int .i64 p0.fTerm, .int .i64 p0.fVote, .slice Ap0_0 p0.fVoters.length cp0_0, .string p0.fSnap, .int .i64 p0.fLog.fBase, .int .i64 p0.fLog.fBaseTerm, .slice Ap0_1 p0.fLog.fEntries.length cp0_1], .agg #[.int .i64 p1.fTerm, .int .i64 p1.fVote, .slice Ap1_0 p1.fVoters.length cp1_0, .string p1.fSnap, .int .i64 p1.fLog.fBase, .int .i64 p1.fLog.fBaseTerm, .slice Ap1_1 p1.fLog.fEntries.length cp1_1]] ⟨w0, M, H, R, φ⟩ (fun x : Option Addr × Nat => .tuple #[.slice x.1 r.1.length x.2, .bool r.2]) (fun x => r.1.length ≤ x.2) (fun x => ⟨w0, M, H, (2000, ⟨.slice x.1 r.1.length x.2, 9, 1, r.1.length, r.1.flatMap (fun x : ByteArray => [Value.string x])⟩) :: R, φ⟩) := by
 unfold m_plog_Save at hm
 refine cn_intro (fn := Try.f41) (N := 95) Try.func41 rfl Try.ntmps41 rfl ?_
 refine c_seq ?_
 refine c_region ?_
 refine g_e rfl (e_box 100020 rfl) (fun g1 _ => ?_)
 refine g_e rfl (e_box 100030 rfl) (fun g2 _ => ?_)
 refine g_v rfl r_assign ?_
 refine g_v rfl r_assign ?_
 refine g_nil ?_
 refine d_then ?_
 refine c_seq ?_
 refine c_region ?_
 refine g_v rfl (r_field (n := 4) Try.underlying44 rfl Try.sizeOf26 rfl rfl) ?_
 refine g_v rfl (r_field (n := 6) Try.underlying26 rfl Try.sizeOf24 rfl rfl) ?_
 refine g_v rfl (r_load (tag := 100020) rfl rfl rfl Try.isAgg24) ?_
 refine g_v rfl (r_field (n := 4) Try.underlying44 rfl Try.sizeOf26 rfl rfl) ?_
 refine g_v rfl (r_field (n := 6) Try.underlying26 rfl Try.sizeOf24 rfl rfl) ?_
 refine g_v rfl (r_load (tag := 100030) rfl rfl rfl Try.isAgg24) ?_
 replace hm := bnd hm
 obtain ⟨x3, hx4, hm⟩ := hm
 refine g_cn ⟨w0, M, _, _, φ⟩ (fun _ h => h) Try.call78 rfl rfl (c_plog_shared_78 p0.fLog.fEntries Ap0_1 cp0_1 hcp0_1 (fun W hS => fp0_1 W (ok_pre (H1 := [_, _]) (R1 := []) hS (fun W h => h))) p1.fLog.fEntries Ap1_1 cp1_1 hcp1_1 (fun W hS => fp1_1 W (ok_pre (H1 := [_, _]) (R1 := []) hS (fun W h => h))) _ hx4) (fun _ _ => ?_)
 refine g_v rfl r_assign ?_
 refine g_nil ?_
 refine d_then ?_
 refine c_flat [(2, .pointer (some ⟨g1, 0, none⟩)), (3, .pointer (some ⟨g2, 0, none⟩)), (6, .int .i64 x3)] ⟨rfl, rfl, rfl, trivial⟩ (fun u => ?_)
 refine c_sta ⟨w0, M, (100030, g2, .cells #[.int .i64 p1.fTerm, .int .i64 p1.fVote, .slice Ap1_0 p1.fVoters.length cp1_0, .string p1.fSnap, .int .i64 p1.fLog.fBase, .int .i64 p1.fLog.fBaseTerm, .slice Ap1_1 p1.fLog.fEntries.length cp1_1] 44 (0, 0)) :: (100020, g1, .cells #[.int .i64 p0.fTerm, .int .i64 p0.fVote, .slice Ap0_0 p0.fVoters.length cp0_0, .string p0.fSnap, .int .i64 p0.fLog.fBase, .int .i64 p0.fLog.fBaseTerm, .slice Ap0_1 p0.fLog.fEntries.length cp0_1] 44 (0, 0)) :: H, R, φ⟩ (fun _ h => h) ?_
 refine c_seq ?_
 refine c_cut (ι := Unit) [2, 3, 6] (fun _ => []) (fun _ => ⟨w0, M, (100030, g2, .cells #[.int .i64 p1.fTerm, .int .i64 p1.fVote, .slice Ap1_0 p1.fVoters.length cp1_0, .string p1.fSnap, .int .i64 p1.fLog.fBase, .int .i64 p1.fLog.fBaseTerm, .slice Ap1_1 p1.fLog.fEntries.length cp1_1] 44 (0, 0)) :: (100020, g1, .cells #[.int .i64 p0.fTerm, .int .i64 p0.fVote, .slice Ap0_0 p0.fVoters.length cp0_0, .string p0.fSnap, .int .i64 p0.fLog.fBase, .int .i64 p0.fLog.fBaseTerm, .slice Ap0_1 p0.fLog.fEntries.length cp0_1] 44 (0, 0)) :: H, R, φ⟩) (fun _ => m_plog_Save_j1 p0 p1 x3 = some r) ?_ (fun _ u hm => ?_)
 ·
  refine c_block ?_
  refine c_seq ?_
  refine c_region ?_
  refine g_v rfl (r_field (n := 4) Try.underlying44 rfl Try.sizeOf26 rfl rfl) ?_
  refine g_v rfl (r_field (n := 4) Try.underlying26 rfl Try.sizeOf3 rfl rfl) ?_
  refine g_v rfl (r_load (tag := 100020) rfl rfl rfl Try.isAgg3) ?_
  refine g_v rfl (r_field (n := 4) Try.underlying44 rfl Try.sizeOf26 rfl rfl) ?_
  refine g_v rfl (r_field (n := 4) Try.underlying26 rfl Try.sizeOf3 rfl rfl) ?_
  refine g_v rfl (r_load (tag := 100030) rfl rfl rfl Try.isAgg3) ?_
  refine g_v rfl (r_neq rfl rfl) ?_
  refine g_v rfl r_move ?_
  refine g_if rfl rfl rfl rfl rfl (fun h129 => ?_) (fun h129 => ?_)
  ·
   replace hm := ite_f hm (of_decide_eq_false h129)
   refine g_v rfl (r_field (n := 4) Try.underlying44 rfl Try.sizeOf26 rfl rfl) ?_
   refine g_do rfl rfl rfl rfl rfl h129 ?_
   refine g_v rfl (r_field (n := 5) Try.underlying26 rfl Try.sizeOf3 rfl rfl) ?_
   refine g_do rfl rfl rfl rfl rfl h129 ?_
   refine g_v rfl (r_load (tag := 100020) rfl rfl rfl Try.isAgg3) ?_
   refine g_do rfl rfl rfl rfl rfl h129 ?_
   refine g_v rfl (r_field (n := 4) Try.underlying44 rfl Try.sizeOf26 rfl rfl) ?_
   refine g_do rfl rfl rfl rfl rfl h129 ?_
   refine g_v rfl (r_field (n := 5) Try.underlying26 rfl Try.sizeOf3 rfl rfl) ?_
   refine g_do rfl rfl rfl rfl rfl h129 ?_
   refine g_v rfl (r_load (tag := 100030) rfl rfl rfl Try.isAgg3) ?_
   refine g_do rfl rfl rfl rfl rfl h129 ?_
   refine g_v rfl (r_neq rfl rfl) ?_
   refine g_v rfl (r_pick0 rfl h129) ?_
   refine g_v rfl r_move ?_
   refine g_if rfl rfl rfl rfl rfl (fun h130 => ?_) (fun h130 => ?_)
   ·
    replace hm := ite_f hm (of_decide_eq_false h130)
    refine g_v rfl (r_field (n := 3) Try.underlying44 rfl Try.sizeOf9 rfl rfl) ?_
    refine g_do rfl rfl rfl rfl rfl h130 ?_
    refine g_v rfl (r_load (tag := 100020) rfl rfl rfl Try.isAgg9) ?_
    refine g_do rfl rfl rfl rfl rfl h130 ?_
    refine g_v rfl (r_field (n := 3) Try.underlying44 rfl Try.sizeOf9 rfl rfl) ?_
    refine g_do rfl rfl rfl rfl rfl h130 ?_
    refine g_v rfl (r_load (tag := 100030) rfl rfl rfl Try.isAgg9) ?_
    refine g_do rfl rfl rfl rfl rfl h130 ?_
    refine g_v rfl (r_neqT rfl rfl) ?_
    refine g_v rfl (r_pick0 rfl h130) ?_
    refine g_v rfl r_assign ?_
    refine g_nil ?_
    refine d_then ?_
    refine c_flat [(2, .pointer (some ⟨g1, 0, none⟩)), (3, .pointer (some ⟨g2, 0, none⟩)), (6, .int .i64 x3), (15, .bool (!(decide (p0.fSnap = p1.fSnap))))] ⟨rfl, rfl, rfl, rfl, trivial⟩ (fun u => ?_)
    refine c_sta ⟨w0, M, (100030, g2, .cells #[.int .i64 p1.fTerm, .int .i64 p1.fVote, .slice Ap1_0 p1.fVoters.length cp1_0, .string p1.fSnap, .int .i64 p1.fLog.fBase, .int .i64 p1.fLog.fBaseTerm, .slice Ap1_1 p1.fLog.fEntries.length cp1_1] 44 (0, 0)) :: (100020, g1, .cells #[.int .i64 p0.fTerm, .int .i64 p0.fVote, .slice Ap0_0 p0.fVoters.length cp0_0, .string p0.fSnap, .int .i64 p0.fLog.fBase, .int .i64 p0.fLog.fBaseTerm, .slice Ap0_1 p0.fLog.fEntries.length cp0_1] 44 (0, 0)) :: H, R, φ⟩ (fun _ h => h) ?_
    refine c_cond rfl (fun h131 => ?_) (fun h131 => ?_)
    ·
     have h131' : (decide (p0.fSnap = p1.fSnap)) = false := by revert h131; cases (decide (p0.fSnap = p1.fSnap)) <;> simp
     replace hm := ite_f hm (of_decide_eq_false h131')
     refine c_seq ?_
     refine c_region ?_
     refine g_v rfl (r_loadA (tag := 100030) rfl rfl Try.isAgg44 Try.sizeOf44 rfl rfl) ?_
     replace hm := bnd hm
     obtain ⟨x132, hx133, hm⟩ := hm
     refine g_cn ⟨w0, M, _, _, φ⟩ (fun _ h => h) Try.call79 rfl rfl (c_plog_anew p1 Ap1_0 cp1_0 hcp1_0 (fun W hS => fp1_0 W (ok_pre (H1 := [_, _]) (R1 := []) hS (fun W h => h))) Ap1_1 cp1_1 hcp1_1 (fun W hS => fp1_1 W (ok_pre (H1 := [_, _]) (R1 := []) hS (fun W h => h))) _ hx133) (fun ⟨A134, c135⟩ hc135 => ?_)
     refine g_sta _ (fun W h => ok_frontR (t := 2000) (t' := 100400) h rfl) ?_
     refine g_v rfl r_assign ?_
     refine g_v rfl r_assign ?_
     refine g_nil ?_
     refine d_then ?_
     refine c_ret ?_
     refine d_ret_block ?_
     refine d_ret_then ?_
     refine d_ret_then ?_
     replace hm := Option.some.inj hm
     subst hm
     refine d_sta _ (fun W h => ok_frontR (t := 100400) (t' := 2000) h rfl) ?_
     refine d_retC (A134, c135) Try.results41 ?_ hc135 (fun W h => ((h.dropH (t := 100030) rfl).dropH (t := 100020) rfl).phi (fun W hφ => hφ)) (.inr rfl)
     refine res_tmp ?_
     refine res_tmp ?_
     refine res_nil ?_
     exact rfl
    ·
     have h131' : (decide (p0.fSnap = p1.fSnap)) = true := by revert h131; cases (decide (p0.fSnap = p1.fSnap)) <;> simp
     replace hm := ite_t hm (of_decide_eq_true h131')
     refine c_seq ?_
     refine c_region ?_
     refine g_v rfl (r_field (n := 2) Try.underlying44 rfl Try.sizeOf42 rfl rfl) ?_
     refine g_v rfl (r_load (tag := 100020) rfl rfl rfl Try.isAgg42) ?_
     refine g_v rfl (r_field (n := 2) Try.underlying44 rfl Try.sizeOf42 rfl rfl) ?_
     refine g_v rfl (r_load (tag := 100030) rfl rfl rfl Try.isAgg42) ?_
     replace hm := bnd hm
     obtain ⟨x137, hx138, hm⟩ := hm
     refine g_cn ⟨w0, M, _, _, φ⟩ (fun _ h => h) Try.call80 rfl rfl (c_slices_Equal_80 p0.fVoters Ap0_0 cp0_0 hcp0_0 (fun W hS => fp0_0 W (ok_pre (H1 := [_, _]) (R1 := []) hS (fun W h => h))) p1.fVoters Ap1_0 cp1_0 hcp1_0 (fun W hS => fp1_0 W (ok_pre (H1 := [_, _]) (R1 := []) hS (fun W h => h))) _ hx138) (fun _ _ => ?_)
     refine g_v rfl (r_not rfl) ?_
     refine g_v rfl r_move ?_
     refine g_if rfl rfl rfl rfl rfl (fun h139 => ?_) (fun h139 => ?_)
     ·
      have h139' : x137 = true := by revert h139; cases x137 <;> simp
      replace hm := ite_t hm h139'
      refine g_v rfl r_move ?_
      refine g_do rfl rfl rfl rfl rfl h139 ?_
      refine g_v rfl (r_field (n := 4) Try.underlying44 rfl Try.sizeOf26 rfl rfl) ?_
      refine g_do rfl rfl rfl rfl rfl h139 ?_
      refine g_v rfl (r_field (n := 6) Try.underlying26 rfl Try.sizeOf24 rfl rfl) ?_
      refine g_do rfl rfl rfl rfl rfl h139 ?_
      refine g_v rfl (r_load (tag := 100030) rfl rfl rfl Try.isAgg24) ?_
      refine g_do rfl rfl rfl rfl rfl h139 ?_
      refine g_v rfl (r_lenL Try.underlying24 rfl) ?_
      refine g_do rfl rfl rfl rfl rfl h139 ?_
      refine g_v rfl (r_eql rfl rfl) ?_
      refine g_do rfl rfl rfl rfl rfl h139 ?_
      refine g_v rfl r_move ?_
      refine g_if rfl rfl rfl rfl rfl (fun h140 => ?_) (fun h140 => ?_)
      ·
       replace hm := ite_t hm (of_decide_eq_true h140)
       refine g_v rfl r_move ?_
       refine g_do rfl rfl rfl rfl rfl h140 ?_
       refine g_v rfl (r_field (n := 4) Try.underlying44 rfl Try.sizeOf26 rfl rfl) ?_
       refine g_do rfl rfl rfl rfl rfl h140 ?_
       refine g_v rfl (r_field (n := 6) Try.underlying26 rfl Try.sizeOf24 rfl rfl) ?_
       refine g_do rfl rfl rfl rfl rfl h140 ?_
       refine g_v rfl (r_load (tag := 100020) rfl rfl rfl Try.isAgg24) ?_
       refine g_do rfl rfl rfl rfl rfl h140 ?_
       refine g_v rfl (r_lenL Try.underlying24 rfl) ?_
       refine g_do rfl rfl rfl rfl rfl h140 ?_
       refine g_v rfl (r_lss rfl rfl) ?_
       refine g_do rfl rfl rfl rfl rfl h139 ?_
       refine g_v rfl (r_pick1 rfl h140) ?_
       refine g_v rfl (r_pick0 rfl h139) ?_
       refine g_v rfl r_assign ?_
       refine g_nil ?_
       refine d_then ?_
       refine c_flat [(2, .pointer (some ⟨g1, 0, none⟩)), (3, .pointer (some ⟨g2, 0, none⟩)), (6, .int .i64 x3), (41, .bool (decide (x3 < (p0.fLog.fEntries.length : Int))))] ⟨rfl, rfl, rfl, rfl, trivial⟩ (fun u => ?_)
       refine c_sta ⟨w0, M, (100030, g2, .cells #[.int .i64 p1.fTerm, .int .i64 p1.fVote, .slice Ap1_0 p1.fVoters.length cp1_0, .string p1.fSnap, .int .i64 p1.fLog.fBase, .int .i64 p1.fLog.fBaseTerm, .slice Ap1_1 p1.fLog.fEntries.length cp1_1] 44 (0, 0)) :: (100020, g1, .cells #[.int .i64 p0.fTerm, .int .i64 p0.fVote, .slice Ap0_0 p0.fVoters.length cp0_0, .string p0.fSnap, .int .i64 p0.fLog.fBase, .int .i64 p0.fLog.fBaseTerm, .slice Ap0_1 p0.fLog.fEntries.length cp0_1] 44 (0, 0)) :: H, R, φ⟩ (fun _ h => h) ?_
       refine c_cond rfl (fun h141 => ?_) (fun h141 => ?_)
       ·
        replace hm := ite_t hm (of_decide_eq_true h141)
        refine c_seq ?_
        refine c_region ?_
        refine g_v rfl (r_loadA (tag := 100030) rfl rfl Try.isAgg44 Try.sizeOf44 rfl rfl) ?_
        replace hm := bnd hm
        obtain ⟨x142, hx143, hm⟩ := hm
        refine g_cn ⟨w0, M, _, _, φ⟩ (fun _ h => h) Try.call79 rfl rfl (c_plog_anew p1 Ap1_0 cp1_0 hcp1_0 (fun W hS => fp1_0 W (ok_pre (H1 := [_, _]) (R1 := []) hS (fun W h => h))) Ap1_1 cp1_1 hcp1_1 (fun W hS => fp1_1 W (ok_pre (H1 := [_, _]) (R1 := []) hS (fun W h => h))) _ hx143) (fun ⟨A144, c145⟩ hc145 => ?_)
        refine g_sta _ (fun W h => ok_frontR (t := 2000) (t' := 100650) h rfl) ?_
        refine g_v rfl r_assign ?_
        refine g_v rfl r_assign ?_
        refine g_nil ?_
        refine d_then ?_
        refine c_ret ?_
        refine d_ret_block ?_
        refine d_ret_then ?_
        refine d_ret_then ?_
        replace hm := Option.some.inj hm
        subst hm
        refine d_sta _ (fun W h => ok_frontR (t := 100650) (t' := 2000) h rfl) ?_
        refine d_retC (A144, c145) Try.results41 ?_ hc145 (fun W h => ((h.dropH (t := 100030) rfl).dropH (t := 100020) rfl).phi (fun W hφ => hφ)) (.inr rfl)
        refine res_tmp ?_
        refine res_tmp ?_
        refine res_nil ?_
        exact rfl
       ·
        replace hm := ite_f hm (of_decide_eq_false h141)
        refine c_skip ?_
        refine d_normal_block ?_
        exact d_round () hm Nat.zero_lt_one ⟨rfl, rfl, rfl, trivial⟩ (fun W h => h.phi (fun W hφ => hφ))
      ·
       replace hm := ite_f hm (of_decide_eq_false h140)
       refine g_no rfl rfl rfl rfl rfl h140 ?_
       refine g_no rfl rfl rfl rfl rfl h140 ?_
       refine g_no rfl rfl rfl rfl rfl h140 ?_
       refine g_no rfl rfl rfl rfl rfl h140 ?_
       refine g_no rfl rfl rfl rfl rfl h140 ?_
       refine g_do rfl rfl rfl rfl rfl h139 ?_
       refine g_v rfl (r_pick0 rfl h140) ?_
       refine g_v rfl (r_pick0 rfl h139) ?_
       refine g_v rfl r_assign ?_
       refine g_nil ?_
       refine d_then ?_
       refine c_flat [(2, .pointer (some ⟨g1, 0, none⟩)), (3, .pointer (some ⟨g2, 0, none⟩)), (6, .int .i64 x3), (41, .bool false)] ⟨rfl, rfl, rfl, rfl, trivial⟩ (fun u => ?_)
       refine c_sta ⟨w0, M, (100030, g2, .cells #[.int .i64 p1.fTerm, .int .i64 p1.fVote, .slice Ap1_0 p1.fVoters.length cp1_0, .string p1.fSnap, .int .i64 p1.fLog.fBase, .int .i64 p1.fLog.fBaseTerm, .slice Ap1_1 p1.fLog.fEntries.length cp1_1] 44 (0, 0)) :: (100020, g1, .cells #[.int .i64 p0.fTerm, .int .i64 p0.fVote, .slice Ap0_0 p0.fVoters.length cp0_0, .string p0.fSnap, .int .i64 p0.fLog.fBase, .int .i64 p0.fLog.fBaseTerm, .slice Ap0_1 p0.fLog.fEntries.length cp0_1] 44 (0, 0)) :: H, R, φ⟩ (fun _ h => h) ?_
       refine c_cond0 rfl rfl ?_
       refine c_skip ?_
       refine d_normal_block ?_
       exact d_round () hm Nat.zero_lt_one ⟨rfl, rfl, rfl, trivial⟩ (fun W h => h.phi (fun W hφ => hφ))
     ·
      have h139' : x137 = false := by revert h139; cases x137 <;> simp
      replace hm := ite_f hm (bool_nt h139')
      refine g_no rfl rfl rfl rfl rfl h139 ?_
      refine g_no rfl rfl rfl rfl rfl h139 ?_
      refine g_no rfl rfl rfl rfl rfl h139 ?_
      refine g_no rfl rfl rfl rfl rfl h139 ?_
      refine g_no rfl rfl rfl rfl rfl h139 ?_
      refine g_no rfl rfl rfl rfl rfl h139 ?_
      refine g_nu rfl rfl rfl rfl rfl ?_
      refine g_nu rfl rfl rfl rfl rfl ?_
      refine g_nu rfl rfl rfl rfl rfl ?_
      refine g_nu rfl rfl rfl rfl rfl ?_
      refine g_nu rfl rfl rfl rfl rfl ?_
      refine g_nu rfl rfl rfl rfl rfl ?_
      refine g_no rfl rfl rfl rfl rfl h139 ?_
      refine g_v rfl (r_pick1 rfl h139) ?_
      refine g_v rfl r_assign ?_
      refine g_nil ?_
      refine d_then ?_
      refine c_flat [(2, .pointer (some ⟨g1, 0, none⟩)), (3, .pointer (some ⟨g2, 0, none⟩)), (6, .int .i64 x3), (41, .bool true)] ⟨rfl, rfl, rfl, rfl, trivial⟩ (fun u => ?_)
      refine c_sta ⟨w0, M, (100030, g2, .cells #[.int .i64 p1.fTerm, .int .i64 p1.fVote, .slice Ap1_0 p1.fVoters.length cp1_0, .string p1.fSnap, .int .i64 p1.fLog.fBase, .int .i64 p1.fLog.fBaseTerm, .slice Ap1_1 p1.fLog.fEntries.length cp1_1] 44 (0, 0)) :: (100020, g1, .cells #[.int .i64 p0.fTerm, .int .i64 p0.fVote, .slice Ap0_0 p0.fVoters.length cp0_0, .string p0.fSnap, .int .i64 p0.fLog.fBase, .int .i64 p0.fLog.fBaseTerm, .slice Ap0_1 p0.fLog.fEntries.length cp0_1] 44 (0, 0)) :: H, R, φ⟩ (fun _ h => h) ?_
      refine c_cond1 rfl rfl ?_
      refine c_seq ?_
      refine c_region ?_
      refine g_v rfl (r_loadA (tag := 100030) rfl rfl Try.isAgg44 Try.sizeOf44 rfl rfl) ?_
      replace hm := bnd hm
      obtain ⟨x147, hx148, hm⟩ := hm
      refine g_cn ⟨w0, M, _, _, φ⟩ (fun _ h => h) Try.call79 rfl rfl (c_plog_anew p1 Ap1_0 cp1_0 hcp1_0 (fun W hS => fp1_0 W (ok_pre (H1 := [_, _]) (R1 := []) hS (fun W h => h))) Ap1_1 cp1_1 hcp1_1 (fun W hS => fp1_1 W (ok_pre (H1 := [_, _]) (R1 := []) hS (fun W h => h))) _ hx148) (fun ⟨A149, c150⟩ hc150 => ?_)
      refine g_sta _ (fun W h => ok_frontR (t := 2000) (t' := 100650) h rfl) ?_
      refine g_v rfl r_assign ?_
      refine g_v rfl r_assign ?_
      refine g_nil ?_
      refine d_then ?_
      refine c_ret ?_
      refine d_ret_block ?_
      refine d_ret_then ?_
      refine d_ret_then ?_
      replace hm := Option.some.inj hm
      subst hm
      refine d_sta _ (fun W h => ok_frontR (t := 100650) (t' := 2000) h rfl) ?_
      refine d_retC (A149, c150) Try.results41 ?_ hc150 (fun W h => ((h.dropH (t := 100030) rfl).dropH (t := 100020) rfl).phi (fun W hφ => hφ)) (.inr rfl)
      refine res_tmp ?_
      refine res_tmp ?_
      refine res_nil ?_
      exact rfl
   ·
    replace hm := ite_t hm (of_decide_eq_true h130)
    refine g_no rfl rfl rfl rfl rfl h130 ?_
    refine g_no rfl rfl rfl rfl rfl h130 ?_
    refine g_no rfl rfl rfl rfl rfl h130 ?_
    refine g_no rfl rfl rfl rfl rfl h130 ?_
    refine g_v rfl (r_pick1 rfl h130) ?_
    refine g_v rfl r_assign ?_
    refine g_nil ?_
    refine d_then ?_
    refine c_flat [(2, .pointer (some ⟨g1, 0, none⟩)), (3, .pointer (some ⟨g2, 0, none⟩)), (6, .int .i64 x3), (15, .bool true)] ⟨rfl, rfl, rfl, rfl, trivial⟩ (fun u => ?_)
    refine c_sta ⟨w0, M, (100030, g2, .cells #[.int .i64 p1.fTerm, .int .i64 p1.fVote, .slice Ap1_0 p1.fVoters.length cp1_0, .string p1.fSnap, .int .i64 p1.fLog.fBase, .int .i64 p1.fLog.fBaseTerm, .slice Ap1_1 p1.fLog.fEntries.length cp1_1] 44 (0, 0)) :: (100020, g1, .cells #[.int .i64 p0.fTerm, .int .i64 p0.fVote, .slice Ap0_0 p0.fVoters.length cp0_0, .string p0.fSnap, .int .i64 p0.fLog.fBase, .int .i64 p0.fLog.fBaseTerm, .slice Ap0_1 p0.fLog.fEntries.length cp0_1] 44 (0, 0)) :: H, R, φ⟩ (fun _ h => h) ?_
    refine c_cond1 rfl rfl ?_
    refine c_seq ?_
    refine c_region ?_
    refine g_v rfl (r_loadA (tag := 100030) rfl rfl Try.isAgg44 Try.sizeOf44 rfl rfl) ?_
    replace hm := bnd hm
    obtain ⟨x152, hx153, hm⟩ := hm
    refine g_cn ⟨w0, M, _, _, φ⟩ (fun _ h => h) Try.call79 rfl rfl (c_plog_anew p1 Ap1_0 cp1_0 hcp1_0 (fun W hS => fp1_0 W (ok_pre (H1 := [_, _]) (R1 := []) hS (fun W h => h))) Ap1_1 cp1_1 hcp1_1 (fun W hS => fp1_1 W (ok_pre (H1 := [_, _]) (R1 := []) hS (fun W h => h))) _ hx153) (fun ⟨A154, c155⟩ hc155 => ?_)
    refine g_sta _ (fun W h => ok_frontR (t := 2000) (t' := 100400) h rfl) ?_
    refine g_v rfl r_assign ?_
    refine g_v rfl r_assign ?_
    refine g_nil ?_
    refine d_then ?_
    refine c_ret ?_
    refine d_ret_block ?_
    refine d_ret_then ?_
    refine d_ret_then ?_
    replace hm := Option.some.inj hm
    subst hm
    refine d_sta _ (fun W h => ok_frontR (t := 100400) (t' := 2000) h rfl) ?_
    refine d_retC (A154, c155) Try.results41 ?_ hc155 (fun W h => ((h.dropH (t := 100030) rfl).dropH (t := 100020) rfl).phi (fun W hφ => hφ)) (.inr rfl)
    refine res_tmp ?_
    refine res_tmp ?_
    refine res_nil ?_
    exact rfl
  ·
   replace hm := ite_t hm (of_decide_eq_true h129)
   refine g_no rfl rfl rfl rfl rfl h129 ?_
   refine g_no rfl rfl rfl rfl rfl h129 ?_
   refine g_no rfl rfl rfl rfl rfl h129 ?_
   refine g_no rfl rfl rfl rfl rfl h129 ?_
   refine g_no rfl rfl rfl rfl rfl h129 ?_
   refine g_no rfl rfl rfl rfl rfl h129 ?_
   refine g_v rfl (r_pick1 rfl h129) ?_
   refine g_v rfl r_move ?_
   refine g_no rfl rfl rfl rfl rfl rfl ?_
   refine g_no rfl rfl rfl rfl rfl rfl ?_
   refine g_no rfl rfl rfl rfl rfl rfl ?_
   refine g_no rfl rfl rfl rfl rfl rfl ?_
   refine g_no rfl rfl rfl rfl rfl rfl ?_
   refine g_v rfl (r_pick1 rfl rfl) ?_
   refine g_v rfl r_assign ?_
   refine g_nil ?_
   refine d_then ?_
   refine c_flat [(2, .pointer (some ⟨g1, 0, none⟩)), (3, .pointer (some ⟨g2, 0, none⟩)), (6, .int .i64 x3), (15, .bool true)] ⟨rfl, rfl, rfl, rfl, trivial⟩ (fun u => ?_)
   refine c_sta ⟨w0, M, (100030, g2, .cells #[.int .i64 p1.fTerm, .int .i64 p1.fVote, .slice Ap1_0 p1.fVoters.length cp1_0, .string p1.fSnap, .int .i64 p1.fLog.fBase, .int .i64 p1.fLog.fBaseTerm, .slice Ap1_1 p1.fLog.fEntries.length cp1_1] 44 (0, 0)) :: (100020, g1, .cells #[.int .i64 p0.fTerm, .int .i64 p0.fVote, .slice Ap0_0 p0.fVoters.length cp0_0, .string p0.fSnap, .int .i64 p0.fLog.fBase, .int .i64 p0.fLog.fBaseTerm, .slice Ap0_1 p0.fLog.fEntries.length cp0_1] 44 (0, 0)) :: H, R, φ⟩ (fun _ h => h) ?_
   refine c_cond1 rfl rfl ?_
   refine c_seq ?_
   refine c_region ?_
   refine g_v rfl (r_loadA (tag := 100030) rfl rfl Try.isAgg44 Try.sizeOf44 rfl rfl) ?_
   replace hm := bnd hm
   obtain ⟨x157, hx158, hm⟩ := hm
   refine g_cn ⟨w0, M, _, _, φ⟩ (fun _ h => h) Try.call79 rfl rfl (c_plog_anew p1 Ap1_0 cp1_0 hcp1_0 (fun W hS => fp1_0 W (ok_pre (H1 := [_, _]) (R1 := []) hS (fun W h => h))) Ap1_1 cp1_1 hcp1_1 (fun W hS => fp1_1 W (ok_pre (H1 := [_, _]) (R1 := []) hS (fun W h => h))) _ hx158) (fun ⟨A159, c160⟩ hc160 => ?_)
   refine g_sta _ (fun W h => ok_frontR (t := 2000) (t' := 100400) h rfl) ?_
   refine g_v rfl r_assign ?_
   refine g_v rfl r_assign ?_
   refine g_nil ?_
   refine d_then ?_
   refine c_ret ?_
   refine d_ret_block ?_
   refine d_ret_then ?_
   refine d_ret_then ?_
   replace hm := Option.some.inj hm
   subst hm
   refine d_sta _ (fun W h => ok_frontR (t := 100400) (t' := 2000) h rfl) ?_
   refine d_retC (A159, c160) Try.results41 ?_ hc160 (fun W h => ((h.dropH (t := 100030) rfl).dropH (t := 100020) rfl).phi (fun W hφ => hφ)) (.inr rfl)
   refine res_tmp ?_
   refine res_tmp ?_
   refine res_nil ?_
   exact rfl
 ·
  unfold m_plog_Save_j1 at hm
  refine d_flat [(2, .pointer (some ⟨g1, 0, none⟩)), (3, .pointer (some ⟨g2, 0, none⟩)), (6, .int .i64 x3)] ⟨rfl, rfl, rfl, trivial⟩ (fun u => ?_)
  refine d_sta ⟨w0, M, (100030, g2, .cells #[.int .i64 p1.fTerm, .int .i64 p1.fVote, .slice Ap1_0 p1.fVoters.length cp1_0, .string p1.fSnap, .int .i64 p1.fLog.fBase, .int .i64 p1.fLog.fBaseTerm, .slice Ap1_1 p1.fLog.fEntries.length cp1_1] 44 (0, 0)) :: (100020, g1, .cells #[.int .i64 p0.fTerm, .int .i64 p0.fVote, .slice Ap0_0 p0.fVoters.length cp0_0, .string p0.fSnap, .int .i64 p0.fLog.fBase, .int .i64 p0.fLog.fBaseTerm, .slice Ap0_1 p0.fLog.fEntries.length cp0_1] 44 (0, 0)) :: H, R, φ⟩ (fun _ h => h) ?_
  refine d_then ?_
  refine c_seq ?_
  refine c_region ?_
  refine g_v rfl r_assign ?_
  refine g_nil ?_
  refine d_then ?_
  refine c_seq ?_
  refine c_sta _ (fun W h => nilR h 6 9 1) ?_
  refine c_cut (ι := (List ByteArray) × Option Addr × Nat) [3, 6, 7] (fun ⟨l210, A211, c212⟩ => [(7, .slice A211 l210.length c212)]) (fun ⟨l210, A211, c212⟩ => ⟨w0, M, (100030, g2, .cells #[.int .i64 p1.fTerm, .int .i64 p1.fVote, .slice Ap1_0 p1.fVoters.length cp1_0, .string p1.fSnap, .int .i64 p1.fLog.fBase, .int .i64 p1.fLog.fBaseTerm, .slice Ap1_1 p1.fLog.fEntries.length cp1_1] 44 (0, 0)) :: H, (6, ⟨.slice A211 l210.length c212, 9, 1, l210.length, l210.flatMap (fun x : ByteArray => [Value.string x])⟩) :: R, φ⟩) (fun ⟨l210, A211, c212⟩ => m_plog_Save_j2 p1 x3 l210 = some r ∧ l210.length ≤ c212) ?_ (fun ⟨l210, A211, c212⟩ u ⟨hm, hc212⟩ => ?_)
  ·
   refine c_seq ?_
   refine c_region ?_
   refine g_v rfl (r_field (n := 0) Try.underlying44 rfl Try.sizeOf3 rfl rfl) ?_
   refine g_v rfl (r_load (tag := 100020) rfl rfl rfl Try.isAgg3) ?_
   refine g_v rfl (r_field (n := 0) Try.underlying44 rfl Try.sizeOf3 rfl rfl) ?_
   refine g_v rfl (r_load (tag := 100030) rfl rfl rfl Try.isAgg3) ?_
   refine g_v rfl (r_neq rfl rfl) ?_
   refine g_v rfl r_move ?_
   refine g_if rfl rfl rfl rfl rfl (fun h221 => ?_) (fun h221 => ?_)
   ·
    replace hm := ite_f hm (of_decide_eq_false h221)
    refine g_v rfl (r_field (n := 1) Try.underlying44 rfl Try.sizeOf3 rfl rfl) ?_
    refine g_do rfl rfl rfl rfl rfl h221 ?_
    refine g_v rfl (r_load (tag := 100020) rfl rfl rfl Try.isAgg3) ?_
    refine g_do rfl rfl rfl rfl rfl h221 ?_
    refine g_v rfl (r_field (n := 1) Try.underlying44 rfl Try.sizeOf3 rfl rfl) ?_
    refine g_do rfl rfl rfl rfl rfl h221 ?_
    refine g_v rfl (r_load (tag := 100030) rfl rfl rfl Try.isAgg3) ?_
    refine g_do rfl rfl rfl rfl rfl h221 ?_
    refine g_v rfl (r_neq rfl rfl) ?_
    refine g_v rfl (r_pick0 rfl h221) ?_
    refine g_nil ?_
    refine d_then ?_
    refine c_flat [(3, .pointer (some ⟨g2, 0, none⟩)), (6, .int .i64 x3), (7, .slice none 0 0), (77, .bool (decide (p0.fVote ≠ p1.fVote)))] ⟨rfl, rfl, rfl, rfl, trivial⟩ (fun u => ?_)
    refine c_sta ⟨w0, M, (100030, g2, .cells #[.int .i64 p1.fTerm, .int .i64 p1.fVote, .slice Ap1_0 p1.fVoters.length cp1_0, .string p1.fSnap, .int .i64 p1.fLog.fBase, .int .i64 p1.fLog.fBaseTerm, .slice Ap1_1 p1.fLog.fEntries.length cp1_1] 44 (0, 0)) :: (100020, g1, .cells #[.int .i64 p0.fTerm, .int .i64 p0.fVote, .slice Ap0_0 p0.fVoters.length cp0_0, .string p0.fSnap, .int .i64 p0.fLog.fBase, .int .i64 p0.fLog.fBaseTerm, .slice Ap0_1 p0.fLog.fEntries.length cp0_1] 44 (0, 0)) :: H, (6, ⟨.slice none 0 0, 9, 1, 0, []⟩) :: R, φ⟩ (fun _ h => h) ?_
    refine c_cond rfl (fun h222 => ?_) (fun h222 => ?_)
    ·
     replace hm := ite_t hm (of_decide_eq_true h222)
     refine c_region ?_
     refine g_v rfl r_move ?_
     refine g_e rfl (e_lit (tag := 100790) (l := [84]) (enc := (fun x : Int => [Value.int .u8 x])) (sz := 1) rfl Try.underlying95 (lit5_13 _) rfl rfl (fun _ => rfl)) (fun g223 _ => ?_)
     refine g_v rfl (r_field (n := 0) Try.underlying44 rfl Try.sizeOf3 rfl rfl) ?_
     refine g_v rfl (r_load (tag := 100030) rfl rfl rfl Try.isAgg3) ?_
     refine g_v rfl (r_field (n := 1) Try.underlying44 rfl Try.sizeOf3 rfl rfl) ?_
     refine g_v rfl (r_load (tag := 100030) rfl rfl rfl Try.isAgg3) ?_
     refine g_e rfl (e_lit (tag := 100840) (l := [p1.fTerm, p1.fVote]) (enc := (fun x : Int => [Value.int .i64 x])) (sz := 1) rfl Try.underlying42 (lit3_12 _ _) rfl rfl (fun _ => rfl)) (fun g224 _ => ?_)
     replace hm := bnd hm
     obtain ⟨x225, hx226, hm⟩ := hm
     refine g_cn ⟨w0, M, (100030, g2, .cells #[.int .i64 p1.fTerm, .int .i64 p1.fVote, .slice Ap1_0 p1.fVoters.length cp1_0, .string p1.fSnap, .int .i64 p1.fLog.fBase, .int .i64 p1.fLog.fBaseTerm, .slice Ap1_1 p1.fLog.fEntries.length cp1_1] 44 (0, 0)) :: (100020, g1, .cells #[.int .i64 p0.fTerm, .int .i64 p0.fVote, .slice Ap0_0 p0.fVoters.length cp0_0, .string p0.fSnap, .int .i64 p0.fLog.fBase, .int .i64 p0.fLog.fBaseTerm, .slice Ap0_1 p0.fLog.fEntries.length cp0_1] 44 (0, 0)) :: H, (1000, ⟨.slice (some ⟨g223, 0, none⟩) [84].length 1, 5, 1, [84].length, [84].flatMap (fun x : Int => [Value.int .u8 x])⟩) :: (100840, ⟨.slice (some ⟨g224, 0, none⟩) [p1.fTerm, p1.fVote].length 2, 3, 1, [p1.fTerm, p1.fVote].length, [p1.fTerm, p1.fVote].flatMap (fun x : Int => [Value.int .i64 x])⟩) :: (6, ⟨.slice none 0 0, 9, 1, 0, []⟩) :: R, φ⟩ (fun W h => (ok_frontR (t := 100790) (t' := 1000) h rfl)) Try.call81 rfl rfl (c_plog_numbers [84] (some ⟨g223, 0, none⟩) 1 (Nat.le_refl _) [p1.fTerm, p1.fVote] (some ⟨g224, 0, none⟩) 2 (Nat.le_refl _) (fun W hS => rowCl (tag := 100840) rfl W hS) _ hx226) (fun ⟨A227, c228⟩ hc228 => ?_)
     refine g_sta _ (fun W h => ok_frontR (t := 2000) (t' := 100850) h rfl) ?_
     refine g_v rfl (r_textE Try.underlying95 Try.underlying5 Try.underlying9 rfl (fun W hS => rowCl (tag := 100850) rfl W hS)) ?_
     refine g_e rfl (e_lit (tag := 100870) (l := [strOfNums x225]) (enc := (fun x : ByteArray => [Value.string x])) (sz := 1) rfl Try.underlying58 (lit9_14 _) rfl rfl (fun _ => rfl)) (fun g230 _ => ?_)
     replace hm := bnd hm
     obtain ⟨l231, hl231, hm⟩ := hm
     refine g_e rfl (e_appR (enc := (fun x : ByteArray => [Value.string x])) (l := []) (l1 := [strOfNums x225]) (l2 := l231) (tag := 6) Try.underlying58 inf9_15 rfl (by decide) (by decide) (fun _ => rfl) (fun _ => rfl) rfl (Nat.le_refl 0) rfl rfl (fun W hS => rowCl (tag := 100870) rfl W hS) hl231) (fun ⟨A232, c233⟩ hc233 => ?_)
     refine g_v rfl r_assign ?_
     refine g_nil ?_
     exact d_round (l231, A232, c233) ⟨hm, hc233⟩ Nat.zero_lt_one ⟨rfl, rfl, rfl, trivial⟩ (fun W h => (((((((h.shut (t := 100870) rfl).phi (fun _ hh => hh.1)).shut (t := 100850) rfl).phi (fun _ hh => hh.1)).shut (t := 100840) rfl).phi (fun _ hh => hh.1)).dropH (t := 100020) rfl).phi (fun W hφ => hφ))
    ·
     replace hm := ite_f hm (of_decide_eq_false h222)
     refine c_skip ?_
     exact d_round (([] : List ByteArray), none, 0) ⟨hm, (Nat.le_refl 0)⟩ Nat.zero_lt_one ⟨rfl, rfl, rfl, trivial⟩ (fun W h => (h.dropH (t := 100020) rfl).phi (fun W hφ => hφ))
   ·
    replace hm := ite_t hm (of_decide_eq_true h221)
    refine g_no rfl rfl rfl rfl rfl h221 ?_
    refine g_no rfl rfl rfl rfl rfl h221 ?_
    refine g_no rfl rfl rfl rfl rfl h221 ?_
    refine g_no rfl rfl rfl rfl rfl h221 ?_
    refine g_v rfl (r_pick1 rfl h221) ?_
    refine g_nil ?_
    refine d_then ?_
    refine c_cond1 rfl rfl ?_
    refine c_region ?_
    refine g_v rfl r_move ?_
    refine g_e rfl (e_lit (tag := 100790) (l := [84]) (enc := (fun x : Int => [Value.int .u8 x])) (sz := 1) rfl Try.underlying95 (lit5_13 _) rfl rfl (fun _ => rfl)) (fun g234 _ => ?_)
    refine g_v rfl (r_field (n := 0) Try.underlying44 rfl Try.sizeOf3 rfl rfl) ?_
    refine g_v rfl (r_load (tag := 100030) rfl rfl rfl Try.isAgg3) ?_
    refine g_v rfl (r_field (n := 1) Try.underlying44 rfl Try.sizeOf3 rfl rfl) ?_
    refine g_v rfl (r_load (tag := 100030) rfl rfl rfl Try.isAgg3) ?_
    refine g_e rfl (e_lit (tag := 100840) (l := [p1.fTerm, p1.fVote]) (enc := (fun x : Int => [Value.int .i64 x])) (sz := 1) rfl Try.underlying42 (lit3_12 _ _) rfl rfl (fun _ => rfl)) (fun g235 _ => ?_)
    replace hm := bnd hm
    obtain ⟨x236, hx237, hm⟩ := hm
    refine g_cn ⟨w0, M, (100030, g2, .cells #[.int .i64 p1.fTerm, .int .i64 p1.fVote, .slice Ap1_0 p1.fVoters.length cp1_0, .string p1.fSnap, .int .i64 p1.fLog.fBase, .int .i64 p1.fLog.fBaseTerm, .slice Ap1_1 p1.fLog.fEntries.length cp1_1] 44 (0, 0)) :: (100020, g1, .cells #[.int .i64 p0.fTerm, .int .i64 p0.fVote, .slice Ap0_0 p0.fVoters.length cp0_0, .string p0.fSnap, .int .i64 p0.fLog.fBase, .int .i64 p0.fLog.fBaseTerm, .slice Ap0_1 p0.fLog.fEntries.length cp0_1] 44 (0, 0)) :: H, (1000, ⟨.slice (some ⟨g234, 0, none⟩) [84].length 1, 5, 1, [84].length, [84].flatMap (fun x : Int => [Value.int .u8 x])⟩) :: (100840, ⟨.slice (some ⟨g235, 0, none⟩) [p1.fTerm, p1.fVote].length 2, 3, 1, [p1.fTerm, p1.fVote].length, [p1.fTerm, p1.fVote].flatMap (fun x : Int => [Value.int .i64 x])⟩) :: (6, ⟨.slice none 0 0, 9, 1, 0, []⟩) :: R, φ⟩ (fun W h => (ok_frontR (t := 100790) (t' := 1000) h rfl)) Try.call81 rfl rfl (c_plog_numbers [84] (some ⟨g234, 0, none⟩) 1 (Nat.le_refl _) [p1.fTerm, p1.fVote] (some ⟨g235, 0, none⟩) 2 (Nat.le_refl _) (fun W hS => rowCl (tag := 100840) rfl W hS) _ hx237) (fun ⟨A238, c239⟩ hc239 => ?_)
    refine g_sta _ (fun W h => ok_frontR (t := 2000) (t' := 100850) h rfl) ?_
    refine g_v rfl (r_textE Try.underlying95 Try.underlying5 Try.underlying9 rfl (fun W hS => rowCl (tag := 100850) rfl W hS)) ?_
    refine g_e rfl (e_lit (tag := 100870) (l := [strOfNums x236]) (enc := (fun x : ByteArray => [Value.string x])) (sz := 1) rfl Try.underlying58 (lit9_14 _) rfl rfl (fun _ => rfl)) (fun g241 _ => ?_)
    replace hm := bnd hm
    obtain ⟨l242, hl242, hm⟩ := hm
    refine g_e rfl (e_appR (enc := (fun x : ByteArray => [Value.string x])) (l := []) (l1 := [strOfNums x236]) (l2 := l242) (tag := 6) Try.underlying58 inf9_15 rfl (by decide) (by decide) (fun _ => rfl) (fun _ => rfl) rfl (Nat.le_refl 0) rfl rfl (fun W hS => rowCl (tag := 100870) rfl W hS) hl242) (fun ⟨A243, c244⟩ hc244 => ?_)
    refine g_v rfl r_assign ?_
    refine g_nil ?_
    exact d_round (l242, A243, c244) ⟨hm, hc244⟩ Nat.zero_lt_one ⟨rfl, rfl, rfl, trivial⟩ (fun W h => (((((((h.shut (t := 100870) rfl).phi (fun _ hh => hh.1)).shut (t := 100850) rfl).phi (fun _ hh => hh.1)).shut (t := 100840) rfl).phi (fun _ hh => hh.1)).dropH (t := 100020) rfl).phi (fun W hφ => hφ))
  ·
   unfold m_plog_Save_j2 at hm
   refine d_flat [(3, .pointer (some ⟨g2, 0, none⟩)), (6, .int .i64 x3), (7, .slice A211 l210.length c212)] ⟨rfl, rfl, rfl, trivial⟩ (fun u => ?_)
   refine d_sta ⟨w0, M, (100030, g2, .cells #[.int .i64 p1.fTerm, .int .i64 p1.fVote, .slice Ap1_0 p1.fVoters.length cp1_0, .string p1.fSnap, .int .i64 p1.fLog.fBase, .int .i64 p1.fLog.fBaseTerm, .slice Ap1_1 p1.fLog.fEntries.length cp1_1] 44 (0, 0)) :: H, (6, ⟨.slice A211 l210.length c212, 9, 1, l210.length, l210.flatMap (fun x : ByteArray => [Value.string x])⟩) :: R, φ⟩ (fun _ h => h) ?_
   refine d_then ?_
   refine c_seq ?_
   refine c_region ?_
   refine g_v rfl r_move ?_
   refine g_v rfl (r_field (n := 4) Try.underlying44 rfl Try.sizeOf26 rfl rfl) ?_
   refine g_v rfl (r_loadA (tag := 100030) rfl rfl Try.isAgg26 Try.sizeOf26 rfl rfl) ?_
   refine g_v rfl r_move ?_
   replace hm := bnd hm
   obtain ⟨x245, hx246, hm⟩ := hm
   refine g_cn ⟨w0, M, _, _, φ⟩ (fun _ h => h) Try.call82 rfl rfl (c_plog_entries p1.fLog Ap1_1 cp1_1 hcp1_1 (fun W hS => fp1_1 W (ok_pre (H1 := [_]) (R1 := [_]) hS (fun W h => h))) x3 _ hx246) (fun ⟨A247, c248⟩ hc248 => ?_)
   refine g_sta _ (fun W h => ok_frontR (t := 2000) (t' := 100930) h rfl) ?_
   replace hm := bnd hm
   obtain ⟨l250, hl250, hm⟩ := hm
   refine g_e rfl (e_appR (enc := (fun x : ByteArray => [Value.string x])) (l := l210) (l1 := x245) (l2 := l250) (tag := 6) Try.underlying58 inf9_15 rfl (by decide) (by decide) (fun _ => rfl) (fun _ => rfl) rfl hc212 rfl rfl (fun W hS => rowCl (tag := 100930) rfl W hS) hl250) (fun ⟨A251, c252⟩ hc252 => ?_)
   refine g_v rfl r_assign ?_
   refine g_v rfl r_assign ?_
   refine g_nil ?_
   refine d_then ?_
   refine c_ret ?_
   replace hm := Option.some.inj hm
   subst hm
   refine d_sta _ (fun W h => ok_frontR (t := 6) (t' := 2000) h rfl) ?_
   refine d_retC (A251, c252) Try.results41 ?_ hc252 (fun W h => (((h.shut (t := 100930) rfl).phi (fun _ hh => hh.1)).dropH (t := 100030) rfl).phi (fun W hφ => hφ)) (.inr rfl)
   refine res_tmp ?_
   refine res_tmp ?_
   refine res_nil ?_
   exact rfl

noncomputable def m_ref11_number_s2 (p0 : Int) (l90 : List Int) (i93 : Int) : Option (((List Int) × Int) ⊕ (List Int)) :=
  if 0 ≤ i93 then
    (shOk (IntKind.u64.wrap i93)).bind fun u113 =>
    (app 1 l90 [IntKind.u8.wrap (shrI .i64 p0 (IntKind.u64.wrap i93))]).bind fun l115 =>
    some (.inl (l115, w64 (i93 - 8)))
  else
    some (.inr l90)
noncomputable def m_ref11_number_j1  (l79 : List Int) : Option ByteArray :=
  some (strOfNums l79)
noncomputable def m_ref11_number (p0 : Int) : Option ByteArray :=
  (loop (fun s => m_ref11_number_s2 p0 s.1 s.2) (([] : List Int), 56)).bind fun e => m_ref11_number_j1 e
theorem c_ref11_number {w0 : World} {M : Nat → Prop} {H : List (Nat × Nat × Obj)} {R : List (Nat × Row)} {φ : World → Prop} (p0 : Int) (r : ByteArray) (hm : m_ref11_number p0 = some r) :
    Cn Try.prog 84 #[.int .i64 p0] ⟨w0, M, H, R, φ⟩ (fun x : Unit => .string r) (fun x => True) (fun x => ⟨w0, M, H, R, φ⟩) := by
 unfold m_ref11_number at hm
 refine cn_intro (fn := Try.f84) (N := 19) Try.func84 rfl Try.ntmps84 rfl ?_
 refine c_seq ?_
 refine c_region ?_
 refine g_v rfl r_assign ?_
 refine g_nil ?_
 refine d_then ?_
 refine c_seq ?_
 refine c_region ?_
 refine g_v rfl r_assign ?_
 refine g_nil ?_
 refine d_then ?_
 refine c_seq ?_
 refine c_seq ?_
 refine c_region ?_
 refine g_v rfl r_assign ?_
 refine g_nil ?_
 refine d_then ?_
 refine c_sta _ (fun W h => nilR h 3 5 1) ?_
 refine c_cut (ι := (List Int) × Option Addr × Nat) [3] (fun ⟨l79, A80, c81⟩ => [(3, .slice A80 l79.length c81)]) (fun ⟨l79, A80, c81⟩ => ⟨w0, M, H, (3, ⟨.slice A80 l79.length c81, 5, 1, l79.length, l79.flatMap (fun x : Int => [Value.int .u8 x])⟩) :: R, φ⟩) (fun ⟨l79, A80, c81⟩ => m_ref11_number_j1 l79 = some r ∧ l79.length ≤ c81) ?_ (fun ⟨l79, A80, c81⟩ u ⟨hm, hc81⟩ => ?_)
 ·
  refine c_block ?_
  replace hm := bnd hm
  obtain ⟨out2, hl2, hr2⟩ := hm
  obtain ⟨n104', hl2⟩ := loop_lp hl2
  refine c_loopU (ι := Nat × (List Int) × Int × Option Addr × Nat) [0, 3, 4] (fun ⟨n104, l90, i93, A91, c92⟩ => [(3, .slice A91 l90.length c92), (4, .int .i64 i93)]) (fun ⟨n104, l90, i93, A91, c92⟩ => ⟨w0, M, H, (3, ⟨.slice A91 l90.length c92, 5, 1, l90.length, l90.flatMap (fun x : Int => [Value.int .u8 x])⟩) :: R, φ⟩) (fun ⟨n104, l90, i93, A91, c92⟩ => Lp (fun s => m_ref11_number_s2 p0 s.1 s.2) n104 (l90, i93) out2 ∧ l90.length ≤ c92) (fun ⟨n104, l90, i93, A91, c92⟩ => n104) (n104', ([] : List Int), 56, none, 0) ⟨hl2, (Nat.le_refl 0)⟩ ⟨rfl, rfl, rfl, trivial⟩ (fun W h => h.phi (fun W hφ => hφ)) (fun ⟨n104, l90, i93, A91, c92⟩ u ⟨hlp, hc92⟩ => ?_)
  obtain ⟨o2, hm, hnx2⟩ := lp_step hlp
  clear hlp
  replace hm : m_ref11_number_s2 p0 l90 i93 = some o2 := hm
  unfold m_ref11_number_s2 at hm
  refine c_flat [(0, .int .i64 p0), (3, .slice A91 l90.length c92), (4, .int .i64 i93)] ⟨rfl, rfl, rfl, trivial⟩ (fun u => ?_)
  refine c_sta ⟨w0, M, H, (3, ⟨.slice A91 l90.length c92, 5, 1, l90.length, l90.flatMap (fun x : Int => [Value.int .u8 x])⟩) :: R, φ⟩ (fun _ h => h) ?_
  refine c_seq ?_
  refine c_seq ?_
  refine c_region ?_
  refine g_v rfl r_move ?_
  refine g_v rfl (r_geq rfl rfl) ?_
  refine g_nil ?_
  refine d_then ?_
  refine c_cond rfl (fun h112 => ?_) (fun h112 => ?_)
  ·
   replace hm := ite_t hm (of_decide_eq_true h112)
   refine c_skip ?_
   refine d_then ?_
   refine c_seq ?_
   refine c_block ?_
   refine c_region ?_
   refine g_v rfl r_move ?_
   refine g_v rfl r_move ?_
   refine g_v rfl r_move ?_
   refine g_v rfl (r_conv Try.underlying3 Try.underlying129 rfl rfl) ?_
   replace hm := bnd hm
   obtain ⟨u113, hu113, hm⟩ := hm
   refine g_v rfl (r_shrV rfl rfl hu113) ?_
   refine g_v rfl (r_conv Try.underlying3 Try.underlying5 rfl rfl) ?_
   refine g_e rfl (e_lit (tag := 100150) (l := [IntKind.u8.wrap (shrI .i64 p0 (IntKind.u64.wrap i93))]) (enc := (fun x : Int => [Value.int .u8 x])) (sz := 1) rfl Try.underlying95 (lit5_13 _) rfl rfl (fun _ => rfl)) (fun g114 _ => ?_)
   replace hm := bnd hm
   obtain ⟨l115, hl115, hm⟩ := hm
   refine g_e rfl (e_appR (enc := (fun x : Int => [Value.int .u8 x])) (l := l90) (l1 := [IntKind.u8.wrap (shrI .i64 p0 (IntKind.u64.wrap i93))]) (l2 := l115) (tag := 3) Try.underlying95 inf5_4 rfl (by decide) (by decide) (fun _ => rfl) (fun _ => rfl) rfl hc92 rfl rfl (fun W hS => rowCl (tag := 100150) rfl W hS) hl115) (fun ⟨A116, c117⟩ hc117 => ?_)
   refine g_v rfl r_assign ?_
   refine g_nil ?_
   refine d_normal_block ?_
   refine d_then ?_
   refine c_flat [(0, .int .i64 p0), (3, .slice A116 l115.length c117), (4, .int .i64 i93)] ⟨rfl, rfl, rfl, trivial⟩ (fun u => ?_)
   refine c_sta ⟨w0, M, H, (100150, ⟨.slice (some ⟨g114, 0, none⟩) [IntKind.u8.wrap (shrI .i64 p0 (IntKind.u64.wrap i93))].length 1, 5, 1, [IntKind.u8.wrap (shrI .i64 p0 (IntKind.u64.wrap i93))].length, [IntKind.u8.wrap (shrI .i64 p0 (IntKind.u64.wrap i93))].flatMap (fun x : Int => [Value.int .u8 x])⟩) :: (3, ⟨.slice A116 l115.length c117, 5, 1, l115.length, l115.flatMap (fun x : Int => [Value.int .u8 x])⟩) :: R, φ⟩ (fun _ h => h) ?_
   refine c_region ?_
   refine g_v rfl r_move ?_
   refine g_v rfl (r_sub rfl rfl rfl) ?_
   refine g_v rfl r_assign ?_
   refine g_nil ?_
   obtain ⟨n118, hn118, hlp⟩ := nx_inl hm hnx2
   exact d_round (n118, l115, w64 (i93 - 8), A116, c117) ⟨hlp, hc117⟩ hn118 ⟨rfl, rfl, rfl, trivial⟩ (fun W h => ((h.shut (t := 100150) rfl).phi (fun _ hh => hh.1)).phi (fun W hφ => hφ))
  ·
   replace hm := ite_f hm (of_decide_eq_false h112)
   refine c_exit ?_
   refine d_exit_then ?_
   refine d_exit_then ?_
   refine d_exit_block ?_
   replace hm := nx_out (C := (fun e => m_ref11_number_j1 e = some r)) hm hnx2 hr2
   exact d_round (l90, A91, c92) ⟨hm, hc92⟩ Nat.zero_lt_one ⟨rfl, trivial⟩ (fun W h => h.phi (fun W hφ => hφ))
 ·
  unfold m_ref11_number_j1 at hm
  refine d_flat [(3, .slice A80 l79.length c81)] ⟨rfl, trivial⟩ (fun u => ?_)
  refine d_sta ⟨w0, M, H, (3, ⟨.slice A80 l79.length c81, 5, 1, l79.length, l79.flatMap (fun x : Int => [Value.int .u8 x])⟩) :: R, φ⟩ (fun _ h => h) ?_
  refine d_then ?_
  refine c_seq ?_
  refine c_region ?_
  refine g_v rfl r_move ?_
  refine g_v rfl (r_textE Try.underlying95 Try.underlying5 Try.underlying9 rfl (fun W hS => rowCl (tag := 3) rfl W hS)) ?_
  refine g_v rfl r_assign ?_
  refine g_nil ?_
  refine d_then ?_
  refine c_ret ?_
  replace hm := Option.some.inj hm
  subst hm
  refine d_retC () Try.results84 ?_ trivial (fun W h => ok_pre (H1 := []) (R1 := [_]) h (fun W hφ => hφ)) (.inr rfl)
  refine res_tmp ?_
  refine res_nil ?_
  exact rfl

noncomputable def m_ref11_entry (p0 : GLog) (p1 : Int) : Option ByteArray :=
  (at_ p0.fEntries p1).bind fun x2 =>
  (m_ref11_number (w64 ((w64 (p0.fBase + 1)) + p1))).bind fun x73 =>
  (sadd (⟨#[69]⟩ : ByteArray) x73).bind fun s76 =>
  (m_ref11_number x2.fTerm).bind fun x77 =>
  (sadd s76 x77).bind fun s79 =>
  (sadd s79 (strOfNums [IntKind.u8.wrap x2.fKind])).bind fun s81 =>
  (sadd s81 x2.fData).bind fun s82 =>
  some s82
theorem c_ref11_entry {w0 : World} {M : Nat → Prop} {H : List (Nat × Nat × Obj)} {R : List (Nat × Row)} {φ : World → Prop} (p0 : GLog) (Ap0_0 : Option Addr) (cp0_0 : Nat) (hcp0_0 : p0.fEntries.length ≤ cp0_0) (fp0_0 : ∀ W, (Sta.mk w0 M H R φ).ok W → Cl W Ap0_0 (p0.fEntries.flatMap GEntry.enc)) (p1 : Int) (r : ByteArray) (hm : m_ref11_entry p0 p1 = some r) :
    Cn Try.prog 85 #[.agg #[.int .i64 p0.fBase, .int .i64 p0.fBaseTerm, .slice Ap0_0 p0.fEntries.length cp0_0], .int .i64 p1] ⟨w0, M, H, R, φ⟩ (fun x : Unit => .string r) (fun x => True) (fun x => ⟨w0, M, H, R, φ⟩) := by
 unfold m_ref11_entry at hm
 refine cn_intro (fn := Try.f85) (N := 31) Try.func85 rfl Try.ntmps85 rfl ?_
 refine c_seq ?_
 refine c_region ?_
 refine g_e rfl (e_box 100020 rfl) (fun g1 _ => ?_)
 refine g_v rfl r_assign ?_
 refine g_nil ?_
 refine d_then ?_
 refine c_seq ?_
 refine c_region ?_
 refine g_v rfl (r_field (n := 2) Try.underlying26 rfl Try.sizeOf24 rfl rfl) ?_
 refine g_v rfl (r_load (tag := 100020) rfl rfl rfl Try.isAgg24) ?_
 refine g_v rfl r_move ?_
 replace hm := bnd hm
 obtain ⟨x2, hx2, hm⟩ := hm
 refine g_know _ (fun W hS => cl_at (p := (Sta.mk w0 M H R φ).ok) (sz := 3) (fun _ => rfl) (by decide) (ok_pre (H1 := [_]) (R1 := []) hS (fun W h => h)) fp0_0 hx2) ?_
 rintro ⟨ad3, hA5, f4⟩
 refine g_v rfl (r_ix Try.underlying24 Try.sizeOf35 rfl hA5 rfl hx2) ?_
 refine g_v rfl (r_ldA rfl Try.isAgg35 Try.sizeOf35 (fun W hS => (f4 W (ok_pre (H1 := [_]) (R1 := []) hS (fun W h => h))).take 3) rfl) ?_
 refine g_e rfl (e_alloc 100050 Try.zeroValue35) (fun g6 _ => ?_)
 refine g_storeL (tag := 100050) rfl rfl rfl rfl Try.sizeOf35 rfl rfl ?_
 refine g_nil ?_
 refine d_then ?_
 refine c_flat [(1, .int .i64 p1), (2, .pointer (some ⟨g1, 0, none⟩)), (5, .pointer (some ⟨g6, 0, none⟩))] ⟨rfl, rfl, rfl, trivial⟩ (fun u => ?_)
 refine c_sta ⟨w0, M, (100050, g6, .cells #[.int .i64 x2.fTerm, .int .i64 x2.fKind, .string x2.fData] 35 (0, 0)) :: (100020, g1, .cells #[.int .i64 p0.fBase, .int .i64 p0.fBaseTerm, .slice Ap0_0 p0.fEntries.length cp0_0] 26 (0, 0)) :: H, R, φ⟩ (fun _ h => h) ?_
 refine c_seq ?_
 refine ga_start (n := 21) ⟨w0, M, (100050, g6, .cells #[.int .i64 x2.fTerm, .int .i64 x2.fKind, .string x2.fData] 35 (0, 0)) :: (100020, g1, .cells #[.int .i64 p0.fBase, .int .i64 p0.fBaseTerm, .slice Ap0_0 p0.fEntries.length cp0_0] 26 (0, 0)) :: H, R, φ⟩ [] #[false, false, false, false, false, false, false, false, false, false, false, false, false, false, false, false, false, false, false, false, false] (fun W h => h.phi (fun W hφ => hφ)) mixed rfl rfl ?_
 refine ga_v (i := 0) #[true, false, false, false, false, false, false, false, false, false, false, false, false, false, false, false, false, false, false, false, false] rfl (by kernel_rfl) (fun _ _ _ _ h => h) rfl (r_field (n := 0) Try.underlying26 rfl Try.sizeOf3 rfl rfl) ?_
 refine ga_v (i := 1) #[true, true, false, false, false, false, false, false, false, false, false, false, false, false, false, false, false, false, false, false, false] rfl (by kernel_rfl) (fun _ _ _ _ h => h) rfl (r_load (tag := 100020) rfl rfl rfl Try.isAgg3) ?_
 refine ga_v (i := 2) #[true, true, true, false, false, false, false, false, false, false, false, false, false, false, false, false, false, false, false, false, false] rfl (by kernel_rfl) (fun _ _ _ _ h => h) rfl (r_add rfl rfl rfl) ?_
 refine ga_v (i := 3) #[true, true, true, true, false, false, false, false, false, false, false, false, false, false, false, false, false, false, false, false, false] rfl (by kernel_rfl) (fun _ _ _ _ h => h) rfl (r_move) ?_
 refine ga_v (i := 4) #[true, true, true, true, true, false, false, false, false, false, false, false, false, false, false, false, false, false, false, false, false] rfl (by kernel_rfl) (fun _ _ _ _ h => h) rfl (r_add rfl rfl rfl) ?_
 refine ga_v (i := 7) #[true, true, true, true, true, false, false, true, false, false, false, false, false, false, false, false, false, false, false, false, false] rfl (by kernel_rfl) (fun _ _ _ _ h => h) rfl (r_field (n := 0) Try.underlying35 rfl Try.sizeOf3 rfl rfl) ?_
 refine ga_v (i := 8) #[true, true, true, true, true, false, false, true, true, false, false, false, false, false, false, false, false, false, false, false, false] rfl (by kernel_rfl) (fun _ _ _ _ h => h) rfl (r_load (tag := 100050) rfl rfl rfl Try.isAgg3) ?_
 refine ga_v (i := 11) #[true, true, true, true, true, false, false, true, true, false, false, true, false, false, false, false, false, false, false, false, false] rfl (by kernel_rfl) (fun _ _ _ _ h => h) rfl (r_field (n := 1) Try.underlying35 rfl Try.sizeOf3 rfl rfl) ?_
 refine ga_v (i := 12) #[true, true, true, true, true, false, false, true, true, false, false, true, true, false, false, false, false, false, false, false, false] rfl (by kernel_rfl) (fun _ _ _ _ h => h) rfl (r_load (tag := 100050) rfl rfl rfl Try.isAgg3) ?_
 refine ga_v (i := 13) #[true, true, true, true, true, false, false, true, true, false, false, true, true, true, false, false, false, false, false, false, false] rfl (by kernel_rfl) (fun _ _ _ _ h => h) rfl (r_conv Try.underlying3 Try.underlying5 rfl rfl) ?_
 refine ga_v (i := 17) #[true, true, true, true, true, false, false, true, true, false, false, true, true, true, false, false, false, true, false, false, false] rfl (by kernel_rfl) (fun _ _ _ _ h => h) rfl (r_field (n := 2) Try.underlying35 rfl Try.sizeOf9 rfl rfl) ?_
 refine ga_v (i := 18) #[true, true, true, true, true, false, false, true, true, false, false, true, true, true, false, false, false, true, true, false, false] rfl (by kernel_rfl) (fun _ _ _ _ h => h) rfl (r_load (tag := 100050) rfl rfl rfl Try.isAgg9) ?_
 replace hm := bnd hm
 obtain ⟨x73, hx74, hm⟩ := hm
 refine ga_two (i := 5) (j := 14) #[true, true, true, true, true, true, false, true, true, false, false, true, true, true, false, false, false, true, true, false, false] #[true, true, true, true, true, false, false, true, true, false, false, true, true, true, true, false, false, true, true, false, false] rfl rfl (by kernel_rfl) (by decide) (by decide) ?_ ?_
 ·
  refine ex_cn (first := #[]) ⟨w0, M, _, _, φ⟩ (fun _ h => h) Try.call84 rfl rfl rfl (c_ref11_number (w64 ((w64 (p0.fBase + 1)) + p1)) _ hx74) (fun _ W _ h => h.phi (fun W hφ => hφ)) (fun _ _ => ?_)
  replace hm := bnd hm
  obtain ⟨s76, hs76, hm⟩ := hm
  refine ga_v (i := 6) #[true, true, true, true, true, true, true, true, true, false, false, true, true, true, false, false, false, true, true, false, false] rfl (by kernel_rfl) (fun _ _ _ _ h => h) rfl (r_addT rfl rfl hs76) ?_
  replace hm := bnd hm
  obtain ⟨x77, hx78, hm⟩ := hm
  refine ga_two (i := 9) (j := 14) #[true, true, true, true, true, true, true, true, true, true, false, true, true, true, false, false, false, true, true, false, false] #[true, true, true, true, true, true, true, true, true, false, false, true, true, true, true, false, false, true, true, false, false] rfl rfl (by kernel_rfl) (by decide) (by decide) ?_ ?_
  ·
   refine ex_cn (first := #[]) ⟨w0, M, _, _, φ⟩ (fun _ h => h) Try.call84 rfl rfl rfl (c_ref11_number x2.fTerm _ hx78) (fun _ W _ h => h.phi (fun W hφ => hφ)) (fun _ _ => ?_)
   replace hm := bnd hm
   obtain ⟨s79, hs79, hm⟩ := hm
   refine ga_v (i := 10) #[true, true, true, true, true, true, true, true, true, true, true, true, true, true, false, false, false, true, true, false, false] rfl (by kernel_rfl) (fun _ _ _ _ h => h) rfl (r_addT rfl rfl hs79) ?_
   refine ga_e (i := 14) #[true, true, true, true, true, true, true, true, true, true, true, true, true, true, true, false, false, true, true, false, false] rfl (by kernel_rfl) (by decide) rfl  (e_lit (tag := 100250) (l := [IntKind.u8.wrap x2.fKind]) (enc := (fun x : Int => [Value.int .u8 x])) (sz := 1) rfl Try.underlying95 (lit5_13 _) rfl rfl (fun _ => rfl)) (fun g80 W _ h => ((h.shut (t := 100250) rfl).phi (fun _ hh => hh.1)).phi (fun W hφ => hφ)) (fun g80 _ => ?_)
   refine ga_r (i := 15) #[true, true, true, true, true, true, true, true, true, true, true, true, true, true, true, true, false, true, true, false, false] rfl (by kernel_rfl) (by decide) rfl (r_textE Try.underlying95 Try.underlying5 Try.underlying9 rfl (fun W hS => rowCl (tag := 100250) rfl W hS)) ?_
   replace hm := bnd hm
   obtain ⟨s81, hs81, hm⟩ := hm
   refine ga_r (i := 16) #[true, true, true, true, true, true, true, true, true, true, true, true, true, true, true, true, true, true, true, false, false] rfl (by kernel_rfl) (by decide) rfl (r_addT rfl rfl hs81) ?_
   replace hm := bnd hm
   obtain ⟨s82, hs82, hm⟩ := hm
   refine ga_r (i := 19) #[true, true, true, true, true, true, true, true, true, true, true, true, true, true, true, true, true, true, true, true, false] rfl (by kernel_rfl) (by decide) rfl (r_addT rfl rfl hs82) ?_
   refine ga_r (i := 20) #[true, true, true, true, true, true, true, true, true, true, true, true, true, true, true, true, true, true, true, true, true] rfl (by kernel_rfl) (by decide) rfl (r_assign) ?_
   refine ga_done (by kernel_rfl) ?_
   refine d_then ?_
   refine c_flat [(4, .string s82)] ⟨rfl, trivial⟩ (fun u => ?_)
   refine c_sta ⟨w0, M, (100050, g6, .cells #[.int .i64 x2.fTerm, .int .i64 x2.fKind, .string x2.fData] 35 (0, 0)) :: (100020, g1, .cells #[.int .i64 p0.fBase, .int .i64 p0.fBaseTerm, .slice Ap0_0 p0.fEntries.length cp0_0] 26 (0, 0)) :: H, (100250, ⟨.slice (some ⟨g80, 0, none⟩) [IntKind.u8.wrap x2.fKind].length 1, 5, 1, [IntKind.u8.wrap x2.fKind].length, [IntKind.u8.wrap x2.fKind].flatMap (fun x : Int => [Value.int .u8 x])⟩) :: R, φ⟩ (fun _ h => h) ?_
   refine c_ret ?_
   replace hm := Option.some.inj hm
   subst hm
   refine d_retC () Try.results85 ?_ trivial (fun W h => ok_pre (H1 := [_, _]) (R1 := [_]) h (fun W hφ => hφ)) (.inr rfl)
   refine res_tmp ?_
   refine res_nil ?_
   exact rfl
  ·
   refine ex_e rfl (e_lit (tag := 100250) (l := [IntKind.u8.wrap x2.fKind]) (enc := (fun x : Int => [Value.int .u8 x])) (sz := 1) rfl Try.underlying95 (lit5_13 _) rfl rfl (fun _ => rfl)) (fun g83 W _ h => ((h.shut (t := 100250) rfl).phi (fun _ hh => hh.1)).phi (fun W hφ => hφ)) (fun g83 _ => ?_)
   refine ga_two (i := 9) (j := 15) #[true, true, true, true, true, true, true, true, true, true, false, true, true, true, true, false, false, true, true, false, false] #[true, true, true, true, true, true, true, true, true, false, false, true, true, true, true, true, false, true, true, false, false] rfl rfl (by kernel_rfl) (by decide) (by decide) ?_ ?_
   ·
    refine ex_cn (first := #[]) ⟨w0, M, _, _, φ⟩ (fun _ h => h) Try.call84 rfl rfl rfl (c_ref11_number x2.fTerm _ hx78) (fun _ W _ h => ((h.shut (t := 100250) rfl).phi (fun _ hh => hh.1)).phi (fun W hφ => hφ)) (fun _ _ => ?_)
    replace hm := bnd hm
    obtain ⟨s84, hs84, hm⟩ := hm
    refine ga_v (i := 10) #[true, true, true, true, true, true, true, true, true, true, true, true, true, true, true, false, false, true, true, false, false] rfl (by kernel_rfl) (fun _ _ _ _ h => h) rfl (r_addT rfl rfl hs84) ?_
    refine ga_r (i := 15) #[true, true, true, true, true, true, true, true, true, true, true, true, true, true, true, true, false, true, true, false, false] rfl (by kernel_rfl) (by decide) rfl (r_textE Try.underlying95 Try.underlying5 Try.underlying9 rfl (fun W hS => rowCl (tag := 100250) rfl W hS)) ?_
    replace hm := bnd hm
    obtain ⟨s85, hs85, hm⟩ := hm
    refine ga_r (i := 16) #[true, true, true, true, true, true, true, true, true, true, true, true, true, true, true, true, true, true, true, false, false] rfl (by kernel_rfl) (by decide) rfl (r_addT rfl rfl hs85) ?_
    replace hm := bnd hm
    obtain ⟨s86, hs86, hm⟩ := hm
    refine ga_r (i := 19) #[true, true, true, true, true, true, true, true, true, true, true, true, true, true, true, true, true, true, true, true, false] rfl (by kernel_rfl) (by decide) rfl (r_addT rfl rfl hs86) ?_
    refine ga_r (i := 20) #[true, true, true, true, true, true, true, true, true, true, true, true, true, true, true, true, true, true, true, true, true] rfl (by kernel_rfl) (by decide) rfl (r_assign) ?_
    refine ga_done (by kernel_rfl) ?_
    refine d_then ?_
    refine c_flat [(4, .string s86)] ⟨rfl, trivial⟩ (fun u => ?_)
    refine c_sta ⟨w0, M, (100050, g6, .cells #[.int .i64 x2.fTerm, .int .i64 x2.fKind, .string x2.fData] 35 (0, 0)) :: (100020, g1, .cells #[.int .i64 p0.fBase, .int .i64 p0.fBaseTerm, .slice Ap0_0 p0.fEntries.length cp0_0] 26 (0, 0)) :: H, (100250, ⟨.slice (some ⟨g83, 0, none⟩) [IntKind.u8.wrap x2.fKind].length 1, 5, 1, [IntKind.u8.wrap x2.fKind].length, [IntKind.u8.wrap x2.fKind].flatMap (fun x : Int => [Value.int .u8 x])⟩) :: R, φ⟩ (fun _ h => h) ?_
    refine c_ret ?_
    replace hm := Option.some.inj hm
    subst hm
    refine d_retC () Try.results85 ?_ trivial (fun W h => ok_pre (H1 := [_, _]) (R1 := [_]) h (fun W hφ => hφ)) (.inr rfl)
    refine res_tmp ?_
    refine res_nil ?_
    exact rfl
   ·
    refine ex_r rfl (r_textE Try.underlying95 Try.underlying5 Try.underlying9 rfl (fun W hS => rowCl (tag := 100250) rfl W hS)) ?_
    refine ga_cn (first := #[]) (i := 9) #[true, true, true, true, true, true, true, true, true, true, false, true, true, true, true, true, false, true, true, false, false] rfl (by kernel_rfl) (by decide)  ⟨w0, M, _, _, φ⟩ (fun _ h => h) Try.call84 rfl rfl rfl (c_ref11_number x2.fTerm _ hx78) (fun _ W _ h => ((h.shut (t := 100250) rfl).phi (fun _ hh => hh.1)).phi (fun W hφ => hφ)) (fun _ _ => ?_)
    replace hm := bnd hm
    obtain ⟨s87, hs87, hm⟩ := hm
    refine ga_r (i := 10) #[true, true, true, true, true, true, true, true, true, true, true, true, true, true, true, true, false, true, true, false, false] rfl (by kernel_rfl) (by decide) rfl (r_addT rfl rfl hs87) ?_
    replace hm := bnd hm
    obtain ⟨s88, hs88, hm⟩ := hm
    refine ga_r (i := 16) #[true, true, true, true, true, true, true, true, true, true, true, true, true, true, true, true, true, true, true, false, false] rfl (by kernel_rfl) (by decide) rfl (r_addT rfl rfl hs88) ?_
    replace hm := bnd hm
    obtain ⟨s89, hs89, hm⟩ := hm
    refine ga_r (i := 19) #[true, true, true, true, true, true, true, true, true, true, true, true, true, true, true, true, true, true, true, true, false] rfl (by kernel_rfl) (by decide) rfl (r_addT rfl rfl hs89) ?_
    refine ga_r (i := 20) #[true, true, true, true, true, true, true, true, true, true, true, true, true, true, true, true, true, true, true, true, true] rfl (by kernel_rfl) (by decide) rfl (r_assign) ?_
    refine ga_done (by kernel_rfl) ?_
    refine d_then ?_
    refine c_flat [(4, .string s89)] ⟨rfl, trivial⟩ (fun u => ?_)
    refine c_sta ⟨w0, M, (100050, g6, .cells #[.int .i64 x2.fTerm, .int .i64 x2.fKind, .string x2.fData] 35 (0, 0)) :: (100020, g1, .cells #[.int .i64 p0.fBase, .int .i64 p0.fBaseTerm, .slice Ap0_0 p0.fEntries.length cp0_0] 26 (0, 0)) :: H, (100250, ⟨.slice (some ⟨g83, 0, none⟩) [IntKind.u8.wrap x2.fKind].length 1, 5, 1, [IntKind.u8.wrap x2.fKind].length, [IntKind.u8.wrap x2.fKind].flatMap (fun x : Int => [Value.int .u8 x])⟩) :: R, φ⟩ (fun _ h => h) ?_
    refine c_ret ?_
    replace hm := Option.some.inj hm
    subst hm
    refine d_retC () Try.results85 ?_ trivial (fun W h => ok_pre (H1 := [_, _]) (R1 := [_]) h (fun W hφ => hφ)) (.inr rfl)
    refine res_tmp ?_
    refine res_nil ?_
    exact rfl
 ·
  refine ex_e rfl (e_lit (tag := 100250) (l := [IntKind.u8.wrap x2.fKind]) (enc := (fun x : Int => [Value.int .u8 x])) (sz := 1) rfl Try.underlying95 (lit5_13 _) rfl rfl (fun _ => rfl)) (fun g90 W _ h => ((h.shut (t := 100250) rfl).phi (fun _ hh => hh.1)).phi (fun W hφ => hφ)) (fun g90 _ => ?_)
  refine ga_two (i := 5) (j := 15) #[true, true, true, true, true, true, false, true, true, false, false, true, true, true, true, false, false, true, true, false, false] #[true, true, true, true, true, false, false, true, true, false, false, true, true, true, true, true, false, true, true, false, false] rfl rfl (by kernel_rfl) (by decide) (by decide) ?_ ?_
  ·
   refine ex_cn (first := #[]) ⟨w0, M, _, _, φ⟩ (fun _ h => h) Try.call84 rfl rfl rfl (c_ref11_number (w64 ((w64 (p0.fBase + 1)) + p1)) _ hx74) (fun _ W _ h => ((h.shut (t := 100250) rfl).phi (fun _ hh => hh.1)).phi (fun W hφ => hφ)) (fun _ _ => ?_)
   replace hm := bnd hm
   obtain ⟨s91, hs91, hm⟩ := hm
   refine ga_v (i := 6) #[true, true, true, true, true, true, true, true, true, false, false, true, true, true, true, false, false, true, true, false, false] rfl (by kernel_rfl) (fun _ _ _ _ h => h) rfl (r_addT rfl rfl hs91) ?_
   replace hm := bnd hm
   obtain ⟨x92, hx93, hm⟩ := hm
   refine ga_two (i := 9) (j := 15) #[true, true, true, true, true, true, true, true, true, true, false, true, true, true, true, false, false, true, true, false, false] #[true, true, true, true, true, true, true, true, true, false, false, true, true, true, true, true, false, true, true, false, false] rfl rfl (by kernel_rfl) (by decide) (by decide) ?_ ?_
   ·
    refine ex_cn (first := #[]) ⟨w0, M, _, _, φ⟩ (fun _ h => h) Try.call84 rfl rfl rfl (c_ref11_number x2.fTerm _ hx93) (fun _ W _ h => ((h.shut (t := 100250) rfl).phi (fun _ hh => hh.1)).phi (fun W hφ => hφ)) (fun _ _ => ?_)
    replace hm := bnd hm
    obtain ⟨s94, hs94, hm⟩ := hm
    refine ga_v (i := 10) #[true, true, true, true, true, true, true, true, true, true, true, true, true, true, true, false, false, true, true, false, false] rfl (by kernel_rfl) (fun _ _ _ _ h => h) rfl (r_addT rfl rfl hs94) ?_
    refine ga_r (i := 15) #[true, true, true, true, true, true, true, true, true, true, true, true, true, true, true, true, false, true, true, false, false] rfl (by kernel_rfl) (by decide) rfl (r_textE Try.underlying95 Try.underlying5 Try.underlying9 rfl (fun W hS => rowCl (tag := 100250) rfl W hS)) ?_
    replace hm := bnd hm
    obtain ⟨s95, hs95, hm⟩ := hm
    refine ga_r (i := 16) #[true, true, true, true, true, true, true, true, true, true, true, true, true, true, true, true, true, true, true, false, false] rfl (by kernel_rfl) (by decide) rfl (r_addT rfl rfl hs95) ?_
    replace hm := bnd hm
    obtain ⟨s96, hs96, hm⟩ := hm
    refine ga_r (i := 19) #[true, true, true, true, true, true, true, true, true, true, true, true, true, true, true, true, true, true, true, true, false] rfl (by kernel_rfl) (by decide) rfl (r_addT rfl rfl hs96) ?_
    refine ga_r (i := 20) #[true, true, true, true, true, true, true, true, true, true, true, true, true, true, true, true, true, true, true, true, true] rfl (by kernel_rfl) (by decide) rfl (r_assign) ?_
    refine ga_done (by kernel_rfl) ?_
    refine d_then ?_
    refine c_flat [(4, .string s96)] ⟨rfl, trivial⟩ (fun u => ?_)
    refine c_sta ⟨w0, M, (100050, g6, .cells #[.int .i64 x2.fTerm, .int .i64 x2.fKind, .string x2.fData] 35 (0, 0)) :: (100020, g1, .cells #[.int .i64 p0.fBase, .int .i64 p0.fBaseTerm, .slice Ap0_0 p0.fEntries.length cp0_0] 26 (0, 0)) :: H, (100250, ⟨.slice (some ⟨g90, 0, none⟩) [IntKind.u8.wrap x2.fKind].length 1, 5, 1, [IntKind.u8.wrap x2.fKind].length, [IntKind.u8.wrap x2.fKind].flatMap (fun x : Int => [Value.int .u8 x])⟩) :: R, φ⟩ (fun _ h => h) ?_
    refine c_ret ?_
    replace hm := Option.some.inj hm
    subst hm
    refine d_retC () Try.results85 ?_ trivial (fun W h => ok_pre (H1 := [_, _]) (R1 := [_]) h (fun W hφ => hφ)) (.inr rfl)
    refine res_tmp ?_
    refine res_nil ?_
    exact rfl
   ·
    refine ex_r rfl (r_textE Try.underlying95 Try.underlying5 Try.underlying9 rfl (fun W hS => rowCl (tag := 100250) rfl W hS)) ?_
    refine ga_cn (first := #[]) (i := 9) #[true, true, true, true, true, true, true, true, true, true, false, true, true, true, true, true, false, true, true, false, false] rfl (by kernel_rfl) (by decide)  ⟨w0, M, _, _, φ⟩ (fun _ h => h) Try.call84 rfl rfl rfl (c_ref11_number x2.fTerm _ hx93) (fun _ W _ h => ((h.shut (t := 100250) rfl).phi (fun _ hh => hh.1)).phi (fun W hφ => hφ)) (fun _ _ => ?_)
    replace hm := bnd hm
    obtain ⟨s97, hs97, hm⟩ := hm
    refine ga_r (i := 10) #[true, true, true, true, true, true, true, true, true, true, true, true, true, true, true, true, false, true, true, false, false] rfl (by kernel_rfl) (by decide) rfl (r_addT rfl rfl hs97) ?_
    replace hm := bnd hm
    obtain ⟨s98, hs98, hm⟩ := hm
    refine ga_r (i := 16) #[true, true, true, true, true, true, true, true, true, true, true, true, true, true, true, true, true, true, true, false, false] rfl (by kernel_rfl) (by decide) rfl (r_addT rfl rfl hs98) ?_
    replace hm := bnd hm
    obtain ⟨s99, hs99, hm⟩ := hm
    refine ga_r (i := 19) #[true, true, true, true, true, true, true, true, true, true, true, true, true, true, true, true, true, true, true, true, false] rfl (by kernel_rfl) (by decide) rfl (r_addT rfl rfl hs99) ?_
    refine ga_r (i := 20) #[true, true, true, true, true, true, true, true, true, true, true, true, true, true, true, true, true, true, true, true, true] rfl (by kernel_rfl) (by decide) rfl (r_assign) ?_
    refine ga_done (by kernel_rfl) ?_
    refine d_then ?_
    refine c_flat [(4, .string s99)] ⟨rfl, trivial⟩ (fun u => ?_)
    refine c_sta ⟨w0, M, (100050, g6, .cells #[.int .i64 x2.fTerm, .int .i64 x2.fKind, .string x2.fData] 35 (0, 0)) :: (100020, g1, .cells #[.int .i64 p0.fBase, .int .i64 p0.fBaseTerm, .slice Ap0_0 p0.fEntries.length cp0_0] 26 (0, 0)) :: H, (100250, ⟨.slice (some ⟨g90, 0, none⟩) [IntKind.u8.wrap x2.fKind].length 1, 5, 1, [IntKind.u8.wrap x2.fKind].length, [IntKind.u8.wrap x2.fKind].flatMap (fun x : Int => [Value.int .u8 x])⟩) :: R, φ⟩ (fun _ h => h) ?_
    refine c_ret ?_
    replace hm := Option.some.inj hm
    subst hm
    refine d_retC () Try.results85 ?_ trivial (fun W h => ok_pre (H1 := [_, _]) (R1 := [_]) h (fun W hφ => hφ)) (.inr rfl)
    refine res_tmp ?_
    refine res_nil ?_
    exact rfl
  ·
   refine ex_r rfl (r_textE Try.underlying95 Try.underlying5 Try.underlying9 rfl (fun W hS => rowCl (tag := 100250) rfl W hS)) ?_
   refine ga_cn (first := #[]) (i := 5) #[true, true, true, true, true, true, false, true, true, false, false, true, true, true, true, true, false, true, true, false, false] rfl (by kernel_rfl) (by decide)  ⟨w0, M, _, _, φ⟩ (fun _ h => h) Try.call84 rfl rfl rfl (c_ref11_number (w64 ((w64 (p0.fBase + 1)) + p1)) _ hx74) (fun _ W _ h => ((h.shut (t := 100250) rfl).phi (fun _ hh => hh.1)).phi (fun W hφ => hφ)) (fun _ _ => ?_)
   replace hm := bnd hm
   obtain ⟨s100, hs100, hm⟩ := hm
   refine ga_v (i := 6) #[true, true, true, true, true, true, true, true, true, false, false, true, true, true, true, true, false, true, true, false, false] rfl (by kernel_rfl) (fun _ _ _ _ h => h) rfl (r_addT rfl rfl hs100) ?_
   replace hm := bnd hm
   obtain ⟨x101, hx102, hm⟩ := hm
   refine ga_cn (first := #[]) (i := 9) #[true, true, true, true, true, true, true, true, true, true, false, true, true, true, true, true, false, true, true, false, false] rfl (by kernel_rfl) (by decide)  ⟨w0, M, _, _, φ⟩ (fun _ h => h) Try.call84 rfl rfl rfl (c_ref11_number x2.fTerm _ hx102) (fun _ W _ h => ((h.shut (t := 100250) rfl).phi (fun _ hh => hh.1)).phi (fun W hφ => hφ)) (fun _ _ => ?_)
   replace hm := bnd hm
   obtain ⟨s103, hs103, hm⟩ := hm
   refine ga_r (i := 10) #[true, true, true, true, true, true, true, true, true, true, true, true, true, true, true, true, false, true, true, false, false] rfl (by kernel_rfl) (by decide) rfl (r_addT rfl rfl hs103) ?_
   replace hm := bnd hm
   obtain ⟨s104, hs104, hm⟩ := hm
   refine ga_r (i := 16) #[true, true, true, true, true, true, true, true, true, true, true, true, true, true, true, true, true, true, true, false, false] rfl (by kernel_rfl) (by decide) rfl (r_addT rfl rfl hs104) ?_
   replace hm := bnd hm
   obtain ⟨s105, hs105, hm⟩ := hm
   refine ga_r (i := 19) #[true, true, true, true, true, true, true, true, true, true, true, true, true, true, true, true, true, true, true, true, false] rfl (by kernel_rfl) (by decide) rfl (r_addT rfl rfl hs105) ?_
   refine ga_r (i := 20) #[true, true, true, true, true, true, true, true, true, true, true, true, true, true, true, true, true, true, true, true, true] rfl (by kernel_rfl) (by decide) rfl (r_assign) ?_
   refine ga_done (by kernel_rfl) ?_
   refine d_then ?_
   refine c_flat [(4, .string s105)] ⟨rfl, trivial⟩ (fun u => ?_)
   refine c_sta ⟨w0, M, (100050, g6, .cells #[.int .i64 x2.fTerm, .int .i64 x2.fKind, .string x2.fData] 35 (0, 0)) :: (100020, g1, .cells #[.int .i64 p0.fBase, .int .i64 p0.fBaseTerm, .slice Ap0_0 p0.fEntries.length cp0_0] 26 (0, 0)) :: H, (100250, ⟨.slice (some ⟨g90, 0, none⟩) [IntKind.u8.wrap x2.fKind].length 1, 5, 1, [IntKind.u8.wrap x2.fKind].length, [IntKind.u8.wrap x2.fKind].flatMap (fun x : Int => [Value.int .u8 x])⟩) :: R, φ⟩ (fun _ h => h) ?_
   refine c_ret ?_
   replace hm := Option.some.inj hm
   subst hm
   refine d_retC () Try.results85 ?_ trivial (fun W h => ok_pre (H1 := [_, _]) (R1 := [_]) h (fun W hφ => hφ)) (.inr rfl)
   refine res_tmp ?_
   refine res_nil ?_
   exact rfl

noncomputable def m_ref11_whole_s2 (p0 : GHard) (l128 : List ByteArray) (i131 : Int) : Option (((List ByteArray) × Int) ⊕ (List ByteArray)) :=
  if i131 < (p0.fLog.fEntries.length : Int) then
    (m_ref11_entry p0.fLog i131).bind fun x153 =>
    (app 16 l128 [x153]).bind fun l156 =>
    some (.inl (l156, w64 (i131 + 1)))
  else
    some (.inr l128)
noncomputable def m_ref11_whole_j1  (l114 : List ByteArray) : Option (List ByteArray) :=
  some l114
noncomputable def m_ref11_whole (p0 : GHard) : Option (List ByteArray) :=
  (m_ref11_number p0.fTerm).bind fun x48 =>
  (sadd (⟨#[87]⟩ : ByteArray) x48).bind fun s50 =>
  (m_ref11_number p0.fVote).bind fun x51 =>
  (sadd s50 x51).bind fun s53 =>
  (m_ref11_number p0.fLog.fBase).bind fun x54 =>
  (sadd s53 x54).bind fun s56 =>
  (m_ref11_number p0.fLog.fBaseTerm).bind fun x57 =>
  (sadd s56 x57).bind fun s59 =>
  (m_ref11_number (p0.fVoters.length : Int)).bind fun x60 =>
  (sadd s59 x60).bind fun s62 =>
  (m_ref11_Data p0.fVoters).bind fun x63 =>
  (sadd s62 x63).bind fun s65 =>
  (m_ref11_number (p0.fSnap.size : Int)).bind fun x66 =>
  (sadd s65 x66).bind fun s68 =>
  (sadd s68 p0.fSnap).bind fun s69 =>
  (loop (fun s => m_ref11_whole_s2 p0 s.1 s.2) ([s69], 0)).bind fun e => m_ref11_whole_j1 e
theorem c_ref11_whole {w0 : World} {M : Nat → Prop} {H : List (Nat × Nat × Obj)} {R : List (Nat × Row)} {φ : World → Prop} (p0 : GHard) (Ap0_0 : Option Addr) (cp0_0 : Nat) (hcp0_0 : p0.fVoters.length ≤ cp0_0) (fp0_0 : ∀ W, (Sta.mk w0 M H R φ).ok W → Cl W Ap0_0 (p0.fVoters.flatMap (fun x : Int => [Value.int .i64 x]))) (Ap0_1 : Option Addr) (cp0_1 : Nat) (hcp0_1 : p0.fLog.fEntries.length ≤ cp0_1) (fp0_1 : ∀ W, (Sta.mk w0 M H R φ).ok W → Cl W Ap0_1 (p0.fLog.fEntries.flatMap GEntry.enc)) (r : (List ByteArray)) (hm : m_ref11_whole p0 = some r) :
    Cn Try.prog 83 #[.agg #[.int .i64 p0.fTerm, .int .i64 p0.fVote, .slice Ap0_0 p0.fVoters.length cp0_0, .string p0.fSnap, .int .i64 p0.fLog.fBase, .int .i64 p0.fLog.fBaseTerm, .slice Ap0_1 p0.fLog.fEntries.length cp0_1]] ⟨w0, M, H, R, φ⟩ (fun x : Option Addr × Nat => .slice x.1 r.length x.2) (fun x => r.length ≤ x.2) (fun x => ⟨w0, M, H, (2000, ⟨.slice x.1 r.length x.2, 9, 1, r.length, r.flatMap (fun x : ByteArray => [Value.string x])⟩) :: R, φ⟩) := by
 unfold m_ref11_whole at hm
 refine cn_intro (fn := Try.f83) (N := 57) Try.func83 rfl Try.ntmps83 rfl ?_
 refine c_seq ?_
 refine c_region ?_
 refine g_e rfl (e_box 100010 rfl) (fun g1 _ => ?_)
 refine g_v rfl r_assign ?_
 refine g_nil ?_
 refine d_then ?_
 refine c_seq ?_
 refine ga_start (n := 37) ⟨w0, M, (100010, g1, .cells #[.int .i64 p0.fTerm, .int .i64 p0.fVote, .slice Ap0_0 p0.fVoters.length cp0_0, .string p0.fSnap, .int .i64 p0.fLog.fBase, .int .i64 p0.fLog.fBaseTerm, .slice Ap0_1 p0.fLog.fEntries.length cp0_1] 44 (0, 0)) :: H, R, φ⟩ [] #[false, false, false, false, false, false, false, false, false, false, false, false, false, false, false, false, false, false, false, false, false, false, false, false, false, false, false, false, false, false, false, false, false, false, false, false, false] (fun W h => h.phi (fun W hφ => hφ)) mixed rfl rfl ?_
 refine ga_v (i := 0) #[true, false, false, false, false, false, false, false, false, false, false, false, false, false, false, false, false, false, false, false, false, false, false, false, false, false, false, false, false, false, false, false, false, false, false, false, false] rfl (by kernel_rfl) (fun _ _ _ _ h => h) rfl (r_field (n := 0) Try.underlying44 rfl Try.sizeOf3 rfl rfl) ?_
 refine ga_v (i := 1) #[true, true, false, false, false, false, false, false, false, false, false, false, false, false, false, false, false, false, false, false, false, false, false, false, false, false, false, false, false, false, false, false, false, false, false, false, false] rfl (by kernel_rfl) (fun _ _ _ _ h => h) rfl (r_load (tag := 100010) rfl rfl rfl Try.isAgg3) ?_
 refine ga_v (i := 4) #[true, true, false, false, true, false, false, false, false, false, false, false, false, false, false, false, false, false, false, false, false, false, false, false, false, false, false, false, false, false, false, false, false, false, false, false, false] rfl (by kernel_rfl) (fun _ _ _ _ h => h) rfl (r_field (n := 1) Try.underlying44 rfl Try.sizeOf3 rfl rfl) ?_
 refine ga_v (i := 5) #[true, true, false, false, true, true, false, false, false, false, false, false, false, false, false, false, false, false, false, false, false, false, false, false, false, false, false, false, false, false, false, false, false, false, false, false, false] rfl (by kernel_rfl) (fun _ _ _ _ h => h) rfl (r_load (tag := 100010) rfl rfl rfl Try.isAgg3) ?_
 refine ga_v (i := 8) #[true, true, false, false, true, true, false, false, true, false, false, false, false, false, false, false, false, false, false, false, false, false, false, false, false, false, false, false, false, false, false, false, false, false, false, false, false] rfl (by kernel_rfl) (fun _ _ _ _ h => h) rfl (r_field (n := 4) Try.underlying44 rfl Try.sizeOf26 rfl rfl) ?_
 refine ga_v (i := 9) #[true, true, false, false, true, true, false, false, true, true, false, false, false, false, false, false, false, false, false, false, false, false, false, false, false, false, false, false, false, false, false, false, false, false, false, false, false] rfl (by kernel_rfl) (fun _ _ _ _ h => h) rfl (r_field (n := 4) Try.underlying26 rfl Try.sizeOf3 rfl rfl) ?_
 refine ga_v (i := 10) #[true, true, false, false, true, true, false, false, true, true, true, false, false, false, false, false, false, false, false, false, false, false, false, false, false, false, false, false, false, false, false, false, false, false, false, false, false] rfl (by kernel_rfl) (fun _ _ _ _ h => h) rfl (r_load (tag := 100010) rfl rfl rfl Try.isAgg3) ?_
 refine ga_v (i := 13) #[true, true, false, false, true, true, false, false, true, true, true, false, false, true, false, false, false, false, false, false, false, false, false, false, false, false, false, false, false, false, false, false, false, false, false, false, false] rfl (by kernel_rfl) (fun _ _ _ _ h => h) rfl (r_field (n := 4) Try.underlying44 rfl Try.sizeOf26 rfl rfl) ?_
 refine ga_v (i := 14) #[true, true, false, false, true, true, false, false, true, true, true, false, false, true, true, false, false, false, false, false, false, false, false, false, false, false, false, false, false, false, false, false, false, false, false, false, false] rfl (by kernel_rfl) (fun _ _ _ _ h => h) rfl (r_field (n := 5) Try.underlying26 rfl Try.sizeOf3 rfl rfl) ?_
 refine ga_v (i := 15) #[true, true, false, false, true, true, false, false, true, true, true, false, false, true, true, true, false, false, false, false, false, false, false, false, false, false, false, false, false, false, false, false, false, false, false, false, false] rfl (by kernel_rfl) (fun _ _ _ _ h => h) rfl (r_load (tag := 100010) rfl rfl rfl Try.isAgg3) ?_
 refine ga_v (i := 18) #[true, true, false, false, true, true, false, false, true, true, true, false, false, true, true, true, false, false, true, false, false, false, false, false, false, false, false, false, false, false, false, false, false, false, false, false, false] rfl (by kernel_rfl) (fun _ _ _ _ h => h) rfl (r_field (n := 2) Try.underlying44 rfl Try.sizeOf42 rfl rfl) ?_
 refine ga_v (i := 19) #[true, true, false, false, true, true, false, false, true, true, true, false, false, true, true, true, false, false, true, true, false, false, false, false, false, false, false, false, false, false, false, false, false, false, false, false, false] rfl (by kernel_rfl) (fun _ _ _ _ h => h) rfl (r_load (tag := 100010) rfl rfl rfl Try.isAgg42) ?_
 refine ga_v (i := 20) #[true, true, false, false, true, true, false, false, true, true, true, false, false, true, true, true, false, false, true, true, true, false, false, false, false, false, false, false, false, false, false, false, false, false, false, false, false] rfl (by kernel_rfl) (fun _ _ _ _ h => h) rfl (r_lenL Try.underlying42 rfl) ?_
 refine ga_v (i := 23) #[true, true, false, false, true, true, false, false, true, true, true, false, false, true, true, true, false, false, true, true, true, false, false, true, false, false, false, false, false, false, false, false, false, false, false, false, false] rfl (by kernel_rfl) (fun _ _ _ _ h => h) rfl (r_field (n := 2) Try.underlying44 rfl Try.sizeOf42 rfl rfl) ?_
 refine ga_v (i := 24) #[true, true, false, false, true, true, false, false, true, true, true, false, false, true, true, true, false, false, true, true, true, false, false, true, true, false, false, false, false, false, false, false, false, false, false, false, false] rfl (by kernel_rfl) (fun _ _ _ _ h => h) rfl (r_load (tag := 100010) rfl rfl rfl Try.isAgg42) ?_
 refine ga_v (i := 27) #[true, true, false, false, true, true, false, false, true, true, true, false, false, true, true, true, false, false, true, true, true, false, false, true, true, false, false, true, false, false, false, false, false, false, false, false, false] rfl (by kernel_rfl) (fun _ _ _ _ h => h) rfl (r_field (n := 3) Try.underlying44 rfl Try.sizeOf9 rfl rfl) ?_
 refine ga_v (i := 28) #[true, true, false, false, true, true, false, false, true, true, true, false, false, true, true, true, false, false, true, true, true, false, false, true, true, false, false, true, true, false, false, false, false, false, false, false, false] rfl (by kernel_rfl) (fun _ _ _ _ h => h) rfl (r_load (tag := 100010) rfl rfl rfl Try.isAgg9) ?_
 refine ga_v (i := 29) #[true, true, false, false, true, true, false, false, true, true, true, false, false, true, true, true, false, false, true, true, true, false, false, true, true, false, false, true, true, true, false, false, false, false, false, false, false] rfl (by kernel_rfl) (fun _ _ _ _ h => h) rfl (r_len Try.underlying9 rfl) ?_
 refine ga_v (i := 32) #[true, true, false, false, true, true, false, false, true, true, true, false, false, true, true, true, false, false, true, true, true, false, false, true, true, false, false, true, true, true, false, false, true, false, false, false, false] rfl (by kernel_rfl) (fun _ _ _ _ h => h) rfl (r_field (n := 3) Try.underlying44 rfl Try.sizeOf9 rfl rfl) ?_
 refine ga_v (i := 33) #[true, true, false, false, true, true, false, false, true, true, true, false, false, true, true, true, false, false, true, true, true, false, false, true, true, false, false, true, true, true, false, false, true, true, false, false, false] rfl (by kernel_rfl) (fun _ _ _ _ h => h) rfl (r_load (tag := 100010) rfl rfl rfl Try.isAgg9) ?_
 replace hm := bnd hm
 obtain ⟨x48, hx49, hm⟩ := hm
 refine ga_cn (first := #[]) (i := 2) #[true, true, true, false, true, true, false, false, true, true, true, false, false, true, true, true, false, false, true, true, true, false, false, true, true, false, false, true, true, true, false, false, true, true, false, false, false] rfl (by kernel_rfl) (by decide)  ⟨w0, M, _, _, φ⟩ (fun _ h => h) Try.call84 rfl rfl rfl (c_ref11_number p0.fTerm _ hx49) (fun _ W _ h => h.phi (fun W hφ => hφ)) (fun _ _ => ?_)
 replace hm := bnd hm
 obtain ⟨s50, hs50, hm⟩ := hm
 refine ga_v (i := 3) #[true, true, true, true, true, true, false, false, true, true, true, false, false, true, true, true, false, false, true, true, true, false, false, true, true, false, false, true, true, true, false, false, true, true, false, false, false] rfl (by kernel_rfl) (fun _ _ _ _ h => h) rfl (r_addT rfl rfl hs50) ?_
 replace hm := bnd hm
 obtain ⟨x51, hx52, hm⟩ := hm
 refine ga_cn (first := #[]) (i := 6) #[true, true, true, true, true, true, true, false, true, true, true, false, false, true, true, true, false, false, true, true, true, false, false, true, true, false, false, true, true, true, false, false, true, true, false, false, false] rfl (by kernel_rfl) (by decide)  ⟨w0, M, _, _, φ⟩ (fun _ h => h) Try.call84 rfl rfl rfl (c_ref11_number p0.fVote _ hx52) (fun _ W _ h => h.phi (fun W hφ => hφ)) (fun _ _ => ?_)
 replace hm := bnd hm
 obtain ⟨s53, hs53, hm⟩ := hm
 refine ga_v (i := 7) #[true, true, true, true, true, true, true, true, true, true, true, false, false, true, true, true, false, false, true, true, true, false, false, true, true, false, false, true, true, true, false, false, true, true, false, false, false] rfl (by kernel_rfl) (fun _ _ _ _ h => h) rfl (r_addT rfl rfl hs53) ?_
 replace hm := bnd hm
 obtain ⟨x54, hx55, hm⟩ := hm
 refine ga_cn (first := #[]) (i := 11) #[true, true, true, true, true, true, true, true, true, true, true, true, false, true, true, true, false, false, true, true, true, false, false, true, true, false, false, true, true, true, false, false, true, true, false, false, false] rfl (by kernel_rfl) (by decide)  ⟨w0, M, _, _, φ⟩ (fun _ h => h) Try.call84 rfl rfl rfl (c_ref11_number p0.fLog.fBase _ hx55) (fun _ W _ h => h.phi (fun W hφ => hφ)) (fun _ _ => ?_)
 replace hm := bnd hm
 obtain ⟨s56, hs56, hm⟩ := hm
 refine ga_v (i := 12) #[true, true, true, true, true, true, true, true, true, true, true, true, true, true, true, true, false, false, true, true, true, false, false, true, true, false, false, true, true, true, false, false, true, true, false, false, false] rfl (by kernel_rfl) (fun _ _ _ _ h => h) rfl (r_addT rfl rfl hs56) ?_
 replace hm := bnd hm
 obtain ⟨x57, hx58, hm⟩ := hm
 refine ga_cn (first := #[]) (i := 16) #[true, true, true, true, true, true, true, true, true, true, true, true, true, true, true, true, true, false, true, true, true, false, false, true, true, false, false, true, true, true, false, false, true, true, false, false, false] rfl (by kernel_rfl) (by decide)  ⟨w0, M, _, _, φ⟩ (fun _ h => h) Try.call84 rfl rfl rfl (c_ref11_number p0.fLog.fBaseTerm _ hx58) (fun _ W _ h => h.phi (fun W hφ => hφ)) (fun _ _ => ?_)
 replace hm := bnd hm
 obtain ⟨s59, hs59, hm⟩ := hm
 refine ga_v (i := 17) #[true, true, true, true, true, true, true, true, true, true, true, true, true, true, true, true, true, true, true, true, true, false, false, true, true, false, false, true, true, true, false, false, true, true, false, false, false] rfl (by kernel_rfl) (fun _ _ _ _ h => h) rfl (r_addT rfl rfl hs59) ?_
 replace hm := bnd hm
 obtain ⟨x60, hx61, hm⟩ := hm
 refine ga_cn (first := #[]) (i := 21) #[true, true, true, true, true, true, true, true, true, true, true, true, true, true, true, true, true, true, true, true, true, true, false, true, true, false, false, true, true, true, false, false, true, true, false, false, false] rfl (by kernel_rfl) (by decide)  ⟨w0, M, _, _, φ⟩ (fun _ h => h) Try.call84 rfl rfl rfl (c_ref11_number (p0.fVoters.length : Int) _ hx61) (fun _ W _ h => h.phi (fun W hφ => hφ)) (fun _ _ => ?_)
 replace hm := bnd hm
 obtain ⟨s62, hs62, hm⟩ := hm
 refine ga_v (i := 22) #[true, true, true, true, true, true, true, true, true, true, true, true, true, true, true, true, true, true, true, true, true, true, true, true, true, false, false, true, true, true, false, false, true, true, false, false, false] rfl (by kernel_rfl) (fun _ _ _ _ h => h) rfl (r_addT rfl rfl hs62) ?_
 replace hm := bnd hm
 obtain ⟨x63, hx64, hm⟩ := hm
 refine ga_cn (first := #[]) (i := 25) #[true, true, true, true, true, true, true, true, true, true, true, true, true, true, true, true, true, true, true, true, true, true, true, true, true, true, false, true, true, true, false, false, true, true, false, false, false] rfl (by kernel_rfl) (by decide)  ⟨w0, M, _, _, φ⟩ (fun _ h => h) Try.call29 rfl rfl rfl (c_ref11_Data p0.fVoters Ap0_0 cp0_0 hcp0_0 (fun W hS => fp0_0 W (ok_pre (H1 := [_]) (R1 := []) hS (fun W h => h))) _ hx64) (fun _ W _ h => h.phi (fun W hφ => hφ)) (fun _ _ => ?_)
 replace hm := bnd hm
 obtain ⟨s65, hs65, hm⟩ := hm
 refine ga_v (i := 26) #[true, true, true, true, true, true, true, true, true, true, true, true, true, true, true, true, true, true, true, true, true, true, true, true, true, true, true, true, true, true, false, false, true, true, false, false, false] rfl (by kernel_rfl) (fun _ _ _ _ h => h) rfl (r_addT rfl rfl hs65) ?_
 replace hm := bnd hm
 obtain ⟨x66, hx67, hm⟩ := hm
 refine ga_cn (first := #[]) (i := 30) #[true, true, true, true, true, true, true, true, true, true, true, true, true, true, true, true, true, true, true, true, true, true, true, true, true, true, true, true, true, true, true, false, true, true, false, false, false] rfl (by kernel_rfl) (by decide)  ⟨w0, M, _, _, φ⟩ (fun _ h => h) Try.call84 rfl rfl rfl (c_ref11_number (p0.fSnap.size : Int) _ hx67) (fun _ W _ h => h.phi (fun W hφ => hφ)) (fun _ _ => ?_)
 replace hm := bnd hm
 obtain ⟨s68, hs68, hm⟩ := hm
 refine ga_r (i := 31) #[true, true, true, true, true, true, true, true, true, true, true, true, true, true, true, true, true, true, true, true, true, true, true, true, true, true, true, true, true, true, true, true, true, true, false, false, false] rfl (by kernel_rfl) (by decide) rfl (r_addT rfl rfl hs68) ?_
 replace hm := bnd hm
 obtain ⟨s69, hs69, hm⟩ := hm
 refine ga_r (i := 34) #[true, true, true, true, true, true, true, true, true, true, true, true, true, true, true, true, true, true, true, true, true, true, true, true, true, true, true, true, true, true, true, true, true, true, true, false, false] rfl (by kernel_rfl) (by decide) rfl (r_addT rfl rfl hs69) ?_
 refine ga_e (i := 35) #[true, true, true, true, true, true, true, true, true, true, true, true, true, true, true, true, true, true, true, true, true, true, true, true, true, true, true, true, true, true, true, true, true, true, true, true, false] rfl (by kernel_rfl) (by decide) rfl  (e_lit (tag := 100400) (l := [s69]) (enc := (fun x : ByteArray => [Value.string x])) (sz := 1) rfl Try.underlying58 (lit9_14 _) rfl rfl (fun _ => rfl)) (fun g70 W _ h => ((h.shut (t := 100400) rfl).phi (fun _ hh => hh.1)).phi (fun W hφ => hφ)) (fun g70 _ => ?_)
 refine ga_r (i := 36) #[true, true, true, true, true, true, true, true, true, true, true, true, true, true, true, true, true, true, true, true, true, true, true, true, true, true, true, true, true, true, true, true, true, true, true, true, true] rfl (by kernel_rfl) (by decide) rfl (r_assign) ?_
 refine ga_done (by kernel_rfl) ?_
 refine d_then ?_
 refine c_flat [(1, .pointer (some ⟨g1, 0, none⟩)), (3, .slice (some ⟨g70, 0, none⟩) [s69].length 1)] ⟨rfl, rfl, trivial⟩ (fun u => ?_)
 refine c_sta ⟨w0, M, (100010, g1, .cells #[.int .i64 p0.fTerm, .int .i64 p0.fVote, .slice Ap0_0 p0.fVoters.length cp0_0, .string p0.fSnap, .int .i64 p0.fLog.fBase, .int .i64 p0.fLog.fBaseTerm, .slice Ap0_1 p0.fLog.fEntries.length cp0_1] 44 (0, 0)) :: H, (100400, ⟨.slice (some ⟨g70, 0, none⟩) [s69].length 1, 9, 1, [s69].length, [s69].flatMap (fun x : ByteArray => [Value.string x])⟩) :: R, φ⟩ (fun _ h => h) ?_
 refine c_seq ?_
 refine c_seq ?_
 refine c_region ?_
 refine g_v rfl r_assign ?_
 refine g_nil ?_
 refine d_then ?_
 refine c_cut (ι := (List ByteArray) × Option Addr × Nat) [3] (fun ⟨l114, A115, c116⟩ => [(3, .slice A115 l114.length c116)]) (fun ⟨l114, A115, c116⟩ => ⟨w0, M, H, (100400, ⟨.slice A115 l114.length c116, 9, 1, l114.length, l114.flatMap (fun x : ByteArray => [Value.string x])⟩) :: R, φ⟩) (fun ⟨l114, A115, c116⟩ => m_ref11_whole_j1 l114 = some r ∧ l114.length ≤ c116) ?_ (fun ⟨l114, A115, c116⟩ u ⟨hm, hc116⟩ => ?_)
 ·
  refine c_block ?_
  replace hm := bnd hm
  obtain ⟨out2, hl2, hr2⟩ := hm
  obtain ⟨n143', hl2⟩ := loop_lp hl2
  refine c_loopU (ι := Nat × (List ByteArray) × Int × Option Addr × Nat) [1, 3, 4] (fun ⟨n143, l128, i131, A129, c130⟩ => [(3, .slice A129 l128.length c130), (4, .int .i64 i131)]) (fun ⟨n143, l128, i131, A129, c130⟩ => ⟨w0, M, (100010, g1, .cells #[.int .i64 p0.fTerm, .int .i64 p0.fVote, .slice Ap0_0 p0.fVoters.length cp0_0, .string p0.fSnap, .int .i64 p0.fLog.fBase, .int .i64 p0.fLog.fBaseTerm, .slice Ap0_1 p0.fLog.fEntries.length cp0_1] 44 (0, 0)) :: H, (100400, ⟨.slice A129 l128.length c130, 9, 1, l128.length, l128.flatMap (fun x : ByteArray => [Value.string x])⟩) :: R, φ⟩) (fun ⟨n143, l128, i131, A129, c130⟩ => Lp (fun s => m_ref11_whole_s2 p0 s.1 s.2) n143 (l128, i131) out2 ∧ l128.length ≤ c130) (fun ⟨n143, l128, i131, A129, c130⟩ => n143) (n143', [s69], 0, some ⟨g70, 0, none⟩, 1) ⟨hl2, (Nat.le_refl _)⟩ ⟨rfl, rfl, rfl, trivial⟩ (fun W h => h.phi (fun W hφ => hφ)) (fun ⟨n143, l128, i131, A129, c130⟩ u ⟨hlp, hc130⟩ => ?_)
  obtain ⟨o2, hm, hnx2⟩ := lp_step hlp
  clear hlp
  replace hm : m_ref11_whole_s2 p0 l128 i131 = some o2 := hm
  unfold m_ref11_whole_s2 at hm
  refine c_flat [(1, .pointer (some ⟨g1, 0, none⟩)), (3, .slice A129 l128.length c130), (4, .int .i64 i131)] ⟨rfl, rfl, rfl, trivial⟩ (fun u => ?_)
  refine c_sta ⟨w0, M, (100010, g1, .cells #[.int .i64 p0.fTerm, .int .i64 p0.fVote, .slice Ap0_0 p0.fVoters.length cp0_0, .string p0.fSnap, .int .i64 p0.fLog.fBase, .int .i64 p0.fLog.fBaseTerm, .slice Ap0_1 p0.fLog.fEntries.length cp0_1] 44 (0, 0)) :: H, (100400, ⟨.slice A129 l128.length c130, 9, 1, l128.length, l128.flatMap (fun x : ByteArray => [Value.string x])⟩) :: R, φ⟩ (fun _ h => h) ?_
  refine c_seq ?_
  refine c_seq ?_
  refine c_region ?_
  refine g_v rfl r_move ?_
  refine g_v rfl (r_field (n := 4) Try.underlying44 rfl Try.sizeOf26 rfl rfl) ?_
  refine g_v rfl (r_field (n := 6) Try.underlying26 rfl Try.sizeOf24 rfl rfl) ?_
  refine g_v rfl (r_load (tag := 100010) rfl rfl rfl Try.isAgg24) ?_
  refine g_v rfl (r_lenL Try.underlying24 rfl) ?_
  refine g_v rfl (r_lss rfl rfl) ?_
  refine g_nil ?_
  refine d_then ?_
  refine c_cond rfl (fun h152 => ?_) (fun h152 => ?_)
  ·
   replace hm := ite_t hm (of_decide_eq_true h152)
   refine c_skip ?_
   refine d_then ?_
   refine c_seq ?_
   refine c_block ?_
   refine c_region ?_
   refine g_v rfl r_move ?_
   refine g_v rfl (r_field (n := 4) Try.underlying44 rfl Try.sizeOf26 rfl rfl) ?_
   refine g_v rfl (r_loadA (tag := 100010) rfl rfl Try.isAgg26 Try.sizeOf26 rfl rfl) ?_
   refine g_v rfl r_move ?_
   replace hm := bnd hm
   obtain ⟨x153, hx154, hm⟩ := hm
   refine g_cn ⟨w0, M, _, _, φ⟩ (fun _ h => h) Try.call85 rfl rfl (c_ref11_entry p0.fLog Ap0_1 cp0_1 hcp0_1 (fun W hS => fp0_1 W (ok_pre (H1 := [_]) (R1 := [_]) hS (fun W h => h))) i131 _ hx154) (fun _ _ => ?_)
   refine g_e rfl (e_lit (tag := 100540) (l := [x153]) (enc := (fun x : ByteArray => [Value.string x])) (sz := 1) rfl Try.underlying58 (lit9_14 _) rfl rfl (fun _ => rfl)) (fun g155 _ => ?_)
   replace hm := bnd hm
   obtain ⟨l156, hl156, hm⟩ := hm
   refine g_e rfl (e_appR (enc := (fun x : ByteArray => [Value.string x])) (l := l128) (l1 := [x153]) (l2 := l156) (tag := 100400) Try.underlying58 inf9_15 rfl (by decide) (by decide) (fun _ => rfl) (fun _ => rfl) rfl hc130 rfl rfl (fun W hS => rowCl (tag := 100540) rfl W hS) hl156) (fun ⟨A157, c158⟩ hc158 => ?_)
   refine g_v rfl r_assign ?_
   refine g_nil ?_
   refine d_normal_block ?_
   refine d_then ?_
   refine c_flat [(1, .pointer (some ⟨g1, 0, none⟩)), (3, .slice A157 l156.length c158), (4, .int .i64 i131)] ⟨rfl, rfl, rfl, trivial⟩ (fun u => ?_)
   refine c_sta ⟨w0, M, (100010, g1, .cells #[.int .i64 p0.fTerm, .int .i64 p0.fVote, .slice Ap0_0 p0.fVoters.length cp0_0, .string p0.fSnap, .int .i64 p0.fLog.fBase, .int .i64 p0.fLog.fBaseTerm, .slice Ap0_1 p0.fLog.fEntries.length cp0_1] 44 (0, 0)) :: H, (100540, ⟨.slice (some ⟨g155, 0, none⟩) [x153].length 1, 9, 1, [x153].length, [x153].flatMap (fun x : ByteArray => [Value.string x])⟩) :: (100400, ⟨.slice A157 l156.length c158, 9, 1, l156.length, l156.flatMap (fun x : ByteArray => [Value.string x])⟩) :: R, φ⟩ (fun _ h => h) ?_
   refine c_region ?_
   refine g_v rfl r_move ?_
   refine g_v rfl (r_add rfl rfl rfl) ?_
   refine g_v rfl r_assign ?_
   refine g_nil ?_
   obtain ⟨n159, hn159, hlp⟩ := nx_inl hm hnx2
   exact d_round (n159, l156, w64 (i131 + 1), A157, c158) ⟨hlp, hc158⟩ hn159 ⟨rfl, rfl, rfl, trivial⟩ (fun W h => ((h.shut (t := 100540) rfl).phi (fun _ hh => hh.1)).phi (fun W hφ => hφ))
  ·
   replace hm := ite_f hm (of_decide_eq_false h152)
   refine c_exit ?_
   refine d_exit_then ?_
   refine d_exit_then ?_
   refine d_exit_block ?_
   replace hm := nx_out (C := (fun e => m_ref11_whole_j1 e = some r)) hm hnx2 hr2
   exact d_round (l128, A129, c130) ⟨hm, hc130⟩ Nat.zero_lt_one ⟨rfl, trivial⟩ (fun W h => (h.dropH (t := 100010) rfl).phi (fun W hφ => hφ))
 ·
  unfold m_ref11_whole_j1 at hm
  refine d_flat [(3, .slice A115 l114.length c116)] ⟨rfl, trivial⟩ (fun u => ?_)
  refine d_sta ⟨w0, M, H, (100400, ⟨.slice A115 l114.length c116, 9, 1, l114.length, l114.flatMap (fun x : ByteArray => [Value.string x])⟩) :: R, φ⟩ (fun _ h => h) ?_
  refine d_then ?_
  refine c_seq ?_
  refine c_region ?_
  refine g_v rfl r_move ?_
  refine g_v rfl r_assign ?_
  refine g_nil ?_
  refine d_then ?_
  refine c_ret ?_
  replace hm := Option.some.inj hm
  subst hm
  refine d_sta _ (fun W h => ok_frontR (t := 100400) (t' := 2000) h rfl) ?_
  refine d_retC (A115, c116) Try.results83 ?_ hc116 (fun W h => h.phi (fun W hφ => hφ)) (.inr rfl)
  refine res_tmp ?_
  refine res_nil ?_
  exact rfl

noncomputable def m_ref11_Save_s2 (p0 : GHard) (p1 : GHard) (i925 : Int) : Option (Int ⊕ Int) :=
  if i925 < (p0.fLog.fEntries.length : Int) then
    if i925 < (p1.fLog.fEntries.length : Int) then
      (at_ p0.fLog.fEntries i925).bind fun x1013 =>
      (at_ p1.fLog.fEntries i925).bind fun x1017 =>
      if x1013 = x1017 then
        some (.inl (w64 (i925 + 1)))
      else
        some (.inr i925)
    else
      some (.inr i925)
  else
    some (.inr i925)
noncomputable def m_ref11_Save_s6 (p1 : GHard) (l1739 : List ByteArray) (i1742 : Int) : Option (((List ByteArray) × Int) ⊕ (List ByteArray)) :=
  if i1742 < (p1.fLog.fEntries.length : Int) then
    (m_ref11_entry p1.fLog i1742).bind fun x1764 =>
    (app 16 l1739 [x1764]).bind fun l1767 =>
    some (.inl (l1767, w64 (i1742 + 1)))
  else
    some (.inr l1739)
noncomputable def m_ref11_Save_j5  (l1725 : List ByteArray) : Option ((List ByteArray) × Bool) :=
  some (l1725, false)
noncomputable def m_ref11_Save_j4 (p1 : GHard) (i144 : Int) (l1528 : List ByteArray) : Option ((List ByteArray) × Bool) :=
  (loop (fun s => m_ref11_Save_s6 p1 s.1 s.2) (l1528, i144)).bind fun e => m_ref11_Save_j5 e
noncomputable def m_ref11_Save_j3 (p0 : GHard) (p1 : GHard) (i144 : Int) : Option ((List ByteArray) × Bool) :=
  if p0.fTerm ≠ p1.fTerm then
    (m_ref11_number p1.fTerm).bind fun x1672 =>
    (sadd (⟨#[84]⟩ : ByteArray) x1672).bind fun s1674 =>
    (m_ref11_number p1.fVote).bind fun x1675 =>
    (sadd s1674 x1675).bind fun s1677 =>
    (app 16 ([] : List ByteArray) [s1677]).bind fun l1679 =>
    m_ref11_Save_j4 p1 i144 l1679
  else
    if p0.fVote ≠ p1.fVote then
      (m_ref11_number p1.fTerm).bind fun x1642 =>
      (sadd (⟨#[84]⟩ : ByteArray) x1642).bind fun s1644 =>
      (m_ref11_number p1.fVote).bind fun x1645 =>
      (sadd s1644 x1645).bind fun s1647 =>
      (app 16 ([] : List ByteArray) [s1647]).bind fun l1649 =>
      m_ref11_Save_j4 p1 i144 l1649
    else
      m_ref11_Save_j4 p1 i144 ([] : List ByteArray)
noncomputable def m_ref11_Save_j1 (p1 : GHard) (p0 : GHard) (i144 : Int) : Option ((List ByteArray) × Bool) :=
  if i144 = (p1.fLog.fEntries.length : Int) then
    if i144 < (p0.fLog.fEntries.length : Int) then
      (m_ref11_whole p1).bind fun x1399 =>
      some (x1399, true)
    else
      m_ref11_Save_j3 p0 p1 i144
  else
    m_ref11_Save_j3 p0 p1 i144
noncomputable def m_ref11_Save (p0 : GHard) (p1 : GHard) : Option ((List ByteArray) × Bool) :=
  (m_ref11_SameInts p0.fVoters p1.fVoters).bind fun x3 =>
  if p0.fLog.fBase ≠ p1.fLog.fBase then
    (m_ref11_whole p1).bind fun x1781 =>
    some (x1781, true)
  else
    if p0.fLog.fBaseTerm ≠ p1.fLog.fBaseTerm then
      (m_ref11_whole p1).bind fun x1776 =>
      some (x1776, true)
    else
      if x3 = true then
        if p0.fSnap = p1.fSnap then
          (loop (fun s => m_ref11_Save_s2 p0 p1 s) 0).bind fun e => m_ref11_Save_j1 p1 p0 e
        else
          (m_ref11_whole p1).bind fun x9 =>
          some (x9, true)
      else
        (m_ref11_whole p1).bind fun x1771 =>
        some (x1771, true)
theorem c_ref11_Save {w0 : World} {M : Nat → Prop} {H : List (Nat × Nat × Obj)} {R : List (Nat × Row)} {φ : World → Prop} (p0 : GHard) (Ap0_0 : Option Addr) (cp0_0 : Nat) (hcp0_0 : p0.fVoters.length ≤ cp0_0) (fp0_0 : ∀ W, (Sta.mk w0 M H R φ).ok W → Cl W Ap0_0 (p0.fVoters.flatMap (fun x : Int => [Value.int .i64 x]))) (Ap0_1 : Option Addr) (cp0_1 : Nat) (hcp0_1 : p0.fLog.fEntries.length ≤ cp0_1) (fp0_1 : ∀ W, (Sta.mk w0 M H R φ).ok W → Cl W Ap0_1 (p0.fLog.fEntries.flatMap GEntry.enc)) (p1 : GHard) (Ap1_0 : Option Addr) (cp1_0 : Nat) (hcp1_0 : p1.fVoters.length ≤ cp1_0) (fp1_0 : ∀ W, (Sta.mk w0 M H R φ).ok W → Cl W Ap1_0 (p1.fVoters.flatMap (fun x : Int => [Value.int .i64 x]))) (Ap1_1 : Option Addr) (cp1_1 : Nat) (hcp1_1 : p1.fLog.fEntries.length ≤ cp1_1) (fp1_1 : ∀ W, (Sta.mk w0 M H R φ).ok W → Cl W Ap1_1 (p1.fLog.fEntries.flatMap GEntry.enc)) (r : (List ByteArray) × Bool) (hm : m_ref11_Save p0 p1 = some r) :
    Cn Try.prog 42 #[.agg #[.int .i64 p0.fTerm, .int .i64 p0.fVote, .slice Ap0_0 p0.fVoters.length cp0_0, .string p0.fSnap, .int .i64 p0.fLog.fBase, .int .i64 p0.fLog.fBaseTerm, .slice Ap0_1 p0.fLog.fEntries.length cp0_1], .agg #[.int .i64 p1.fTerm, .int .i64 p1.fVote, .slice Ap1_0 p1.fVoters.length cp1_0, .string p1.fSnap, .int .i64 p1.fLog.fBase, .int .i64 p1.fLog.fBaseTerm, .slice Ap1_1 p1.fLog.fEntries.length cp1_1]] ⟨w0, M, H, R, φ⟩ (fun x : Option Addr × Nat => .tuple #[.slice x.1 r.1.length x.2, .bool r.2]) (fun x => r.1.length ≤ x.2) (fun x => ⟨w0, M, H, (2000, ⟨.slice x.1 r.1.length x.2, 9, 1, r.1.length, r.1.flatMap (fun x : ByteArray => [Value.string x])⟩) :: R, φ⟩) := by
 unfold m_ref11_Save at hm
 refine cn_intro (fn := Try.f42) (N := 131) Try.func42 rfl Try.ntmps42 rfl ?_
 refine c_seq ?_
 refine c_region ?_
 refine g_e rfl (e_box 100020 rfl) (fun g1 _ => ?_)
 refine g_e rfl (e_box 100030 rfl) (fun g2 _ => ?_)
 refine g_v rfl r_assign ?_
 refine g_v rfl r_assign ?_
 refine g_nil ?_
 refine d_then ?_
 refine c_seq ?_
 refine c_region ?_
 refine g_v rfl (r_field (n := 2) Try.underlying44 rfl Try.sizeOf42 rfl rfl) ?_
 refine g_v rfl (r_load (tag := 100020) rfl rfl rfl Try.isAgg42) ?_
 refine g_v rfl (r_field (n := 2) Try.underlying44 rfl Try.sizeOf42 rfl rfl) ?_
 refine g_v rfl (r_load (tag := 100030) rfl rfl rfl Try.isAgg42) ?_
 replace hm := bnd hm
 obtain ⟨x3, hx4, hm⟩ := hm
 refine g_cn ⟨w0, M, _, _, φ⟩ (fun _ h => h) Try.call25 rfl rfl (c_ref11_SameInts p0.fVoters Ap0_0 cp0_0 hcp0_0 (fun W hS => fp0_0 W (ok_pre (H1 := [_, _]) (R1 := []) hS (fun W h => h))) p1.fVoters Ap1_0 cp1_0 hcp1_0 (fun W hS => fp1_0 W (ok_pre (H1 := [_, _]) (R1 := []) hS (fun W h => h))) _ hx4) (fun _ _ => ?_)
 refine g_v rfl r_assign ?_
 refine g_nil ?_
 refine d_then ?_
 refine c_flat [(2, .pointer (some ⟨g1, 0, none⟩)), (3, .pointer (some ⟨g2, 0, none⟩)), (6, .bool x3)] ⟨rfl, rfl, rfl, trivial⟩ (fun u => ?_)
 refine c_sta ⟨w0, M, (100030, g2, .cells #[.int .i64 p1.fTerm, .int .i64 p1.fVote, .slice Ap1_0 p1.fVoters.length cp1_0, .string p1.fSnap, .int .i64 p1.fLog.fBase, .int .i64 p1.fLog.fBaseTerm, .slice Ap1_1 p1.fLog.fEntries.length cp1_1] 44 (0, 0)) :: (100020, g1, .cells #[.int .i64 p0.fTerm, .int .i64 p0.fVote, .slice Ap0_0 p0.fVoters.length cp0_0, .string p0.fSnap, .int .i64 p0.fLog.fBase, .int .i64 p0.fLog.fBaseTerm, .slice Ap0_1 p0.fLog.fEntries.length cp0_1] 44 (0, 0)) :: H, R, φ⟩ (fun _ h => h) ?_
 refine c_seq ?_
 refine c_seq ?_
 refine c_region ?_
 refine g_v rfl (r_field (n := 4) Try.underlying44 rfl Try.sizeOf26 rfl rfl) ?_
 refine g_v rfl (r_field (n := 4) Try.underlying26 rfl Try.sizeOf3 rfl rfl) ?_
 refine g_v rfl (r_load (tag := 100020) rfl rfl rfl Try.isAgg3) ?_
 refine g_v rfl (r_field (n := 4) Try.underlying44 rfl Try.sizeOf26 rfl rfl) ?_
 refine g_v rfl (r_field (n := 4) Try.underlying26 rfl Try.sizeOf3 rfl rfl) ?_
 refine g_v rfl (r_load (tag := 100030) rfl rfl rfl Try.isAgg3) ?_
 refine g_v rfl (r_neq rfl rfl) ?_
 refine g_v rfl r_move ?_
 refine g_if rfl rfl rfl rfl rfl (fun h5 => ?_) (fun h5 => ?_)
 ·
  replace hm := ite_f hm (of_decide_eq_false h5)
  refine g_v rfl (r_field (n := 4) Try.underlying44 rfl Try.sizeOf26 rfl rfl) ?_
  refine g_do rfl rfl rfl rfl rfl h5 ?_
  refine g_v rfl (r_field (n := 5) Try.underlying26 rfl Try.sizeOf3 rfl rfl) ?_
  refine g_do rfl rfl rfl rfl rfl h5 ?_
  refine g_v rfl (r_load (tag := 100020) rfl rfl rfl Try.isAgg3) ?_
  refine g_do rfl rfl rfl rfl rfl h5 ?_
  refine g_v rfl (r_field (n := 4) Try.underlying44 rfl Try.sizeOf26 rfl rfl) ?_
  refine g_do rfl rfl rfl rfl rfl h5 ?_
  refine g_v rfl (r_field (n := 5) Try.underlying26 rfl Try.sizeOf3 rfl rfl) ?_
  refine g_do rfl rfl rfl rfl rfl h5 ?_
  refine g_v rfl (r_load (tag := 100030) rfl rfl rfl Try.isAgg3) ?_
  refine g_do rfl rfl rfl rfl rfl h5 ?_
  refine g_v rfl (r_neq rfl rfl) ?_
  refine g_v rfl (r_pick0 rfl h5) ?_
  refine g_v rfl r_move ?_
  refine g_if rfl rfl rfl rfl rfl (fun h6 => ?_) (fun h6 => ?_)
  ·
   replace hm := ite_f hm (of_decide_eq_false h6)
   refine g_v rfl r_move ?_
   refine g_do rfl rfl rfl rfl rfl h6 ?_
   refine g_v rfl (r_not rfl) ?_
   refine g_v rfl (r_pick0 rfl h6) ?_
   refine g_v rfl r_move ?_
   refine g_if rfl rfl rfl rfl rfl (fun h7 => ?_) (fun h7 => ?_)
   ·
    have h7' : x3 = true := by revert h7; cases x3 <;> simp
    replace hm := ite_t hm h7'
    refine g_v rfl (r_field (n := 3) Try.underlying44 rfl Try.sizeOf9 rfl rfl) ?_
    refine g_do rfl rfl rfl rfl rfl h7 ?_
    refine g_v rfl (r_load (tag := 100020) rfl rfl rfl Try.isAgg9) ?_
    refine g_do rfl rfl rfl rfl rfl h7 ?_
    refine g_v rfl (r_field (n := 3) Try.underlying44 rfl Try.sizeOf9 rfl rfl) ?_
    refine g_do rfl rfl rfl rfl rfl h7 ?_
    refine g_v rfl (r_load (tag := 100030) rfl rfl rfl Try.isAgg9) ?_
    refine g_do rfl rfl rfl rfl rfl h7 ?_
    refine g_v rfl (r_neqT rfl rfl) ?_
    refine g_v rfl (r_pick0 rfl h7) ?_
    refine g_nil ?_
    refine d_then ?_
    refine c_flat [(2, .pointer (some ⟨g1, 0, none⟩)), (3, .pointer (some ⟨g2, 0, none⟩)), (41, .bool (!(decide (p0.fSnap = p1.fSnap))))] ⟨rfl, rfl, rfl, trivial⟩ (fun u => ?_)
    refine c_sta ⟨w0, M, (100030, g2, .cells #[.int .i64 p1.fTerm, .int .i64 p1.fVote, .slice Ap1_0 p1.fVoters.length cp1_0, .string p1.fSnap, .int .i64 p1.fLog.fBase, .int .i64 p1.fLog.fBaseTerm, .slice Ap1_1 p1.fLog.fEntries.length cp1_1] 44 (0, 0)) :: (100020, g1, .cells #[.int .i64 p0.fTerm, .int .i64 p0.fVote, .slice Ap0_0 p0.fVoters.length cp0_0, .string p0.fSnap, .int .i64 p0.fLog.fBase, .int .i64 p0.fLog.fBaseTerm, .slice Ap0_1 p0.fLog.fEntries.length cp0_1] 44 (0, 0)) :: H, R, φ⟩ (fun _ h => h) ?_
    refine c_cond rfl (fun h8 => ?_) (fun h8 => ?_)
    ·
     have h8' : (decide (p0.fSnap = p1.fSnap)) = false := by revert h8; cases (decide (p0.fSnap = p1.fSnap)) <;> simp
     replace hm := ite_f hm (of_decide_eq_false h8')
     refine c_seq ?_
     refine c_region ?_
     refine g_v rfl (r_loadA (tag := 100030) rfl rfl Try.isAgg44 Try.sizeOf44 rfl rfl) ?_
     replace hm := bnd hm
     obtain ⟨x9, hx10, hm⟩ := hm
     refine g_cn ⟨w0, M, _, _, φ⟩ (fun _ h => h) Try.call83 rfl rfl (c_ref11_whole p1 Ap1_0 cp1_0 hcp1_0 (fun W hS => fp1_0 W (ok_pre (H1 := [_, _]) (R1 := []) hS (fun W h => h))) Ap1_1 cp1_1 hcp1_1 (fun W hS => fp1_1 W (ok_pre (H1 := [_, _]) (R1 := []) hS (fun W h => h))) _ hx10) (fun ⟨A11, c12⟩ hc12 => ?_)
     refine g_sta _ (fun W h => ok_frontR (t := 2000) (t' := 100430) h rfl) ?_
     refine g_v rfl r_assign ?_
     refine g_v rfl r_assign ?_
     refine g_nil ?_
     refine d_then ?_
     refine c_ret ?_
     refine d_ret_then ?_
     replace hm := Option.some.inj hm
     subst hm
     refine d_sta _ (fun W h => ok_frontR (t := 100430) (t' := 2000) h rfl) ?_
     refine d_retC (A11, c12) Try.results42 ?_ hc12 (fun W h => ((h.dropH (t := 100030) rfl).dropH (t := 100020) rfl).phi (fun W hφ => hφ)) (.inr rfl)
     refine res_tmp ?_
     refine res_tmp ?_
     refine res_nil ?_
     exact rfl
    ·
     have h8' : (decide (p0.fSnap = p1.fSnap)) = true := by revert h8; cases (decide (p0.fSnap = p1.fSnap)) <;> simp
     replace hm := ite_t hm (of_decide_eq_true h8')
     refine c_skip ?_
     refine d_then ?_
     refine c_seq ?_
     refine c_region ?_
     refine g_v rfl r_assign ?_
     refine g_nil ?_
     refine d_then ?_
     refine c_seq ?_
     refine c_cut (ι := Int) [2, 3, 7] (fun i144 => [(7, .int .i64 i144)]) (fun i144 => ⟨w0, M, (100030, g2, .cells #[.int .i64 p1.fTerm, .int .i64 p1.fVote, .slice Ap1_0 p1.fVoters.length cp1_0, .string p1.fSnap, .int .i64 p1.fLog.fBase, .int .i64 p1.fLog.fBaseTerm, .slice Ap1_1 p1.fLog.fEntries.length cp1_1] 44 (0, 0)) :: (100020, g1, .cells #[.int .i64 p0.fTerm, .int .i64 p0.fVote, .slice Ap0_0 p0.fVoters.length cp0_0, .string p0.fSnap, .int .i64 p0.fLog.fBase, .int .i64 p0.fLog.fBaseTerm, .slice Ap0_1 p0.fLog.fEntries.length cp0_1] 44 (0, 0)) :: H, R, φ⟩) (fun i144 => m_ref11_Save_j1 p1 p0 i144 = some r) ?_ (fun i144 u hm => ?_)
     ·
      refine c_block ?_
      replace hm := bnd hm
      obtain ⟨out2, hl2, hr2⟩ := hm
      obtain ⟨n958', hl2⟩ := loop_lp hl2
      refine c_loopU (ι := Nat × Int) [2, 3, 7] (fun ⟨n958, i925⟩ => [(7, .int .i64 i925)]) (fun ⟨n958, i925⟩ => ⟨w0, M, (100030, g2, .cells #[.int .i64 p1.fTerm, .int .i64 p1.fVote, .slice Ap1_0 p1.fVoters.length cp1_0, .string p1.fSnap, .int .i64 p1.fLog.fBase, .int .i64 p1.fLog.fBaseTerm, .slice Ap1_1 p1.fLog.fEntries.length cp1_1] 44 (0, 0)) :: (100020, g1, .cells #[.int .i64 p0.fTerm, .int .i64 p0.fVote, .slice Ap0_0 p0.fVoters.length cp0_0, .string p0.fSnap, .int .i64 p0.fLog.fBase, .int .i64 p0.fLog.fBaseTerm, .slice Ap0_1 p0.fLog.fEntries.length cp0_1] 44 (0, 0)) :: H, R, φ⟩) (fun ⟨n958, i925⟩ => Lp (fun s => m_ref11_Save_s2 p0 p1 s) n958 i925 out2) (fun ⟨n958, i925⟩ => n958) (n958', 0) hl2 ⟨rfl, rfl, rfl, trivial⟩ (fun W h => h.phi (fun W hφ => hφ)) (fun ⟨n958, i925⟩ u hlp => ?_)
      obtain ⟨o2, hm, hnx2⟩ := lp_step hlp
      clear hlp
      replace hm : m_ref11_Save_s2 p0 p1 i925 = some o2 := hm
      unfold m_ref11_Save_s2 at hm
      refine c_flat [(2, .pointer (some ⟨g1, 0, none⟩)), (3, .pointer (some ⟨g2, 0, none⟩)), (7, .int .i64 i925)] ⟨rfl, rfl, rfl, trivial⟩ (fun u => ?_)
      refine c_sta ⟨w0, M, (100030, g2, .cells #[.int .i64 p1.fTerm, .int .i64 p1.fVote, .slice Ap1_0 p1.fVoters.length cp1_0, .string p1.fSnap, .int .i64 p1.fLog.fBase, .int .i64 p1.fLog.fBaseTerm, .slice Ap1_1 p1.fLog.fEntries.length cp1_1] 44 (0, 0)) :: (100020, g1, .cells #[.int .i64 p0.fTerm, .int .i64 p0.fVote, .slice Ap0_0 p0.fVoters.length cp0_0, .string p0.fSnap, .int .i64 p0.fLog.fBase, .int .i64 p0.fLog.fBaseTerm, .slice Ap0_1 p0.fLog.fEntries.length cp0_1] 44 (0, 0)) :: H, R, φ⟩ (fun _ h => h) ?_
      refine c_seq ?_
      refine c_seq ?_
      refine ga_start (n := 29) ⟨w0, M, (100030, g2, .cells #[.int .i64 p1.fTerm, .int .i64 p1.fVote, .slice Ap1_0 p1.fVoters.length cp1_0, .string p1.fSnap, .int .i64 p1.fLog.fBase, .int .i64 p1.fLog.fBaseTerm, .slice Ap1_1 p1.fLog.fEntries.length cp1_1] 44 (0, 0)) :: (100020, g1, .cells #[.int .i64 p0.fTerm, .int .i64 p0.fVote, .slice Ap0_0 p0.fVoters.length cp0_0, .string p0.fSnap, .int .i64 p0.fLog.fBase, .int .i64 p0.fLog.fBaseTerm, .slice Ap0_1 p0.fLog.fEntries.length cp0_1] 44 (0, 0)) :: H, R, φ⟩ [] #[false, false, false, false, false, false, false, false, false, false, false, false, false, false, false, false, false, false, false, false, false, false, false, false, false, false, false, false, false] (fun W h => h.phi (fun W hφ => hφ)) mixed rfl rfl ?_
      refine ga_v (i := 0) #[true, false, false, false, false, false, false, false, false, false, false, false, false, false, false, false, false, false, false, false, false, false, false, false, false, false, false, false, false] rfl (by kernel_rfl) (fun _ _ _ _ h => h) rfl (r_move) ?_
      refine ga_r (i := 1) #[true, true, false, false, false, false, false, false, false, false, false, false, false, false, false, false, false, false, false, false, false, false, false, false, false, false, false, false, false] rfl (by kernel_rfl) (by decide) rfl (r_field (n := 4) Try.underlying44 rfl Try.sizeOf26 rfl rfl) ?_
      refine ga_r (i := 2) #[true, true, true, false, false, false, false, false, false, false, false, false, false, false, false, false, false, false, false, false, false, false, false, false, false, false, false, false, false] rfl (by kernel_rfl) (by decide) rfl (r_field (n := 6) Try.underlying26 rfl Try.sizeOf24 rfl rfl) ?_
      refine ga_r (i := 3) #[true, true, true, true, false, false, false, false, false, false, false, false, false, false, false, false, false, false, false, false, false, false, false, false, false, false, false, false, false] rfl (by kernel_rfl) (by decide) rfl (r_load (tag := 100020) rfl rfl rfl Try.isAgg24) ?_
      refine ga_r (i := 4) #[true, true, true, true, true, false, false, false, false, false, false, false, false, false, false, false, false, false, false, false, false, false, false, false, false, false, false, false, false] rfl (by kernel_rfl) (by decide) rfl (r_lenL Try.underlying24 rfl) ?_
      refine ga_r (i := 5) #[true, true, true, true, true, true, false, false, false, false, false, false, false, false, false, false, false, false, false, false, false, false, false, false, false, false, false, false, false] rfl (by kernel_rfl) (by decide) rfl (r_lss rfl rfl) ?_
      refine ga_r (i := 6) #[true, true, true, true, true, true, true, false, false, false, false, false, false, false, false, false, false, false, false, false, false, false, false, false, false, false, false, false, false] rfl (by kernel_rfl) (by decide) rfl (r_move) ?_
      refine ga_if (t := 50) rfl (fun h1011 => ?_) (fun h1011 => ?_)
      ·
       replace hm := ite_t hm (of_decide_eq_true h1011)
       refine ga_do (i := 7) #[true, true, true, true, true, true, true, true, false, false, false, false, false, false, false, false, false, false, false, false, false, false, false, false, false, false, false, false, false] rfl (by kernel_rfl) (fun _ _ _ _ h => h) rfl rfl rfl rfl rfl h1011 (r_move) ?_
       refine ga_rG (i := 8) #[true, true, true, true, true, true, true, true, true, false, false, false, false, false, false, false, false, false, false, false, false, false, false, false, false, false, false, false, false] rfl (by kernel_rfl) (by decide) rfl rfl rfl rfl rfl h1011 (r_field (n := 4) Try.underlying44 rfl Try.sizeOf26 rfl rfl) ?_
       refine ga_rG (i := 9) #[true, true, true, true, true, true, true, true, true, true, false, false, false, false, false, false, false, false, false, false, false, false, false, false, false, false, false, false, false] rfl (by kernel_rfl) (by decide) rfl rfl rfl rfl rfl h1011 (r_field (n := 6) Try.underlying26 rfl Try.sizeOf24 rfl rfl) ?_
       refine ga_rG (i := 10) #[true, true, true, true, true, true, true, true, true, true, true, false, false, false, false, false, false, false, false, false, false, false, false, false, false, false, false, false, false] rfl (by kernel_rfl) (by decide) rfl rfl rfl rfl rfl h1011 (r_load (tag := 100030) rfl rfl rfl Try.isAgg24) ?_
       refine ga_rG (i := 11) #[true, true, true, true, true, true, true, true, true, true, true, true, false, false, false, false, false, false, false, false, false, false, false, false, false, false, false, false, false] rfl (by kernel_rfl) (by decide) rfl rfl rfl rfl rfl h1011 (r_lenL Try.underlying24 rfl) ?_
       refine ga_rG (i := 12) #[true, true, true, true, true, true, true, true, true, true, true, true, true, false, false, false, false, false, false, false, false, false, false, false, false, false, false, false, false] rfl (by kernel_rfl) (by decide) rfl rfl rfl rfl rfl h1011 (r_lss rfl rfl) ?_
       refine ga_r (i := 13) #[true, true, true, true, true, true, true, true, true, true, true, true, true, true, false, false, false, false, false, false, false, false, false, false, false, false, false, false, false] rfl (by kernel_rfl) (by decide) rfl (r_pick1 rfl h1011) ?_
       refine ga_r (i := 14) #[true, true, true, true, true, true, true, true, true, true, true, true, true, true, true, false, false, false, false, false, false, false, false, false, false, false, false, false, false] rfl (by kernel_rfl) (by decide) rfl (r_move) ?_
       refine ga_if (t := 58) rfl (fun h1012 => ?_) (fun h1012 => ?_)
       ·
        replace hm := ite_t hm (of_decide_eq_true h1012)
        refine ga_do (i := 15) #[true, true, true, true, true, true, true, true, true, true, true, true, true, true, true, true, false, false, false, false, false, false, false, false, false, false, false, false, false] rfl (by kernel_rfl) (fun _ _ _ _ h => h) rfl rfl rfl rfl rfl h1012 (r_field (n := 4) Try.underlying44 rfl Try.sizeOf26 rfl rfl) ?_
        refine ga_do (i := 16) #[true, true, true, true, true, true, true, true, true, true, true, true, true, true, true, true, true, false, false, false, false, false, false, false, false, false, false, false, false] rfl (by kernel_rfl) (fun _ _ _ _ h => h) rfl rfl rfl rfl rfl h1012 (r_field (n := 6) Try.underlying26 rfl Try.sizeOf24 rfl rfl) ?_
        refine ga_do (i := 17) #[true, true, true, true, true, true, true, true, true, true, true, true, true, true, true, true, true, true, false, false, false, false, false, false, false, false, false, false, false] rfl (by kernel_rfl) (fun _ _ _ _ h => h) rfl rfl rfl rfl rfl h1012 (r_load (tag := 100020) rfl rfl rfl Try.isAgg24) ?_
        refine ga_do (i := 18) #[true, true, true, true, true, true, true, true, true, true, true, true, true, true, true, true, true, true, true, false, false, false, false, false, false, false, false, false, false] rfl (by kernel_rfl) (fun _ _ _ _ h => h) rfl rfl rfl rfl rfl h1012 (r_move) ?_
        replace hm := bnd hm
        obtain ⟨x1013, hx1013, hm⟩ := hm
        refine ga_know _ (fun W hS => cl_at (p := (Sta.mk w0 M H R φ).ok) (sz := 3) (fun _ => rfl) (by decide) (ok_pre (H1 := [_, _]) (R1 := []) hS (fun W h => h)) fp0_1 hx1013) ?_
        rintro ⟨ad1014, hA1016, f1015⟩
        refine ga_do (i := 19) #[true, true, true, true, true, true, true, true, true, true, true, true, true, true, true, true, true, true, true, true, false, false, false, false, false, false, false, false, false] rfl (by kernel_rfl) (fun _ _ _ _ h => h) rfl rfl rfl rfl rfl h1012 (r_ix Try.underlying24 Try.sizeOf35 rfl hA1016 rfl hx1013) ?_
        refine ga_do (i := 20) #[true, true, true, true, true, true, true, true, true, true, true, true, true, true, true, true, true, true, true, true, true, false, false, false, false, false, false, false, false] rfl (by kernel_rfl) (fun _ _ _ _ h => h) rfl rfl rfl rfl rfl h1012 (r_ldA rfl Try.isAgg35 Try.sizeOf35 (fun W hS => (f1015 W (ok_pre (H1 := [_, _]) (R1 := []) hS (fun W h => h))).take 3) rfl) ?_
        refine ga_do (i := 21) #[true, true, true, true, true, true, true, true, true, true, true, true, true, true, true, true, true, true, true, true, true, true, false, false, false, false, false, false, false] rfl (by kernel_rfl) (fun _ _ _ _ h => h) rfl rfl rfl rfl rfl h1012 (r_field (n := 4) Try.underlying44 rfl Try.sizeOf26 rfl rfl) ?_
        refine ga_do (i := 22) #[true, true, true, true, true, true, true, true, true, true, true, true, true, true, true, true, true, true, true, true, true, true, true, false, false, false, false, false, false] rfl (by kernel_rfl) (fun _ _ _ _ h => h) rfl rfl rfl rfl rfl h1012 (r_field (n := 6) Try.underlying26 rfl Try.sizeOf24 rfl rfl) ?_
        refine ga_do (i := 23) #[true, true, true, true, true, true, true, true, true, true, true, true, true, true, true, true, true, true, true, true, true, true, true, true, false, false, false, false, false] rfl (by kernel_rfl) (fun _ _ _ _ h => h) rfl rfl rfl rfl rfl h1012 (r_load (tag := 100030) rfl rfl rfl Try.isAgg24) ?_
        refine ga_rG (i := 24) #[true, true, true, true, true, true, true, true, true, true, true, true, true, true, true, true, true, true, true, true, true, true, true, true, true, false, false, false, false] rfl (by kernel_rfl) (by decide) rfl rfl rfl rfl rfl h1012 (r_move) ?_
        replace hm := bnd hm
        obtain ⟨x1017, hx1017, hm⟩ := hm
        refine ga_know _ (fun W hS => cl_at (p := (Sta.mk w0 M H R φ).ok) (sz := 3) (fun _ => rfl) (by decide) (ok_pre (H1 := [_, _]) (R1 := []) hS (fun W h => h)) fp1_1 hx1017) ?_
        rintro ⟨ad1018, hA1020, f1019⟩
        refine ga_rG (i := 25) #[true, true, true, true, true, true, true, true, true, true, true, true, true, true, true, true, true, true, true, true, true, true, true, true, true, true, false, false, false] rfl (by kernel_rfl) (by decide) rfl rfl rfl rfl rfl h1012 (r_ix Try.underlying24 Try.sizeOf35 rfl hA1020 rfl hx1017) ?_
        refine ga_rG (i := 26) #[true, true, true, true, true, true, true, true, true, true, true, true, true, true, true, true, true, true, true, true, true, true, true, true, true, true, true, false, false] rfl (by kernel_rfl) (by decide) rfl rfl rfl rfl rfl h1012 (r_ldA rfl Try.isAgg35 Try.sizeOf35 (fun W hS => (f1019 W (ok_pre (H1 := [_, _]) (R1 := []) hS (fun W h => h))).take 3) rfl) ?_
        refine ga_rG (i := 27) #[true, true, true, true, true, true, true, true, true, true, true, true, true, true, true, true, true, true, true, true, true, true, true, true, true, true, true, true, false] rfl (by kernel_rfl) (by decide) rfl rfl rfl rfl rfl h1012 (r_eqlA rfl rfl eqg35 (eqq35 x1013 x1017)) ?_
        refine ga_r (i := 28) #[true, true, true, true, true, true, true, true, true, true, true, true, true, true, true, true, true, true, true, true, true, true, true, true, true, true, true, true, true] rfl (by kernel_rfl) (by decide) rfl (r_pick1 rfl h1012) ?_
        refine ga_done (by kernel_rfl) ?_
        refine d_then ?_
        refine c_flat [(2, .pointer (some ⟨g1, 0, none⟩)), (3, .pointer (some ⟨g2, 0, none⟩)), (7, .int .i64 i925), (72, .bool (decide (x1013 = x1017)))] ⟨rfl, rfl, rfl, rfl, trivial⟩ (fun u => ?_)
        refine c_sta ⟨w0, M, (100030, g2, .cells #[.int .i64 p1.fTerm, .int .i64 p1.fVote, .slice Ap1_0 p1.fVoters.length cp1_0, .string p1.fSnap, .int .i64 p1.fLog.fBase, .int .i64 p1.fLog.fBaseTerm, .slice Ap1_1 p1.fLog.fEntries.length cp1_1] 44 (0, 0)) :: (100020, g1, .cells #[.int .i64 p0.fTerm, .int .i64 p0.fVote, .slice Ap0_0 p0.fVoters.length cp0_0, .string p0.fSnap, .int .i64 p0.fLog.fBase, .int .i64 p0.fLog.fBaseTerm, .slice Ap0_1 p0.fLog.fEntries.length cp0_1] 44 (0, 0)) :: H, R, φ⟩ (fun _ h => h) ?_
        refine c_cond rfl (fun h1021 => ?_) (fun h1021 => ?_)
        ·
         replace hm := ite_t hm (of_decide_eq_true h1021)
         refine c_skip ?_
         refine d_then ?_
         refine c_block ?_
         refine c_region ?_
         refine g_v rfl r_move ?_
         refine g_v rfl (r_add rfl rfl rfl) ?_
         refine g_v rfl r_assign ?_
         refine g_nil ?_
         refine d_normal_block ?_
         obtain ⟨n1022, hn1022, hlp⟩ := nx_inl hm hnx2
         exact d_round (n1022, w64 (i925 + 1)) hlp hn1022 ⟨rfl, rfl, rfl, trivial⟩ (fun W h => h.phi (fun W hφ => hφ))
        ·
         replace hm := ite_f hm (of_decide_eq_false h1021)
         refine c_exit ?_
         refine d_exit_then ?_
         refine d_exit_then ?_
         refine d_exit_block ?_
         replace hm := nx_out (C := (fun e => m_ref11_Save_j1 p1 p0 e = some r)) hm hnx2 hr2
         exact d_round i925 hm Nat.zero_lt_one ⟨rfl, rfl, rfl, trivial⟩ (fun W h => h.phi (fun W hφ => hφ))
       ·
        replace hm := ite_f hm (of_decide_eq_false h1012)
        refine ga_no (i := 15) #[true, true, true, true, true, true, true, true, true, true, true, true, true, true, true, true, false, false, false, false, false, false, false, false, false, false, false, false, false] rfl (by kernel_rfl) (fun _ _ _ _ h => h) rfl rfl rfl rfl rfl h1012 ?_
        refine ga_no (i := 16) #[true, true, true, true, true, true, true, true, true, true, true, true, true, true, true, true, true, false, false, false, false, false, false, false, false, false, false, false, false] rfl (by kernel_rfl) (fun _ _ _ _ h => h) rfl rfl rfl rfl rfl h1012 ?_
        refine ga_no (i := 17) #[true, true, true, true, true, true, true, true, true, true, true, true, true, true, true, true, true, true, false, false, false, false, false, false, false, false, false, false, false] rfl (by kernel_rfl) (fun _ _ _ _ h => h) rfl rfl rfl rfl rfl h1012 ?_
        refine ga_no (i := 18) #[true, true, true, true, true, true, true, true, true, true, true, true, true, true, true, true, true, true, true, false, false, false, false, false, false, false, false, false, false] rfl (by kernel_rfl) (fun _ _ _ _ h => h) rfl rfl rfl rfl rfl h1012 ?_
        refine ga_no (i := 19) #[true, true, true, true, true, true, true, true, true, true, true, true, true, true, true, true, true, true, true, true, false, false, false, false, false, false, false, false, false] rfl (by kernel_rfl) (fun _ _ _ _ h => h) rfl rfl rfl rfl rfl h1012 ?_
        refine ga_no (i := 20) #[true, true, true, true, true, true, true, true, true, true, true, true, true, true, true, true, true, true, true, true, true, false, false, false, false, false, false, false, false] rfl (by kernel_rfl) (fun _ _ _ _ h => h) rfl rfl rfl rfl rfl h1012 ?_
        refine ga_no (i := 21) #[true, true, true, true, true, true, true, true, true, true, true, true, true, true, true, true, true, true, true, true, true, true, false, false, false, false, false, false, false] rfl (by kernel_rfl) (fun _ _ _ _ h => h) rfl rfl rfl rfl rfl h1012 ?_
        refine ga_no (i := 22) #[true, true, true, true, true, true, true, true, true, true, true, true, true, true, true, true, true, true, true, true, true, true, true, false, false, false, false, false, false] rfl (by kernel_rfl) (fun _ _ _ _ h => h) rfl rfl rfl rfl rfl h1012 ?_
        refine ga_no (i := 23) #[true, true, true, true, true, true, true, true, true, true, true, true, true, true, true, true, true, true, true, true, true, true, true, true, false, false, false, false, false] rfl (by kernel_rfl) (fun _ _ _ _ h => h) rfl rfl rfl rfl rfl h1012 ?_
        refine ga_no (i := 24) #[true, true, true, true, true, true, true, true, true, true, true, true, true, true, true, true, true, true, true, true, true, true, true, true, true, false, false, false, false] rfl (by kernel_rfl) (fun _ _ _ _ h => h) rfl rfl rfl rfl rfl h1012 ?_
        refine ga_no (i := 25) #[true, true, true, true, true, true, true, true, true, true, true, true, true, true, true, true, true, true, true, true, true, true, true, true, true, true, false, false, false] rfl (by kernel_rfl) (fun _ _ _ _ h => h) rfl rfl rfl rfl rfl h1012 ?_
        refine ga_no (i := 26) #[true, true, true, true, true, true, true, true, true, true, true, true, true, true, true, true, true, true, true, true, true, true, true, true, true, true, true, false, false] rfl (by kernel_rfl) (fun _ _ _ _ h => h) rfl rfl rfl rfl rfl h1012 ?_
        refine ga_no (i := 27) #[true, true, true, true, true, true, true, true, true, true, true, true, true, true, true, true, true, true, true, true, true, true, true, true, true, true, true, true, false] rfl (by kernel_rfl) (fun _ _ _ _ h => h) rfl rfl rfl rfl rfl h1012 ?_
        refine ga_r (i := 28) #[true, true, true, true, true, true, true, true, true, true, true, true, true, true, true, true, true, true, true, true, true, true, true, true, true, true, true, true, true] rfl (by kernel_rfl) (by decide) rfl (r_pick0 rfl h1012) ?_
        refine ga_done (by kernel_rfl) ?_
        refine d_then ?_
        refine c_flat [(2, .pointer (some ⟨g1, 0, none⟩)), (3, .pointer (some ⟨g2, 0, none⟩)), (7, .int .i64 i925), (72, .bool false)] ⟨rfl, rfl, rfl, rfl, trivial⟩ (fun u => ?_)
        refine c_sta ⟨w0, M, (100030, g2, .cells #[.int .i64 p1.fTerm, .int .i64 p1.fVote, .slice Ap1_0 p1.fVoters.length cp1_0, .string p1.fSnap, .int .i64 p1.fLog.fBase, .int .i64 p1.fLog.fBaseTerm, .slice Ap1_1 p1.fLog.fEntries.length cp1_1] 44 (0, 0)) :: (100020, g1, .cells #[.int .i64 p0.fTerm, .int .i64 p0.fVote, .slice Ap0_0 p0.fVoters.length cp0_0, .string p0.fSnap, .int .i64 p0.fLog.fBase, .int .i64 p0.fLog.fBaseTerm, .slice Ap0_1 p0.fLog.fEntries.length cp0_1] 44 (0, 0)) :: H, R, φ⟩ (fun _ h => h) ?_
        refine c_cond0 rfl rfl ?_
        refine c_exit ?_
        refine d_exit_then ?_
        refine d_exit_then ?_
        refine d_exit_block ?_
        replace hm := nx_out (C := (fun e => m_ref11_Save_j1 p1 p0 e = some r)) hm hnx2 hr2
        exact d_round i925 hm Nat.zero_lt_one ⟨rfl, rfl, rfl, trivial⟩ (fun W h => h.phi (fun W hφ => hφ))
      ·
       replace hm := ite_f hm (of_decide_eq_false h1011)
       refine ga_no (i := 7) #[true, true, true, true, true, true, true, true, false, false, false, false, false, false, false, false, false, false, false, false, false, false, false, false, false, false, false, false, false] rfl (by kernel_rfl) (fun _ _ _ _ h => h) rfl rfl rfl rfl rfl h1011 ?_
       refine ga_no (i := 8) #[true, true, true, true, true, true, true, true, true, false, false, false, false, false, false, false, false, false, false, false, false, false, false, false, false, false, false, false, false] rfl (by kernel_rfl) (fun _ _ _ _ h => h) rfl rfl rfl rfl rfl h1011 ?_
       refine ga_no (i := 9) #[true, true, true, true, true, true, true, true, true, true, false, false, false, false, false, false, false, false, false, false, false, false, false, false, false, false, false, false, false] rfl (by kernel_rfl) (fun _ _ _ _ h => h) rfl rfl rfl rfl rfl h1011 ?_
       refine ga_no (i := 10) #[true, true, true, true, true, true, true, true, true, true, true, false, false, false, false, false, false, false, false, false, false, false, false, false, false, false, false, false, false] rfl (by kernel_rfl) (fun _ _ _ _ h => h) rfl rfl rfl rfl rfl h1011 ?_
       refine ga_no (i := 11) #[true, true, true, true, true, true, true, true, true, true, true, true, false, false, false, false, false, false, false, false, false, false, false, false, false, false, false, false, false] rfl (by kernel_rfl) (fun _ _ _ _ h => h) rfl rfl rfl rfl rfl h1011 ?_
       refine ga_no (i := 12) #[true, true, true, true, true, true, true, true, true, true, true, true, true, false, false, false, false, false, false, false, false, false, false, false, false, false, false, false, false] rfl (by kernel_rfl) (fun _ _ _ _ h => h) rfl rfl rfl rfl rfl h1011 ?_
       refine ga_r (i := 13) #[true, true, true, true, true, true, true, true, true, true, true, true, true, true, false, false, false, false, false, false, false, false, false, false, false, false, false, false, false] rfl (by kernel_rfl) (by decide) rfl (r_pick0 rfl h1011) ?_
       refine ga_r (i := 14) #[true, true, true, true, true, true, true, true, true, true, true, true, true, true, true, false, false, false, false, false, false, false, false, false, false, false, false, false, false] rfl (by kernel_rfl) (by decide) rfl (r_move) ?_
       refine ga_no (i := 15) #[true, true, true, true, true, true, true, true, true, true, true, true, true, true, true, true, false, false, false, false, false, false, false, false, false, false, false, false, false] rfl (by kernel_rfl) (fun _ _ _ _ h => h) rfl rfl rfl rfl rfl rfl ?_
       refine ga_no (i := 16) #[true, true, true, true, true, true, true, true, true, true, true, true, true, true, true, true, true, false, false, false, false, false, false, false, false, false, false, false, false] rfl (by kernel_rfl) (fun _ _ _ _ h => h) rfl rfl rfl rfl rfl rfl ?_
       refine ga_no (i := 17) #[true, true, true, true, true, true, true, true, true, true, true, true, true, true, true, true, true, true, false, false, false, false, false, false, false, false, false, false, false] rfl (by kernel_rfl) (fun _ _ _ _ h => h) rfl rfl rfl rfl rfl rfl ?_
       refine ga_no (i := 18) #[true, true, true, true, true, true, true, true, true, true, true, true, true, true, true, true, true, true, true, false, false, false, false, false, false, false, false, false, false] rfl (by kernel_rfl) (fun _ _ _ _ h => h) rfl rfl rfl rfl rfl rfl ?_
       refine ga_no (i := 19) #[true, true, true, true, true, true, true, true, true, true, true, true, true, true, true, true, true, true, true, true, false, false, false, false, false, false, false, false, false] rfl (by kernel_rfl) (fun _ _ _ _ h => h) rfl rfl rfl rfl rfl rfl ?_
       refine ga_no (i := 20) #[true, true, true, true, true, true, true, true, true, true, true, true, true, true, true, true, true, true, true, true, true, false, false, false, false, false, false, false, false] rfl (by kernel_rfl) (fun _ _ _ _ h => h) rfl rfl rfl rfl rfl rfl ?_
       refine ga_no (i := 21) #[true, true, true, true, true, true, true, true, true, true, true, true, true, true, true, true, true, true, true, true, true, true, false, false, false, false, false, false, false] rfl (by kernel_rfl) (fun _ _ _ _ h => h) rfl rfl rfl rfl rfl rfl ?_
       refine ga_no (i := 22) #[true, true, true, true, true, true, true, true, true, true, true, true, true, true, true, true, true, true, true, true, true, true, true, false, false, false, false, false, false] rfl (by kernel_rfl) (fun _ _ _ _ h => h) rfl rfl rfl rfl rfl rfl ?_
       refine ga_no (i := 23) #[true, true, true, true, true, true, true, true, true, true, true, true, true, true, true, true, true, true, true, true, true, true, true, true, false, false, false, false, false] rfl (by kernel_rfl) (fun _ _ _ _ h => h) rfl rfl rfl rfl rfl rfl ?_
       refine ga_no (i := 24) #[true, true, true, true, true, true, true, true, true, true, true, true, true, true, true, true, true, true, true, true, true, true, true, true, true, false, false, false, false] rfl (by kernel_rfl) (fun _ _ _ _ h => h) rfl rfl rfl rfl rfl rfl ?_
       refine ga_no (i := 25) #[true, true, true, true, true, true, true, true, true, true, true, true, true, true, true, true, true, true, true, true, true, true, true, true, true, true, false, false, false] rfl (by kernel_rfl) (fun _ _ _ _ h => h) rfl rfl rfl rfl rfl rfl ?_
       refine ga_no (i := 26) #[true, true, true, true, true, true, true, true, true, true, true, true, true, true, true, true, true, true, true, true, true, true, true, true, true, true, true, false, false] rfl (by kernel_rfl) (fun _ _ _ _ h => h) rfl rfl rfl rfl rfl rfl ?_
       refine ga_no (i := 27) #[true, true, true, true, true, true, true, true, true, true, true, true, true, true, true, true, true, true, true, true, true, true, true, true, true, true, true, true, false] rfl (by kernel_rfl) (fun _ _ _ _ h => h) rfl rfl rfl rfl rfl rfl ?_
       refine ga_r (i := 28) #[true, true, true, true, true, true, true, true, true, true, true, true, true, true, true, true, true, true, true, true, true, true, true, true, true, true, true, true, true] rfl (by kernel_rfl) (by decide) rfl (r_pick0 rfl rfl) ?_
       refine ga_done (by kernel_rfl) ?_
       refine d_then ?_
       refine c_flat [(2, .pointer (some ⟨g1, 0, none⟩)), (3, .pointer (some ⟨g2, 0, none⟩)), (7, .int .i64 i925), (72, .bool false)] ⟨rfl, rfl, rfl, rfl, trivial⟩ (fun u => ?_)
       refine c_sta ⟨w0, M, (100030, g2, .cells #[.int .i64 p1.fTerm, .int .i64 p1.fVote, .slice Ap1_0 p1.fVoters.length cp1_0, .string p1.fSnap, .int .i64 p1.fLog.fBase, .int .i64 p1.fLog.fBaseTerm, .slice Ap1_1 p1.fLog.fEntries.length cp1_1] 44 (0, 0)) :: (100020, g1, .cells #[.int .i64 p0.fTerm, .int .i64 p0.fVote, .slice Ap0_0 p0.fVoters.length cp0_0, .string p0.fSnap, .int .i64 p0.fLog.fBase, .int .i64 p0.fLog.fBaseTerm, .slice Ap0_1 p0.fLog.fEntries.length cp0_1] 44 (0, 0)) :: H, R, φ⟩ (fun _ h => h) ?_
       refine c_cond0 rfl rfl ?_
       refine c_exit ?_
       refine d_exit_then ?_
       refine d_exit_then ?_
       refine d_exit_block ?_
       replace hm := nx_out (C := (fun e => m_ref11_Save_j1 p1 p0 e = some r)) hm hnx2 hr2
       exact d_round i925 hm Nat.zero_lt_one ⟨rfl, rfl, rfl, trivial⟩ (fun W h => h.phi (fun W hφ => hφ))
     ·
      unfold m_ref11_Save_j1 at hm
      refine d_flat [(2, .pointer (some ⟨g1, 0, none⟩)), (3, .pointer (some ⟨g2, 0, none⟩)), (7, .int .i64 i144)] ⟨rfl, rfl, rfl, trivial⟩ (fun u => ?_)
      refine d_sta ⟨w0, M, (100030, g2, .cells #[.int .i64 p1.fTerm, .int .i64 p1.fVote, .slice Ap1_0 p1.fVoters.length cp1_0, .string p1.fSnap, .int .i64 p1.fLog.fBase, .int .i64 p1.fLog.fBaseTerm, .slice Ap1_1 p1.fLog.fEntries.length cp1_1] 44 (0, 0)) :: (100020, g1, .cells #[.int .i64 p0.fTerm, .int .i64 p0.fVote, .slice Ap0_0 p0.fVoters.length cp0_0, .string p0.fSnap, .int .i64 p0.fLog.fBase, .int .i64 p0.fLog.fBaseTerm, .slice Ap0_1 p0.fLog.fEntries.length cp0_1] 44 (0, 0)) :: H, R, φ⟩ (fun _ h => h) ?_
      refine d_then ?_
      refine c_seq ?_
      refine c_cut (ι := Unit) [2, 3, 7] (fun _ => []) (fun _ => ⟨w0, M, (100030, g2, .cells #[.int .i64 p1.fTerm, .int .i64 p1.fVote, .slice Ap1_0 p1.fVoters.length cp1_0, .string p1.fSnap, .int .i64 p1.fLog.fBase, .int .i64 p1.fLog.fBaseTerm, .slice Ap1_1 p1.fLog.fEntries.length cp1_1] 44 (0, 0)) :: (100020, g1, .cells #[.int .i64 p0.fTerm, .int .i64 p0.fVote, .slice Ap0_0 p0.fVoters.length cp0_0, .string p0.fSnap, .int .i64 p0.fLog.fBase, .int .i64 p0.fLog.fBaseTerm, .slice Ap0_1 p0.fLog.fEntries.length cp0_1] 44 (0, 0)) :: H, R, φ⟩) (fun _ => m_ref11_Save_j3 p0 p1 i144 = some r) ?_ (fun _ u hm => ?_)
      ·
       refine c_seq ?_
       refine c_region ?_
       refine g_v rfl r_move ?_
       refine g_v rfl (r_field (n := 4) Try.underlying44 rfl Try.sizeOf26 rfl rfl) ?_
       refine g_v rfl (r_field (n := 6) Try.underlying26 rfl Try.sizeOf24 rfl rfl) ?_
       refine g_v rfl (r_load (tag := 100030) rfl rfl rfl Try.isAgg24) ?_
       refine g_v rfl (r_lenL Try.underlying24 rfl) ?_
       refine g_v rfl (r_eql rfl rfl) ?_
       refine g_v rfl r_move ?_
       refine g_if rfl rfl rfl rfl rfl (fun h1397 => ?_) (fun h1397 => ?_)
       ·
        replace hm := ite_t hm (of_decide_eq_true h1397)
        refine g_v rfl r_move ?_
        refine g_do rfl rfl rfl rfl rfl h1397 ?_
        refine g_v rfl (r_field (n := 4) Try.underlying44 rfl Try.sizeOf26 rfl rfl) ?_
        refine g_do rfl rfl rfl rfl rfl h1397 ?_
        refine g_v rfl (r_field (n := 6) Try.underlying26 rfl Try.sizeOf24 rfl rfl) ?_
        refine g_do rfl rfl rfl rfl rfl h1397 ?_
        refine g_v rfl (r_load (tag := 100020) rfl rfl rfl Try.isAgg24) ?_
        refine g_do rfl rfl rfl rfl rfl h1397 ?_
        refine g_v rfl (r_lenL Try.underlying24 rfl) ?_
        refine g_do rfl rfl rfl rfl rfl h1397 ?_
        refine g_v rfl (r_lss rfl rfl) ?_
        refine g_v rfl (r_pick1 rfl h1397) ?_
        refine g_nil ?_
        refine d_then ?_
        refine c_flat [(2, .pointer (some ⟨g1, 0, none⟩)), (3, .pointer (some ⟨g2, 0, none⟩)), (7, .int .i64 i144), (88, .bool (decide (i144 < (p0.fLog.fEntries.length : Int))))] ⟨rfl, rfl, rfl, rfl, trivial⟩ (fun u => ?_)
        refine c_sta ⟨w0, M, (100030, g2, .cells #[.int .i64 p1.fTerm, .int .i64 p1.fVote, .slice Ap1_0 p1.fVoters.length cp1_0, .string p1.fSnap, .int .i64 p1.fLog.fBase, .int .i64 p1.fLog.fBaseTerm, .slice Ap1_1 p1.fLog.fEntries.length cp1_1] 44 (0, 0)) :: (100020, g1, .cells #[.int .i64 p0.fTerm, .int .i64 p0.fVote, .slice Ap0_0 p0.fVoters.length cp0_0, .string p0.fSnap, .int .i64 p0.fLog.fBase, .int .i64 p0.fLog.fBaseTerm, .slice Ap0_1 p0.fLog.fEntries.length cp0_1] 44 (0, 0)) :: H, R, φ⟩ (fun _ h => h) ?_
        refine c_cond rfl (fun h1398 => ?_) (fun h1398 => ?_)
        ·
         replace hm := ite_t hm (of_decide_eq_true h1398)
         refine c_seq ?_
         refine c_region ?_
         refine g_v rfl (r_loadA (tag := 100030) rfl rfl Try.isAgg44 Try.sizeOf44 rfl rfl) ?_
         replace hm := bnd hm
         obtain ⟨x1399, hx1400, hm⟩ := hm
         refine g_cn ⟨w0, M, _, _, φ⟩ (fun _ h => h) Try.call83 rfl rfl (c_ref11_whole p1 Ap1_0 cp1_0 hcp1_0 (fun W hS => fp1_0 W (ok_pre (H1 := [_, _]) (R1 := []) hS (fun W h => h))) Ap1_1 cp1_1 hcp1_1 (fun W hS => fp1_1 W (ok_pre (H1 := [_, _]) (R1 := []) hS (fun W h => h))) _ hx1400) (fun ⟨A1401, c1402⟩ hc1402 => ?_)
         refine g_sta _ (fun W h => ok_frontR (t := 2000) (t' := 100900) h rfl) ?_
         refine g_v rfl r_assign ?_
         refine g_v rfl r_assign ?_
         refine g_nil ?_
         refine d_then ?_
         refine c_ret ?_
         refine d_ret_then ?_
         refine d_ret_then ?_
         replace hm := Option.some.inj hm
         subst hm
         refine d_sta _ (fun W h => ok_frontR (t := 100900) (t' := 2000) h rfl) ?_
         refine d_retC (A1401, c1402) Try.results42 ?_ hc1402 (fun W h => ((h.dropH (t := 100030) rfl).dropH (t := 100020) rfl).phi (fun W hφ => hφ)) (.inr rfl)
         refine res_tmp ?_
         refine res_tmp ?_
         refine res_nil ?_
         exact rfl
        ·
         replace hm := ite_f hm (of_decide_eq_false h1398)
         refine c_skip ?_
         exact d_round () hm Nat.zero_lt_one ⟨rfl, rfl, rfl, trivial⟩ (fun W h => h.phi (fun W hφ => hφ))
       ·
        replace hm := ite_f hm (of_decide_eq_false h1397)
        refine g_no rfl rfl rfl rfl rfl h1397 ?_
        refine g_no rfl rfl rfl rfl rfl h1397 ?_
        refine g_no rfl rfl rfl rfl rfl h1397 ?_
        refine g_no rfl rfl rfl rfl rfl h1397 ?_
        refine g_no rfl rfl rfl rfl rfl h1397 ?_
        refine g_v rfl (r_pick0 rfl h1397) ?_
        refine g_nil ?_
        refine d_then ?_
        refine c_cond0 rfl rfl ?_
        refine c_skip ?_
        exact d_round () hm Nat.zero_lt_one ⟨rfl, rfl, rfl, trivial⟩ (fun W h => h.phi (fun W hφ => hφ))
      ·
       unfold m_ref11_Save_j3 at hm
       refine d_flat [(2, .pointer (some ⟨g1, 0, none⟩)), (3, .pointer (some ⟨g2, 0, none⟩)), (7, .int .i64 i144)] ⟨rfl, rfl, rfl, trivial⟩ (fun u => ?_)
       refine d_sta ⟨w0, M, (100030, g2, .cells #[.int .i64 p1.fTerm, .int .i64 p1.fVote, .slice Ap1_0 p1.fVoters.length cp1_0, .string p1.fSnap, .int .i64 p1.fLog.fBase, .int .i64 p1.fLog.fBaseTerm, .slice Ap1_1 p1.fLog.fEntries.length cp1_1] 44 (0, 0)) :: (100020, g1, .cells #[.int .i64 p0.fTerm, .int .i64 p0.fVote, .slice Ap0_0 p0.fVoters.length cp0_0, .string p0.fSnap, .int .i64 p0.fLog.fBase, .int .i64 p0.fLog.fBaseTerm, .slice Ap0_1 p0.fLog.fEntries.length cp0_1] 44 (0, 0)) :: H, R, φ⟩ (fun _ h => h) ?_
       refine d_then ?_
       refine c_seq ?_
       refine c_region ?_
       refine g_v rfl r_assign ?_
       refine g_nil ?_
       refine d_then ?_
       refine c_seq ?_
       refine c_sta _ (fun W h => nilR h 28 9 1) ?_
       refine c_cut (ι := (List ByteArray) × Option Addr × Nat) [3, 7, 8] (fun ⟨l1528, A1529, c1530⟩ => [(8, .slice A1529 l1528.length c1530)]) (fun ⟨l1528, A1529, c1530⟩ => ⟨w0, M, (100030, g2, .cells #[.int .i64 p1.fTerm, .int .i64 p1.fVote, .slice Ap1_0 p1.fVoters.length cp1_0, .string p1.fSnap, .int .i64 p1.fLog.fBase, .int .i64 p1.fLog.fBaseTerm, .slice Ap1_1 p1.fLog.fEntries.length cp1_1] 44 (0, 0)) :: H, (28, ⟨.slice A1529 l1528.length c1530, 9, 1, l1528.length, l1528.flatMap (fun x : ByteArray => [Value.string x])⟩) :: R, φ⟩) (fun ⟨l1528, A1529, c1530⟩ => m_ref11_Save_j4 p1 i144 l1528 = some r ∧ l1528.length ≤ c1530) ?_ (fun ⟨l1528, A1529, c1530⟩ u ⟨hm, hc1530⟩ => ?_)
       ·
        refine c_seq ?_
        refine c_region ?_
        refine g_v rfl (r_field (n := 0) Try.underlying44 rfl Try.sizeOf3 rfl rfl) ?_
        refine g_v rfl (r_load (tag := 100020) rfl rfl rfl Try.isAgg3) ?_
        refine g_v rfl (r_field (n := 0) Try.underlying44 rfl Try.sizeOf3 rfl rfl) ?_
        refine g_v rfl (r_load (tag := 100030) rfl rfl rfl Try.isAgg3) ?_
        refine g_v rfl (r_neq rfl rfl) ?_
        refine g_v rfl r_move ?_
        refine g_if rfl rfl rfl rfl rfl (fun h1620 => ?_) (fun h1620 => ?_)
        ·
         replace hm := ite_f hm (of_decide_eq_false h1620)
         refine g_v rfl (r_field (n := 1) Try.underlying44 rfl Try.sizeOf3 rfl rfl) ?_
         refine g_do rfl rfl rfl rfl rfl h1620 ?_
         refine g_v rfl (r_load (tag := 100020) rfl rfl rfl Try.isAgg3) ?_
         refine g_do rfl rfl rfl rfl rfl h1620 ?_
         refine g_v rfl (r_field (n := 1) Try.underlying44 rfl Try.sizeOf3 rfl rfl) ?_
         refine g_do rfl rfl rfl rfl rfl h1620 ?_
         refine g_v rfl (r_load (tag := 100030) rfl rfl rfl Try.isAgg3) ?_
         refine g_do rfl rfl rfl rfl rfl h1620 ?_
         refine g_v rfl (r_neq rfl rfl) ?_
         refine g_v rfl (r_pick0 rfl h1620) ?_
         refine g_nil ?_
         refine d_then ?_
         refine c_flat [(3, .pointer (some ⟨g2, 0, none⟩)), (7, .int .i64 i144), (8, .slice none 0 0), (102, .bool (decide (p0.fVote ≠ p1.fVote)))] ⟨rfl, rfl, rfl, rfl, trivial⟩ (fun u => ?_)
         refine c_sta ⟨w0, M, (100030, g2, .cells #[.int .i64 p1.fTerm, .int .i64 p1.fVote, .slice Ap1_0 p1.fVoters.length cp1_0, .string p1.fSnap, .int .i64 p1.fLog.fBase, .int .i64 p1.fLog.fBaseTerm, .slice Ap1_1 p1.fLog.fEntries.length cp1_1] 44 (0, 0)) :: (100020, g1, .cells #[.int .i64 p0.fTerm, .int .i64 p0.fVote, .slice Ap0_0 p0.fVoters.length cp0_0, .string p0.fSnap, .int .i64 p0.fLog.fBase, .int .i64 p0.fLog.fBaseTerm, .slice Ap0_1 p0.fLog.fEntries.length cp0_1] 44 (0, 0)) :: H, (28, ⟨.slice none 0 0, 9, 1, 0, []⟩) :: R, φ⟩ (fun _ h => h) ?_
         refine c_cond rfl (fun h1621 => ?_) (fun h1621 => ?_)
         ·
          replace hm := ite_t hm (of_decide_eq_true h1621)
          refine ga_start (n := 12) ⟨w0, M, (100030, g2, .cells #[.int .i64 p1.fTerm, .int .i64 p1.fVote, .slice Ap1_0 p1.fVoters.length cp1_0, .string p1.fSnap, .int .i64 p1.fLog.fBase, .int .i64 p1.fLog.fBaseTerm, .slice Ap1_1 p1.fLog.fEntries.length cp1_1] 44 (0, 0)) :: (100020, g1, .cells #[.int .i64 p0.fTerm, .int .i64 p0.fVote, .slice Ap0_0 p0.fVoters.length cp0_0, .string p0.fSnap, .int .i64 p0.fLog.fBase, .int .i64 p0.fLog.fBaseTerm, .slice Ap0_1 p0.fLog.fEntries.length cp0_1] 44 (0, 0)) :: H, R, φ⟩ [] #[false, false, false, false, false, false, false, false, false, false, false, false] (fun W h => ((h.shut (t := 28) rfl).phi (fun _ hh => hh.1)).phi (fun W hφ => hφ)) mixed rfl rfl ?_
          refine ga_v (i := 0) #[true, false, false, false, false, false, false, false, false, false, false, false] rfl (by kernel_rfl) (fun _ _ _ _ h => h) rfl (r_move) ?_
          refine ga_v (i := 1) #[true, true, false, false, false, false, false, false, false, false, false, false] rfl (by kernel_rfl) (fun _ _ _ _ h => h) rfl (r_field (n := 0) Try.underlying44 rfl Try.sizeOf3 rfl rfl) ?_
          refine ga_v (i := 2) #[true, true, true, false, false, false, false, false, false, false, false, false] rfl (by kernel_rfl) (fun _ _ _ _ h => h) rfl (r_load (tag := 100030) rfl rfl rfl Try.isAgg3) ?_
          refine ga_v (i := 5) #[true, true, true, false, false, true, false, false, false, false, false, false] rfl (by kernel_rfl) (fun _ _ _ _ h => h) rfl (r_field (n := 1) Try.underlying44 rfl Try.sizeOf3 rfl rfl) ?_
          refine ga_v (i := 6) #[true, true, true, false, false, true, true, false, false, false, false, false] rfl (by kernel_rfl) (fun _ _ _ _ h => h) rfl (r_load (tag := 100030) rfl rfl rfl Try.isAgg3) ?_
          replace hm := bnd hm
          obtain ⟨x1642, hx1643, hm⟩ := hm
          refine ga_cn (first := #[]) (i := 3) #[true, true, true, true, false, true, true, false, false, false, false, false] rfl (by kernel_rfl) (by decide)  ⟨w0, M, _, _, φ⟩ (fun _ h => h) Try.call84 rfl rfl rfl (c_ref11_number p1.fTerm _ hx1643) (fun _ W _ h => ((h.shut (t := 28) rfl).phi (fun _ hh => hh.1)).phi (fun W hφ => hφ)) (fun _ _ => ?_)
          replace hm := bnd hm
          obtain ⟨s1644, hs1644, hm⟩ := hm
          refine ga_v (i := 4) #[true, true, true, true, true, true, true, false, false, false, false, false] rfl (by kernel_rfl) (fun _ _ _ _ h => h) rfl (r_addT rfl rfl hs1644) ?_
          replace hm := bnd hm
          obtain ⟨x1645, hx1646, hm⟩ := hm
          refine ga_cn (first := #[]) (i := 7) #[true, true, true, true, true, true, true, true, false, false, false, false] rfl (by kernel_rfl) (by decide)  ⟨w0, M, _, _, φ⟩ (fun _ h => h) Try.call84 rfl rfl rfl (c_ref11_number p1.fVote _ hx1646) (fun _ W _ h => ((h.shut (t := 28) rfl).phi (fun _ hh => hh.1)).phi (fun W hφ => hφ)) (fun _ _ => ?_)
          replace hm := bnd hm
          obtain ⟨s1647, hs1647, hm⟩ := hm
          refine ga_r (i := 8) #[true, true, true, true, true, true, true, true, true, false, false, false] rfl (by kernel_rfl) (by decide) rfl (r_addT rfl rfl hs1647) ?_
          refine ga_e (i := 9) #[true, true, true, true, true, true, true, true, true, true, false, false] rfl (by kernel_rfl) (by decide) rfl  (e_lit (tag := 101120) (l := [s1647]) (enc := (fun x : ByteArray => [Value.string x])) (sz := 1) rfl Try.underlying58 (lit9_14 _) rfl rfl (fun _ => rfl)) (fun g1648 W _ h => ((((h.shut (t := 101120) rfl).phi (fun _ hh => hh.1)).shut (t := 28) rfl).phi (fun _ hh => hh.1)).phi (fun W hφ => hφ)) (fun g1648 _ => ?_)
          replace hm := bnd hm
          obtain ⟨l1649, hl1649, hm⟩ := hm
          refine ga_e (i := 10) #[true, true, true, true, true, true, true, true, true, true, true, false] rfl (by kernel_rfl) (by decide) rfl  (e_appR (enc := (fun x : ByteArray => [Value.string x])) (l := []) (l1 := [s1647]) (l2 := l1649) (tag := 28) Try.underlying58 inf9_15 rfl (by decide) (by decide) (fun _ => rfl) (fun _ => rfl) rfl (Nat.le_refl 0) rfl rfl (fun W hS => rowCl (tag := 101120) rfl W hS) hl1649) (fun ⟨A1650, c1651⟩ W hc1651 h => ((((h.shut (t := 101120) rfl).phi (fun _ hh => hh.1)).shut (t := 28) rfl).phi (fun _ hh => hh.1)).phi (fun W hφ => hφ)) (fun ⟨A1650, c1651⟩ hc1651 => ?_)
          refine ga_r (i := 11) #[true, true, true, true, true, true, true, true, true, true, true, true] rfl (by kernel_rfl) (by decide) rfl (r_assign) ?_
          refine ga_done (by kernel_rfl) ?_
          exact d_round (l1649, A1650, c1651) ⟨hm, hc1651⟩ Nat.zero_lt_one ⟨rfl, rfl, rfl, trivial⟩ (fun W h => (((h.shut (t := 101120) rfl).phi (fun _ hh => hh.1)).dropH (t := 100020) rfl).phi (fun W hφ => hφ))
         ·
          replace hm := ite_f hm (of_decide_eq_false h1621)
          refine c_skip ?_
          exact d_round (([] : List ByteArray), none, 0) ⟨hm, (Nat.le_refl 0)⟩ Nat.zero_lt_one ⟨rfl, rfl, rfl, trivial⟩ (fun W h => (h.dropH (t := 100020) rfl).phi (fun W hφ => hφ))
        ·
         replace hm := ite_t hm (of_decide_eq_true h1620)
         refine g_no rfl rfl rfl rfl rfl h1620 ?_
         refine g_no rfl rfl rfl rfl rfl h1620 ?_
         refine g_no rfl rfl rfl rfl rfl h1620 ?_
         refine g_no rfl rfl rfl rfl rfl h1620 ?_
         refine g_v rfl (r_pick1 rfl h1620) ?_
         refine g_nil ?_
         refine d_then ?_
         refine c_cond1 rfl rfl ?_
         refine ga_start (n := 12) ⟨w0, M, (100030, g2, .cells #[.int .i64 p1.fTerm, .int .i64 p1.fVote, .slice Ap1_0 p1.fVoters.length cp1_0, .string p1.fSnap, .int .i64 p1.fLog.fBase, .int .i64 p1.fLog.fBaseTerm, .slice Ap1_1 p1.fLog.fEntries.length cp1_1] 44 (0, 0)) :: (100020, g1, .cells #[.int .i64 p0.fTerm, .int .i64 p0.fVote, .slice Ap0_0 p0.fVoters.length cp0_0, .string p0.fSnap, .int .i64 p0.fLog.fBase, .int .i64 p0.fLog.fBaseTerm, .slice Ap0_1 p0.fLog.fEntries.length cp0_1] 44 (0, 0)) :: H, R, φ⟩ [] #[false, false, false, false, false, false, false, false, false, false, false, false] (fun W h => ((h.shut (t := 28) rfl).phi (fun _ hh => hh.1)).phi (fun W hφ => hφ)) mixed rfl rfl ?_
         refine ga_v (i := 0) #[true, false, false, false, false, false, false, false, false, false, false, false] rfl (by kernel_rfl) (fun _ _ _ _ h => h) rfl (r_move) ?_
         refine ga_v (i := 1) #[true, true, false, false, false, false, false, false, false, false, false, false] rfl (by kernel_rfl) (fun _ _ _ _ h => h) rfl (r_field (n := 0) Try.underlying44 rfl Try.sizeOf3 rfl rfl) ?_
         refine ga_v (i := 2) #[true, true, true, false, false, false, false, false, false, false, false, false] rfl (by kernel_rfl) (fun _ _ _ _ h => h) rfl (r_load (tag := 100030) rfl rfl rfl Try.isAgg3) ?_
         refine ga_v (i := 5) #[true, true, true, false, false, true, false, false, false, false, false, false] rfl (by kernel_rfl) (fun _ _ _ _ h => h) rfl (r_field (n := 1) Try.underlying44 rfl Try.sizeOf3 rfl rfl) ?_
         refine ga_v (i := 6) #[true, true, true, false, false, true, true, false, false, false, false, false] rfl (by kernel_rfl) (fun _ _ _ _ h => h) rfl (r_load (tag := 100030) rfl rfl rfl Try.isAgg3) ?_
         replace hm := bnd hm
         obtain ⟨x1672, hx1673, hm⟩ := hm
         refine ga_cn (first := #[]) (i := 3) #[true, true, true, true, false, true, true, false, false, false, false, false] rfl (by kernel_rfl) (by decide)  ⟨w0, M, _, _, φ⟩ (fun _ h => h) Try.call84 rfl rfl rfl (c_ref11_number p1.fTerm _ hx1673) (fun _ W _ h => ((h.shut (t := 28) rfl).phi (fun _ hh => hh.1)).phi (fun W hφ => hφ)) (fun _ _ => ?_)
         replace hm := bnd hm
         obtain ⟨s1674, hs1674, hm⟩ := hm
         refine ga_v (i := 4) #[true, true, true, true, true, true, true, false, false, false, false, false] rfl (by kernel_rfl) (fun _ _ _ _ h => h) rfl (r_addT rfl rfl hs1674) ?_
         replace hm := bnd hm
         obtain ⟨x1675, hx1676, hm⟩ := hm
         refine ga_cn (first := #[]) (i := 7) #[true, true, true, true, true, true, true, true, false, false, false, false] rfl (by kernel_rfl) (by decide)  ⟨w0, M, _, _, φ⟩ (fun _ h => h) Try.call84 rfl rfl rfl (c_ref11_number p1.fVote _ hx1676) (fun _ W _ h => ((h.shut (t := 28) rfl).phi (fun _ hh => hh.1)).phi (fun W hφ => hφ)) (fun _ _ => ?_)
         replace hm := bnd hm
         obtain ⟨s1677, hs1677, hm⟩ := hm
         refine ga_r (i := 8) #[true, true, true, true, true, true, true, true, true, false, false, false] rfl (by kernel_rfl) (by decide) rfl (r_addT rfl rfl hs1677) ?_
         refine ga_e (i := 9) #[true, true, true, true, true, true, true, true, true, true, false, false] rfl (by kernel_rfl) (by decide) rfl  (e_lit (tag := 101120) (l := [s1677]) (enc := (fun x : ByteArray => [Value.string x])) (sz := 1) rfl Try.underlying58 (lit9_14 _) rfl rfl (fun _ => rfl)) (fun g1678 W _ h => ((((h.shut (t := 101120) rfl).phi (fun _ hh => hh.1)).shut (t := 28) rfl).phi (fun _ hh => hh.1)).phi (fun W hφ => hφ)) (fun g1678 _ => ?_)
         replace hm := bnd hm
         obtain ⟨l1679, hl1679, hm⟩ := hm
         refine ga_e (i := 10) #[true, true, true, true, true, true, true, true, true, true, true, false] rfl (by kernel_rfl) (by decide) rfl  (e_appR (enc := (fun x : ByteArray => [Value.string x])) (l := []) (l1 := [s1677]) (l2 := l1679) (tag := 28) Try.underlying58 inf9_15 rfl (by decide) (by decide) (fun _ => rfl) (fun _ => rfl) rfl (Nat.le_refl 0) rfl rfl (fun W hS => rowCl (tag := 101120) rfl W hS) hl1679) (fun ⟨A1680, c1681⟩ W hc1681 h => ((((h.shut (t := 101120) rfl).phi (fun _ hh => hh.1)).shut (t := 28) rfl).phi (fun _ hh => hh.1)).phi (fun W hφ => hφ)) (fun ⟨A1680, c1681⟩ hc1681 => ?_)
         refine ga_r (i := 11) #[true, true, true, true, true, true, true, true, true, true, true, true] rfl (by kernel_rfl) (by decide) rfl (r_assign) ?_
         refine ga_done (by kernel_rfl) ?_
         exact d_round (l1679, A1680, c1681) ⟨hm, hc1681⟩ Nat.zero_lt_one ⟨rfl, rfl, rfl, trivial⟩ (fun W h => (((h.shut (t := 101120) rfl).phi (fun _ hh => hh.1)).dropH (t := 100020) rfl).phi (fun W hφ => hφ))
       ·
        unfold m_ref11_Save_j4 at hm
        refine d_flat [(3, .pointer (some ⟨g2, 0, none⟩)), (7, .int .i64 i144), (8, .slice A1529 l1528.length c1530)] ⟨rfl, rfl, rfl, trivial⟩ (fun u => ?_)
        refine d_sta ⟨w0, M, (100030, g2, .cells #[.int .i64 p1.fTerm, .int .i64 p1.fVote, .slice Ap1_0 p1.fVoters.length cp1_0, .string p1.fSnap, .int .i64 p1.fLog.fBase, .int .i64 p1.fLog.fBaseTerm, .slice Ap1_1 p1.fLog.fEntries.length cp1_1] 44 (0, 0)) :: H, (28, ⟨.slice A1529 l1528.length c1530, 9, 1, l1528.length, l1528.flatMap (fun x : ByteArray => [Value.string x])⟩) :: R, φ⟩ (fun _ h => h) ?_
        refine d_then ?_
        refine c_seq ?_
        refine c_seq ?_
        refine c_region ?_
        refine g_v rfl r_move ?_
        refine g_v rfl r_assign ?_
        refine g_nil ?_
        refine d_then ?_
        refine c_cut (ι := (List ByteArray) × Option Addr × Nat) [8] (fun ⟨l1725, A1726, c1727⟩ => [(8, .slice A1726 l1725.length c1727)]) (fun ⟨l1725, A1726, c1727⟩ => ⟨w0, M, H, (28, ⟨.slice A1726 l1725.length c1727, 9, 1, l1725.length, l1725.flatMap (fun x : ByteArray => [Value.string x])⟩) :: R, φ⟩) (fun ⟨l1725, A1726, c1727⟩ => m_ref11_Save_j5 l1725 = some r ∧ l1725.length ≤ c1727) ?_ (fun ⟨l1725, A1726, c1727⟩ u ⟨hm, hc1727⟩ => ?_)
        ·
         refine c_block ?_
         replace hm := bnd hm
         obtain ⟨out6, hl6, hr6⟩ := hm
         obtain ⟨n1754', hl6⟩ := loop_lp hl6
         refine c_loopU (ι := Nat × (List ByteArray) × Int × Option Addr × Nat) [3, 8, 9] (fun ⟨n1754, l1739, i1742, A1740, c1741⟩ => [(8, .slice A1740 l1739.length c1741), (9, .int .i64 i1742)]) (fun ⟨n1754, l1739, i1742, A1740, c1741⟩ => ⟨w0, M, (100030, g2, .cells #[.int .i64 p1.fTerm, .int .i64 p1.fVote, .slice Ap1_0 p1.fVoters.length cp1_0, .string p1.fSnap, .int .i64 p1.fLog.fBase, .int .i64 p1.fLog.fBaseTerm, .slice Ap1_1 p1.fLog.fEntries.length cp1_1] 44 (0, 0)) :: H, (28, ⟨.slice A1740 l1739.length c1741, 9, 1, l1739.length, l1739.flatMap (fun x : ByteArray => [Value.string x])⟩) :: R, φ⟩) (fun ⟨n1754, l1739, i1742, A1740, c1741⟩ => Lp (fun s => m_ref11_Save_s6 p1 s.1 s.2) n1754 (l1739, i1742) out6 ∧ l1739.length ≤ c1741) (fun ⟨n1754, l1739, i1742, A1740, c1741⟩ => n1754) (n1754', l1528, i144, A1529, c1530) ⟨hl6, hc1530⟩ ⟨rfl, rfl, rfl, trivial⟩ (fun W h => h.phi (fun W hφ => hφ)) (fun ⟨n1754, l1739, i1742, A1740, c1741⟩ u ⟨hlp, hc1741⟩ => ?_)
         obtain ⟨o6, hm, hnx6⟩ := lp_step hlp
         clear hlp
         replace hm : m_ref11_Save_s6 p1 l1739 i1742 = some o6 := hm
         unfold m_ref11_Save_s6 at hm
         refine c_flat [(3, .pointer (some ⟨g2, 0, none⟩)), (8, .slice A1740 l1739.length c1741), (9, .int .i64 i1742)] ⟨rfl, rfl, rfl, trivial⟩ (fun u => ?_)
         refine c_sta ⟨w0, M, (100030, g2, .cells #[.int .i64 p1.fTerm, .int .i64 p1.fVote, .slice Ap1_0 p1.fVoters.length cp1_0, .string p1.fSnap, .int .i64 p1.fLog.fBase, .int .i64 p1.fLog.fBaseTerm, .slice Ap1_1 p1.fLog.fEntries.length cp1_1] 44 (0, 0)) :: H, (28, ⟨.slice A1740 l1739.length c1741, 9, 1, l1739.length, l1739.flatMap (fun x : ByteArray => [Value.string x])⟩) :: R, φ⟩ (fun _ h => h) ?_
         refine c_seq ?_
         refine c_seq ?_
         refine c_region ?_
         refine g_v rfl r_move ?_
         refine g_v rfl (r_field (n := 4) Try.underlying44 rfl Try.sizeOf26 rfl rfl) ?_
         refine g_v rfl (r_field (n := 6) Try.underlying26 rfl Try.sizeOf24 rfl rfl) ?_
         refine g_v rfl (r_load (tag := 100030) rfl rfl rfl Try.isAgg24) ?_
         refine g_v rfl (r_lenL Try.underlying24 rfl) ?_
         refine g_v rfl (r_lss rfl rfl) ?_
         refine g_nil ?_
         refine d_then ?_
         refine c_cond rfl (fun h1763 => ?_) (fun h1763 => ?_)
         ·
          replace hm := ite_t hm (of_decide_eq_true h1763)
          refine c_skip ?_
          refine d_then ?_
          refine c_seq ?_
          refine c_block ?_
          refine c_region ?_
          refine g_v rfl r_move ?_
          refine g_v rfl (r_field (n := 4) Try.underlying44 rfl Try.sizeOf26 rfl rfl) ?_
          refine g_v rfl (r_loadA (tag := 100030) rfl rfl Try.isAgg26 Try.sizeOf26 rfl rfl) ?_
          refine g_v rfl r_move ?_
          replace hm := bnd hm
          obtain ⟨x1764, hx1765, hm⟩ := hm
          refine g_cn ⟨w0, M, _, _, φ⟩ (fun _ h => h) Try.call85 rfl rfl (c_ref11_entry p1.fLog Ap1_1 cp1_1 hcp1_1 (fun W hS => fp1_1 W (ok_pre (H1 := [_]) (R1 := [_]) hS (fun W h => h))) i1742 _ hx1765) (fun _ _ => ?_)
          refine g_e rfl (e_lit (tag := 101280) (l := [x1764]) (enc := (fun x : ByteArray => [Value.string x])) (sz := 1) rfl Try.underlying58 (lit9_14 _) rfl rfl (fun _ => rfl)) (fun g1766 _ => ?_)
          replace hm := bnd hm
          obtain ⟨l1767, hl1767, hm⟩ := hm
          refine g_e rfl (e_appR (enc := (fun x : ByteArray => [Value.string x])) (l := l1739) (l1 := [x1764]) (l2 := l1767) (tag := 28) Try.underlying58 inf9_15 rfl (by decide) (by decide) (fun _ => rfl) (fun _ => rfl) rfl hc1741 rfl rfl (fun W hS => rowCl (tag := 101280) rfl W hS) hl1767) (fun ⟨A1768, c1769⟩ hc1769 => ?_)
          refine g_v rfl r_assign ?_
          refine g_nil ?_
          refine d_normal_block ?_
          refine d_then ?_
          refine c_flat [(3, .pointer (some ⟨g2, 0, none⟩)), (8, .slice A1768 l1767.length c1769), (9, .int .i64 i1742)] ⟨rfl, rfl, rfl, trivial⟩ (fun u => ?_)
          refine c_sta ⟨w0, M, (100030, g2, .cells #[.int .i64 p1.fTerm, .int .i64 p1.fVote, .slice Ap1_0 p1.fVoters.length cp1_0, .string p1.fSnap, .int .i64 p1.fLog.fBase, .int .i64 p1.fLog.fBaseTerm, .slice Ap1_1 p1.fLog.fEntries.length cp1_1] 44 (0, 0)) :: H, (101280, ⟨.slice (some ⟨g1766, 0, none⟩) [x1764].length 1, 9, 1, [x1764].length, [x1764].flatMap (fun x : ByteArray => [Value.string x])⟩) :: (28, ⟨.slice A1768 l1767.length c1769, 9, 1, l1767.length, l1767.flatMap (fun x : ByteArray => [Value.string x])⟩) :: R, φ⟩ (fun _ h => h) ?_
          refine c_region ?_
          refine g_v rfl r_move ?_
          refine g_v rfl (r_add rfl rfl rfl) ?_
          refine g_v rfl r_assign ?_
          refine g_nil ?_
          obtain ⟨n1770, hn1770, hlp⟩ := nx_inl hm hnx6
          exact d_round (n1770, l1767, w64 (i1742 + 1), A1768, c1769) ⟨hlp, hc1769⟩ hn1770 ⟨rfl, rfl, rfl, trivial⟩ (fun W h => ((h.shut (t := 101280) rfl).phi (fun _ hh => hh.1)).phi (fun W hφ => hφ))
         ·
          replace hm := ite_f hm (of_decide_eq_false h1763)
          refine c_exit ?_
          refine d_exit_then ?_
          refine d_exit_then ?_
          refine d_exit_block ?_
          replace hm := nx_out (C := (fun e => m_ref11_Save_j5 e = some r)) hm hnx6 hr6
          exact d_round (l1739, A1740, c1741) ⟨hm, hc1741⟩ Nat.zero_lt_one ⟨rfl, trivial⟩ (fun W h => (h.dropH (t := 100030) rfl).phi (fun W hφ => hφ))
        ·
         unfold m_ref11_Save_j5 at hm
         refine d_flat [(8, .slice A1726 l1725.length c1727)] ⟨rfl, trivial⟩ (fun u => ?_)
         refine d_sta ⟨w0, M, H, (28, ⟨.slice A1726 l1725.length c1727, 9, 1, l1725.length, l1725.flatMap (fun x : ByteArray => [Value.string x])⟩) :: R, φ⟩ (fun _ h => h) ?_
         refine d_then ?_
         refine c_seq ?_
         refine c_region ?_
         refine g_v rfl r_move ?_
         refine g_v rfl r_assign ?_
         refine g_v rfl r_assign ?_
         refine g_nil ?_
         refine d_then ?_
         refine c_ret ?_
         replace hm := Option.some.inj hm
         subst hm
         refine d_sta _ (fun W h => ok_frontR (t := 28) (t' := 2000) h rfl) ?_
         refine d_retC (A1726, c1727) Try.results42 ?_ hc1727 (fun W h => h.phi (fun W hφ => hφ)) (.inr rfl)
         refine res_tmp ?_
         refine res_tmp ?_
         refine res_nil ?_
         exact rfl
   ·
    have h7' : x3 = false := by revert h7; cases x3 <;> simp
    replace hm := ite_f hm (bool_nt h7')
    refine g_no rfl rfl rfl rfl rfl h7 ?_
    refine g_no rfl rfl rfl rfl rfl h7 ?_
    refine g_no rfl rfl rfl rfl rfl h7 ?_
    refine g_no rfl rfl rfl rfl rfl h7 ?_
    refine g_v rfl (r_pick1 rfl h7) ?_
    refine g_nil ?_
    refine d_then ?_
    refine c_flat [(2, .pointer (some ⟨g1, 0, none⟩)), (3, .pointer (some ⟨g2, 0, none⟩)), (41, .bool true)] ⟨rfl, rfl, rfl, trivial⟩ (fun u => ?_)
    refine c_sta ⟨w0, M, (100030, g2, .cells #[.int .i64 p1.fTerm, .int .i64 p1.fVote, .slice Ap1_0 p1.fVoters.length cp1_0, .string p1.fSnap, .int .i64 p1.fLog.fBase, .int .i64 p1.fLog.fBaseTerm, .slice Ap1_1 p1.fLog.fEntries.length cp1_1] 44 (0, 0)) :: (100020, g1, .cells #[.int .i64 p0.fTerm, .int .i64 p0.fVote, .slice Ap0_0 p0.fVoters.length cp0_0, .string p0.fSnap, .int .i64 p0.fLog.fBase, .int .i64 p0.fLog.fBaseTerm, .slice Ap0_1 p0.fLog.fEntries.length cp0_1] 44 (0, 0)) :: H, R, φ⟩ (fun _ h => h) ?_
    refine c_cond1 rfl rfl ?_
    refine c_seq ?_
    refine c_region ?_
    refine g_v rfl (r_loadA (tag := 100030) rfl rfl Try.isAgg44 Try.sizeOf44 rfl rfl) ?_
    replace hm := bnd hm
    obtain ⟨x1771, hx1772, hm⟩ := hm
    refine g_cn ⟨w0, M, _, _, φ⟩ (fun _ h => h) Try.call83 rfl rfl (c_ref11_whole p1 Ap1_0 cp1_0 hcp1_0 (fun W hS => fp1_0 W (ok_pre (H1 := [_, _]) (R1 := []) hS (fun W h => h))) Ap1_1 cp1_1 hcp1_1 (fun W hS => fp1_1 W (ok_pre (H1 := [_, _]) (R1 := []) hS (fun W h => h))) _ hx1772) (fun ⟨A1773, c1774⟩ hc1774 => ?_)
    refine g_sta _ (fun W h => ok_frontR (t := 2000) (t' := 100430) h rfl) ?_
    refine g_v rfl r_assign ?_
    refine g_v rfl r_assign ?_
    refine g_nil ?_
    refine d_then ?_
    refine c_ret ?_
    refine d_ret_then ?_
    replace hm := Option.some.inj hm
    subst hm
    refine d_sta _ (fun W h => ok_frontR (t := 100430) (t' := 2000) h rfl) ?_
    refine d_retC (A1773, c1774) Try.results42 ?_ hc1774 (fun W h => ((h.dropH (t := 100030) rfl).dropH (t := 100020) rfl).phi (fun W hφ => hφ)) (.inr rfl)
    refine res_tmp ?_
    refine res_tmp ?_
    refine res_nil ?_
    exact rfl
  ·
   replace hm := ite_t hm (of_decide_eq_true h6)
   refine g_no rfl rfl rfl rfl rfl h6 ?_
   refine g_v rfl (r_pick1 rfl h6) ?_
   refine g_v rfl r_move ?_
   refine g_no rfl rfl rfl rfl rfl rfl ?_
   refine g_no rfl rfl rfl rfl rfl rfl ?_
   refine g_no rfl rfl rfl rfl rfl rfl ?_
   refine g_no rfl rfl rfl rfl rfl rfl ?_
   refine g_no rfl rfl rfl rfl rfl rfl ?_
   refine g_v rfl (r_pick1 rfl rfl) ?_
   refine g_nil ?_
   refine d_then ?_
   refine c_flat [(2, .pointer (some ⟨g1, 0, none⟩)), (3, .pointer (some ⟨g2, 0, none⟩)), (41, .bool true)] ⟨rfl, rfl, rfl, trivial⟩ (fun u => ?_)
   refine c_sta ⟨w0, M, (100030, g2, .cells #[.int .i64 p1.fTerm, .int .i64 p1.fVote, .slice Ap1_0 p1.fVoters.length cp1_0, .string p1.fSnap, .int .i64 p1.fLog.fBase, .int .i64 p1.fLog.fBaseTerm, .slice Ap1_1 p1.fLog.fEntries.length cp1_1] 44 (0, 0)) :: (100020, g1, .cells #[.int .i64 p0.fTerm, .int .i64 p0.fVote, .slice Ap0_0 p0.fVoters.length cp0_0, .string p0.fSnap, .int .i64 p0.fLog.fBase, .int .i64 p0.fLog.fBaseTerm, .slice Ap0_1 p0.fLog.fEntries.length cp0_1] 44 (0, 0)) :: H, R, φ⟩ (fun _ h => h) ?_
   refine c_cond1 rfl rfl ?_
   refine c_seq ?_
   refine c_region ?_
   refine g_v rfl (r_loadA (tag := 100030) rfl rfl Try.isAgg44 Try.sizeOf44 rfl rfl) ?_
   replace hm := bnd hm
   obtain ⟨x1776, hx1777, hm⟩ := hm
   refine g_cn ⟨w0, M, _, _, φ⟩ (fun _ h => h) Try.call83 rfl rfl (c_ref11_whole p1 Ap1_0 cp1_0 hcp1_0 (fun W hS => fp1_0 W (ok_pre (H1 := [_, _]) (R1 := []) hS (fun W h => h))) Ap1_1 cp1_1 hcp1_1 (fun W hS => fp1_1 W (ok_pre (H1 := [_, _]) (R1 := []) hS (fun W h => h))) _ hx1777) (fun ⟨A1778, c1779⟩ hc1779 => ?_)
   refine g_sta _ (fun W h => ok_frontR (t := 2000) (t' := 100430) h rfl) ?_
   refine g_v rfl r_assign ?_
   refine g_v rfl r_assign ?_
   refine g_nil ?_
   refine d_then ?_
   refine c_ret ?_
   refine d_ret_then ?_
   replace hm := Option.some.inj hm
   subst hm
   refine d_sta _ (fun W h => ok_frontR (t := 100430) (t' := 2000) h rfl) ?_
   refine d_retC (A1778, c1779) Try.results42 ?_ hc1779 (fun W h => ((h.dropH (t := 100030) rfl).dropH (t := 100020) rfl).phi (fun W hφ => hφ)) (.inr rfl)
   refine res_tmp ?_
   refine res_tmp ?_
   refine res_nil ?_
   exact rfl
 ·
  replace hm := ite_t hm (of_decide_eq_true h5)
  refine g_no rfl rfl rfl rfl rfl h5 ?_
  refine g_no rfl rfl rfl rfl rfl h5 ?_
  refine g_no rfl rfl rfl rfl rfl h5 ?_
  refine g_no rfl rfl rfl rfl rfl h5 ?_
  refine g_no rfl rfl rfl rfl rfl h5 ?_
  refine g_no rfl rfl rfl rfl rfl h5 ?_
  refine g_v rfl (r_pick1 rfl h5) ?_
  refine g_v rfl r_move ?_
  refine g_no rfl rfl rfl rfl rfl rfl ?_
  refine g_no rfl rfl rfl rfl rfl rfl ?_
  refine g_v rfl (r_pick1 rfl rfl) ?_
  refine g_v rfl r_move ?_
  refine g_no rfl rfl rfl rfl rfl rfl ?_
  refine g_no rfl rfl rfl rfl rfl rfl ?_
  refine g_no rfl rfl rfl rfl rfl rfl ?_
  refine g_no rfl rfl rfl rfl rfl rfl ?_
  refine g_no rfl rfl rfl rfl rfl rfl ?_
  refine g_v rfl (r_pick1 rfl rfl) ?_
  refine g_nil ?_
  refine d_then ?_
  refine c_flat [(2, .pointer (some ⟨g1, 0, none⟩)), (3, .pointer (some ⟨g2, 0, none⟩)), (41, .bool true)] ⟨rfl, rfl, rfl, trivial⟩ (fun u => ?_)
  refine c_sta ⟨w0, M, (100030, g2, .cells #[.int .i64 p1.fTerm, .int .i64 p1.fVote, .slice Ap1_0 p1.fVoters.length cp1_0, .string p1.fSnap, .int .i64 p1.fLog.fBase, .int .i64 p1.fLog.fBaseTerm, .slice Ap1_1 p1.fLog.fEntries.length cp1_1] 44 (0, 0)) :: (100020, g1, .cells #[.int .i64 p0.fTerm, .int .i64 p0.fVote, .slice Ap0_0 p0.fVoters.length cp0_0, .string p0.fSnap, .int .i64 p0.fLog.fBase, .int .i64 p0.fLog.fBaseTerm, .slice Ap0_1 p0.fLog.fEntries.length cp0_1] 44 (0, 0)) :: H, R, φ⟩ (fun _ h => h) ?_
  refine c_cond1 rfl rfl ?_
  refine c_seq ?_
  refine c_region ?_
  refine g_v rfl (r_loadA (tag := 100030) rfl rfl Try.isAgg44 Try.sizeOf44 rfl rfl) ?_
  replace hm := bnd hm
  obtain ⟨x1781, hx1782, hm⟩ := hm
  refine g_cn ⟨w0, M, _, _, φ⟩ (fun _ h => h) Try.call83 rfl rfl (c_ref11_whole p1 Ap1_0 cp1_0 hcp1_0 (fun W hS => fp1_0 W (ok_pre (H1 := [_, _]) (R1 := []) hS (fun W h => h))) Ap1_1 cp1_1 hcp1_1 (fun W hS => fp1_1 W (ok_pre (H1 := [_, _]) (R1 := []) hS (fun W h => h))) _ hx1782) (fun ⟨A1783, c1784⟩ hc1784 => ?_)
  refine g_sta _ (fun W h => ok_frontR (t := 2000) (t' := 100430) h rfl) ?_
  refine g_v rfl r_assign ?_
  refine g_v rfl r_assign ?_
  refine g_nil ?_
  refine d_then ?_
  refine c_ret ?_
  refine d_ret_then ?_
  replace hm := Option.some.inj hm
  subst hm
  refine d_sta _ (fun W h => ok_frontR (t := 100430) (t' := 2000) h rfl) ?_
  refine d_retC (A1783, c1784) Try.results42 ?_ hc1784 (fun W h => ((h.dropH (t := 100030) rfl).dropH (t := 100020) rfl).phi (fun W hφ => hφ)) (.inr rfl)
  refine res_tmp ?_
  refine res_tmp ?_
  refine res_nil ?_
  exact rfl
end Go.Proofs.Ytildknbbpkbkeaa
