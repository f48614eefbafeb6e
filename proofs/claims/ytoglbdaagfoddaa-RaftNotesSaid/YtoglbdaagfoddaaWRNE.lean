import Derived.Test.YtoglbdaagfoddaaWRND
set_option maxRecDepth 100000
set_option maxHeartbeats 4000000
set_option linter.unusedVariables false
set_option linter.unusedSimpArgs false
namespace Go.Proofs.Ytoglbdaagfoddaa
open Go.RowKit Go.Proofs.YtoglbdaagfoddaaW.PrintLast
noncomputable def m_ref12_Check_j2  : Option Int :=
  some 0
noncomputable def m_ref12_Check_j1 (p0 : GNote) : Option Int :=
  (m_ref11_Right p0.fVoters).bind fun x61 =>
  if x61 = true then
    m_ref12_Check_j2
  else
    if 0 < (p0.fVoters.length : Int) then
      some 1
    else
      if p0.fKind = 4 then
        some 1
      else
        m_ref12_Check_j2
noncomputable def m_ref12_Check_s3 (p0 : GNote) (i87 : Int) : Option (Int ⊕ (Unit ⊕ Int)) :=
  if i87 < (p0.fEntries.length : Int) then
    (at_ p0.fEntries i87).bind fun x118 =>
    if p0.fTerm < x118.fTerm then
      some (.inr (.inr 1))
    else
      some (.inl (w64 (i87 + 1)))
  else
    some (.inr (.inl ()))
noncomputable def m_ref12_Check (p0 : GNote) : Option Int :=
  if p0.fKind < 1 then
    some 1
  else
    if 5 < p0.fKind then
      some 1
    else
      if p0.fFrom < 0 then
        some 1
      else
        if 63 < p0.fFrom then
          some 1
        else
          if p0.fTo < 0 then
            some 1
          else
            if 63 < p0.fTo then
              some 1
            else
              if p0.fFrom = p0.fTo then
                some 1
              else
                if p0.fTerm < 1 then
                  some 1
                else
                  if 1099511627776 < p0.fTerm then
                    some 1
                  else
                    if p0.fIndex < 0 then
                      some 1
                    else
                      if 1099511627776 < p0.fIndex then
                        some 1
                      else
                        if p0.fLogTerm < 0 then
                          some 1
                        else
                          if p0.fTerm < p0.fLogTerm then
                            some 1
                          else
                            if p0.fCommit < 0 then
                              some 1
                            else
                              if 1099511627776 < p0.fCommit then
                                some 1
                              else
                                if 16 < (p0.fEntries.length : Int) then
                                  some 1
                                else
                                  if w64 (1099511627776 - (p0.fEntries.length : Int)) < p0.fIndex then
                                    some 1
                                  else
                                    if 50000 < (p0.fSnap.size : Int) then
                                      some 1
                                    else
                                      (m_ref11_Check (⟨p0.fIndex, p0.fLogTerm, p0.fEntries⟩ : GLog)).bind fun x20 =>
                                      if x20 ≠ 0 then
                                        some 1
                                      else
                                        (loop (fun s => m_ref12_Check_s3 p0 s) 0).bind fun e => Sum.elim (fun e => m_ref12_Check_j1 p0) (fun x => some x) e
theorem c_ref12_Check {w0 : World} {M : Nat → Prop} {H : List (Nat × Nat × Obj)} {R : List (Nat × Row)} {φ : World → Prop} (p0 : GNote) (Ap0_0 : Option Addr) (cp0_0 : Nat) (hcp0_0 : p0.fEntries.length ≤ cp0_0) (fp0_0 : ∀ W, (Sta.mk w0 M H R φ).ok W → Cl W Ap0_0 (p0.fEntries.flatMap GEntry.enc)) (Ap0_1 : Option Addr) (cp0_1 : Nat) (hcp0_1 : p0.fVoters.length ≤ cp0_1) (fp0_1 : ∀ W, (Sta.mk w0 M H R φ).ok W → Cl W Ap0_1 (p0.fVoters.flatMap (fun x : Int => [Value.int .i64 x]))) (r : Int) (hm : m_ref12_Check p0 = some r) :
    Cn Try.prog 12 #[.agg #[.int .i64 p0.fKind, .int .i64 p0.fFrom, .int .i64 p0.fTo, .int .i64 p0.fTerm, .int .i64 p0.fIndex, .int .i64 p0.fLogTerm, .int .i64 p0.fCommit, .bool p0.fGood, .slice Ap0_0 p0.fEntries.length cp0_0, .slice Ap0_1 p0.fVoters.length cp0_1, .string p0.fSnap]] ⟨w0, M, H, R, φ⟩ (fun x : Unit => .int .i64 r) (fun x => True) (fun x => ⟨w0, M, H, R, φ⟩) := by
 unfold m_ref12_Check at hm
 refine cn_intro (fn := Try.f12) (N := 149) Try.func12 rfl Try.ntmps12 rfl <| c_seq <| c_region ?_
 refine g_e rfl (e_box 100010 rfl) (fun g1 _ => ?_)
 refine g_v rfl r_assign <| g_nil <| d_then <| c_seq <| c_region <| g_v rfl r_assign <| g_nil <| d_then <| c_seq <| c_seq ?_
 refine c_region <| g_v rfl (r_field (n := 0) Try.underlying25 rfl Try.sizeOf3 rfl rfl) <| g_v rfl (r_load (tag := 100010) rfl rfl rfl Try.isAgg3) <| g_v rfl (r_lss rfl rfl) <| g_v rfl r_move ?_
 refine g_if rfl rfl rfl rfl rfl (fun h2 => ?_) (fun h2 => ?_)
 ·
  replace hm := ite_f hm (of_decide_eq_false h2)
  refine g_v rfl (r_field (n := 0) Try.underlying25 rfl Try.sizeOf3 rfl rfl) <| g_do rfl rfl rfl rfl rfl h2 <| g_v rfl (r_load (tag := 100010) rfl rfl rfl Try.isAgg3) <| g_do rfl rfl rfl rfl rfl h2 <| g_v rfl (r_gtr rfl rfl) <| g_v rfl (r_pick0 rfl h2) <| g_v rfl r_move ?_
  refine g_if rfl rfl rfl rfl rfl (fun h3 => ?_) (fun h3 => ?_)
  ·
   replace hm := ite_f hm (of_decide_eq_false h3)
   refine g_v rfl (r_field (n := 1) Try.underlying25 rfl Try.sizeOf3 rfl rfl) <| g_do rfl rfl rfl rfl rfl h3 <| g_v rfl (r_load (tag := 100010) rfl rfl rfl Try.isAgg3) <| g_do rfl rfl rfl rfl rfl h3 <| g_v rfl (r_lss rfl rfl) <| g_v rfl (r_pick0 rfl h3) <| g_v rfl r_move ?_
   refine g_if rfl rfl rfl rfl rfl (fun h4 => ?_) (fun h4 => ?_)
   ·
    replace hm := ite_f hm (of_decide_eq_false h4)
    refine g_v rfl (r_field (n := 1) Try.underlying25 rfl Try.sizeOf3 rfl rfl) <| g_do rfl rfl rfl rfl rfl h4 <| g_v rfl (r_load (tag := 100010) rfl rfl rfl Try.isAgg3) <| g_do rfl rfl rfl rfl rfl h4 <| g_v rfl (r_gtr rfl rfl) <| g_v rfl (r_pick0 rfl h4) <| g_v rfl r_move ?_
    refine g_if rfl rfl rfl rfl rfl (fun h5 => ?_) (fun h5 => ?_)
    ·
     replace hm := ite_f hm (of_decide_eq_false h5)
     refine g_v rfl (r_field (n := 2) Try.underlying25 rfl Try.sizeOf3 rfl rfl) <| g_do rfl rfl rfl rfl rfl h5 <| g_v rfl (r_load (tag := 100010) rfl rfl rfl Try.isAgg3) <| g_do rfl rfl rfl rfl rfl h5 <| g_v rfl (r_lss rfl rfl) <| g_v rfl (r_pick0 rfl h5) <| g_v rfl r_move ?_
     refine g_if rfl rfl rfl rfl rfl (fun h6 => ?_) (fun h6 => ?_)
     ·
      replace hm := ite_f hm (of_decide_eq_false h6)
      refine g_v rfl (r_field (n := 2) Try.underlying25 rfl Try.sizeOf3 rfl rfl) <| g_do rfl rfl rfl rfl rfl h6 <| g_v rfl (r_load (tag := 100010) rfl rfl rfl Try.isAgg3) <| g_do rfl rfl rfl rfl rfl h6 <| g_v rfl (r_gtr rfl rfl) <| g_v rfl (r_pick0 rfl h6) <| g_v rfl r_move ?_
      refine g_if rfl rfl rfl rfl rfl (fun h7 => ?_) (fun h7 => ?_)
      ·
       replace hm := ite_f hm (of_decide_eq_false h7)
       refine g_v rfl (r_field (n := 1) Try.underlying25 rfl Try.sizeOf3 rfl rfl) <| g_do rfl rfl rfl rfl rfl h7 <| g_v rfl (r_load (tag := 100010) rfl rfl rfl Try.isAgg3) <| g_do rfl rfl rfl rfl rfl h7 <| g_v rfl (r_field (n := 2) Try.underlying25 rfl Try.sizeOf3 rfl rfl) <| g_do rfl rfl rfl rfl rfl h7 <| g_v rfl (r_load (tag := 100010) rfl rfl rfl Try.isAgg3) <| g_do rfl rfl rfl rfl rfl h7 <| g_v rfl (r_eql rfl rfl) <| g_v rfl (r_pick0 rfl h7) ?_
       refine g_v rfl r_move ?_
       refine g_if rfl rfl rfl rfl rfl (fun h8 => ?_) (fun h8 => ?_)
       ·
        replace hm := ite_f hm (of_decide_eq_false h8)
        refine g_v rfl (r_field (n := 3) Try.underlying25 rfl Try.sizeOf3 rfl rfl) <| g_do rfl rfl rfl rfl rfl h8 <| g_v rfl (r_load (tag := 100010) rfl rfl rfl Try.isAgg3) <| g_do rfl rfl rfl rfl rfl h8 <| g_v rfl (r_lss rfl rfl) <| g_v rfl (r_pick0 rfl h8) <| g_v rfl r_move ?_
        refine g_if rfl rfl rfl rfl rfl (fun h9 => ?_) (fun h9 => ?_)
        ·
         replace hm := ite_f hm (of_decide_eq_false h9)
         refine g_v rfl (r_field (n := 3) Try.underlying25 rfl Try.sizeOf3 rfl rfl) <| g_do rfl rfl rfl rfl rfl h9 <| g_v rfl (r_load (tag := 100010) rfl rfl rfl Try.isAgg3) <| g_do rfl rfl rfl rfl rfl h9 <| g_v rfl r_move <| g_do rfl rfl rfl rfl rfl h9 <| g_v rfl (r_gtr rfl rfl) <| g_v rfl (r_pick0 rfl h9) <| g_v rfl r_move ?_
         refine g_if rfl rfl rfl rfl rfl (fun h10 => ?_) (fun h10 => ?_)
         ·
          replace hm := ite_f hm (of_decide_eq_false h10)
          refine g_v rfl (r_field (n := 4) Try.underlying25 rfl Try.sizeOf3 rfl rfl) <| g_do rfl rfl rfl rfl rfl h10 <| g_v rfl (r_load (tag := 100010) rfl rfl rfl Try.isAgg3) <| g_do rfl rfl rfl rfl rfl h10 <| g_v rfl (r_lss rfl rfl) <| g_v rfl (r_pick0 rfl h10) <| g_v rfl r_move ?_
          refine g_if rfl rfl rfl rfl rfl (fun h11 => ?_) (fun h11 => ?_)
          ·
           replace hm := ite_f hm (of_decide_eq_false h11)
           refine g_v rfl (r_field (n := 4) Try.underlying25 rfl Try.sizeOf3 rfl rfl) <| g_do rfl rfl rfl rfl rfl h11 <| g_v rfl (r_load (tag := 100010) rfl rfl rfl Try.isAgg3) <| g_do rfl rfl rfl rfl rfl h11 <| g_v rfl r_move <| g_do rfl rfl rfl rfl rfl h11 <| g_v rfl (r_gtr rfl rfl) <| g_v rfl (r_pick0 rfl h11) <| g_v rfl r_move ?_
           refine g_if rfl rfl rfl rfl rfl (fun h12 => ?_) (fun h12 => ?_)
           ·
            replace hm := ite_f hm (of_decide_eq_false h12)
            refine g_v rfl (r_field (n := 5) Try.underlying25 rfl Try.sizeOf3 rfl rfl) <| g_do rfl rfl rfl rfl rfl h12 <| g_v rfl (r_load (tag := 100010) rfl rfl rfl Try.isAgg3) <| g_do rfl rfl rfl rfl rfl h12 <| g_v rfl (r_lss rfl rfl) <| g_v rfl (r_pick0 rfl h12) <| g_v rfl r_move ?_
            refine g_if rfl rfl rfl rfl rfl (fun h13 => ?_) (fun h13 => ?_)
            ·
             replace hm := ite_f hm (of_decide_eq_false h13)
             refine g_v rfl (r_field (n := 5) Try.underlying25 rfl Try.sizeOf3 rfl rfl) <| g_do rfl rfl rfl rfl rfl h13 <| g_v rfl (r_load (tag := 100010) rfl rfl rfl Try.isAgg3) <| g_do rfl rfl rfl rfl rfl h13 <| g_v rfl (r_field (n := 3) Try.underlying25 rfl Try.sizeOf3 rfl rfl) <| g_do rfl rfl rfl rfl rfl h13 <| g_v rfl (r_load (tag := 100010) rfl rfl rfl Try.isAgg3) <| g_do rfl rfl rfl rfl rfl h13 <| g_v rfl (r_gtr rfl rfl) <| g_v rfl (r_pick0 rfl h13) ?_
             refine g_v rfl r_move ?_
             refine g_if rfl rfl rfl rfl rfl (fun h14 => ?_) (fun h14 => ?_)
             ·
              replace hm := ite_f hm (of_decide_eq_false h14)
              refine g_v rfl (r_field (n := 6) Try.underlying25 rfl Try.sizeOf3 rfl rfl) <| g_do rfl rfl rfl rfl rfl h14 <| g_v rfl (r_load (tag := 100010) rfl rfl rfl Try.isAgg3) <| g_do rfl rfl rfl rfl rfl h14 <| g_v rfl (r_lss rfl rfl) <| g_v rfl (r_pick0 rfl h14) <| g_v rfl r_move ?_
              refine g_if rfl rfl rfl rfl rfl (fun h15 => ?_) (fun h15 => ?_)
              ·
               replace hm := ite_f hm (of_decide_eq_false h15)
               refine g_v rfl (r_field (n := 6) Try.underlying25 rfl Try.sizeOf3 rfl rfl) <| g_do rfl rfl rfl rfl rfl h15 <| g_v rfl (r_load (tag := 100010) rfl rfl rfl Try.isAgg3) <| g_do rfl rfl rfl rfl rfl h15 <| g_v rfl r_move <| g_do rfl rfl rfl rfl rfl h15 <| g_v rfl (r_gtr rfl rfl) <| g_v rfl (r_pick0 rfl h15) <| g_v rfl r_move ?_
               refine g_if rfl rfl rfl rfl rfl (fun h16 => ?_) (fun h16 => ?_)
               ·
                replace hm := ite_f hm (of_decide_eq_false h16)
                refine g_v rfl (r_field (n := 8) Try.underlying25 rfl Try.sizeOf22 rfl rfl) <| g_do rfl rfl rfl rfl rfl h16 <| g_v rfl (r_load (tag := 100010) rfl rfl rfl Try.isAgg22) <| g_do rfl rfl rfl rfl rfl h16 <| g_v rfl (r_lenL Try.underlying22 rfl) <| g_do rfl rfl rfl rfl rfl h16 <| g_v rfl (r_gtr rfl rfl) <| g_v rfl (r_pick0 rfl h16) <| g_v rfl r_move ?_
                refine g_if rfl rfl rfl rfl rfl (fun h17 => ?_) (fun h17 => ?_)
                ·
                 replace hm := ite_f hm (of_decide_eq_false h17)
                 refine g_v rfl (r_field (n := 4) Try.underlying25 rfl Try.sizeOf3 rfl rfl) <| g_do rfl rfl rfl rfl rfl h17 <| g_v rfl (r_load (tag := 100010) rfl rfl rfl Try.isAgg3) <| g_do rfl rfl rfl rfl rfl h17 <| g_v rfl r_move <| g_do rfl rfl rfl rfl rfl h17 <| g_v rfl (r_field (n := 8) Try.underlying25 rfl Try.sizeOf22 rfl rfl) <| g_do rfl rfl rfl rfl rfl h17 <| g_v rfl (r_load (tag := 100010) rfl rfl rfl Try.isAgg22) <| g_do rfl rfl rfl rfl rfl h17 ?_
                 refine g_v rfl (r_lenL Try.underlying22 rfl) <| g_do rfl rfl rfl rfl rfl h17 <| g_v rfl (r_sub rfl rfl rfl) <| g_do rfl rfl rfl rfl rfl h17 <| g_v rfl (r_gtr rfl rfl) <| g_v rfl (r_pick0 rfl h17) <| g_v rfl r_move ?_
                 refine g_if rfl rfl rfl rfl rfl (fun h18 => ?_) (fun h18 => ?_)
                 ·
                  replace hm := ite_f hm (of_decide_eq_false h18)
                  refine g_v rfl (r_field (n := 10) Try.underlying25 rfl Try.sizeOf9 rfl rfl) <| g_do rfl rfl rfl rfl rfl h18 <| g_v rfl (r_load (tag := 100010) rfl rfl rfl Try.isAgg9) <| g_do rfl rfl rfl rfl rfl h18 <| g_v rfl (r_len Try.underlying9 rfl) <| g_do rfl rfl rfl rfl rfl h18 <| g_v rfl (r_gtr rfl rfl) <| g_v rfl (r_pick0 rfl h18) <| g_nil <| d_then ?_
                  refine c_flat [(1, .pointer (some ⟨g1, 0, none⟩)), (107, .bool (decide (50000 < (p0.fSnap.size : Int))))] ⟨rfl, rfl, trivial⟩ (fun u => ?_)
                  refine c_sta ⟨w0, M, (100010, g1, .cells #[.int .i64 p0.fKind, .int .i64 p0.fFrom, .int .i64 p0.fTo, .int .i64 p0.fTerm, .int .i64 p0.fIndex, .int .i64 p0.fLogTerm, .int .i64 p0.fCommit, .bool p0.fGood, .slice Ap0_0 p0.fEntries.length cp0_0, .slice Ap0_1 p0.fVoters.length cp0_1, .string p0.fSnap] 25 (0, 0)) :: H, R, φ⟩ (fun _ h => h) ?_
                  refine c_cond rfl (fun h19 => ?_) (fun h19 => ?_)
                  ·
                   replace hm := ite_t hm (of_decide_eq_true h19)
                   refine c_seq <| c_region <| g_v rfl r_assign <| g_nil <| d_then <| c_ret <| d_ret_then ?_
                   replace hm := Option.some.inj hm
                   subst hm
                   refine d_retC () Try.results12 ?_ trivial (fun W h => ok_pre (H1 := [_]) (R1 := []) h (fun W hφ => hφ)) (.inr rfl)
                   refine res_tmp <| res_nil ?_
                   exact rfl
                  ·
                   replace hm := ite_f hm (of_decide_eq_false h19)
                   refine c_skip <| d_then <| c_seq <| c_seq <| c_region <| g_v rfl (r_field (n := 4) Try.underlying25 rfl Try.sizeOf3 rfl rfl) <| g_v rfl (r_load (tag := 100010) rfl rfl rfl Try.isAgg3) <| g_v rfl (r_field (n := 5) Try.underlying25 rfl Try.sizeOf3 rfl rfl) <| g_v rfl (r_load (tag := 100010) rfl rfl rfl Try.isAgg3) <| g_v rfl (r_field (n := 8) Try.underlying25 rfl Try.sizeOf22 rfl rfl) ?_
                   refine g_v rfl (r_load (tag := 100010) rfl rfl rfl Try.isAgg22) <| g_v rfl (r_build _ rfl (bld38_19 _ _ _ _ _)) ?_
                   replace hm := bnd hm
                   obtain ⟨x20, hx21, hm⟩ := hm
                   refine g_cn ⟨w0, M, _, _, φ⟩ (fun _ h => h) Try.call33 rfl rfl (c_ref11_Check (⟨p0.fIndex, p0.fLogTerm, p0.fEntries⟩ : GLog) Ap0_0 cp0_0 hcp0_0 (fun W hS => fp0_0 W (ok_pre (H1 := [_]) (R1 := []) hS (fun W h => h))) _ hx21) (fun _ _ => ?_)
                   refine g_v rfl (r_neq rfl rfl) <| g_nil <| d_then ?_
                   refine c_flat [(1, .pointer (some ⟨g1, 0, none⟩)), (116, .bool (decide (x20 ≠ 0)))] ⟨rfl, rfl, trivial⟩ (fun u => ?_)
                   refine c_cond rfl (fun h22 => ?_) (fun h22 => ?_)
                   ·
                    replace hm := ite_t hm (of_decide_eq_true h22)
                    refine c_seq <| c_region <| g_v rfl r_assign <| g_nil <| d_then <| c_ret <| d_ret_then ?_
                    replace hm := Option.some.inj hm
                    subst hm
                    refine d_retC () Try.results12 ?_ trivial (fun W h => ok_pre (H1 := [_]) (R1 := []) h (fun W hφ => hφ)) (.inr rfl)
                    refine res_tmp <| res_nil ?_
                    exact rfl
                   ·
                    replace hm := ite_f hm (of_decide_eq_false h22)
                    refine c_skip <| d_then <| c_seq <| c_seq <| c_region <| g_v rfl r_assign <| g_nil <| d_then ?_
                    refine c_cut (ι := Unit) [1] (fun _ => []) (fun _ => ⟨w0, M, (100010, g1, .cells #[.int .i64 p0.fKind, .int .i64 p0.fFrom, .int .i64 p0.fTo, .int .i64 p0.fTerm, .int .i64 p0.fIndex, .int .i64 p0.fLogTerm, .int .i64 p0.fCommit, .bool p0.fGood, .slice Ap0_0 p0.fEntries.length cp0_0, .slice Ap0_1 p0.fVoters.length cp0_1, .string p0.fSnap] 25 (0, 0)) :: H, R, φ⟩) (fun _ => m_ref12_Check_j1 p0 = some r) ?_ (fun _ u hm => ?_)
                    ·
                     refine c_block ?_
                     replace hm := bnd hm
                     obtain ⟨out3, hl3, hr3⟩ := hm
                     obtain ⟨n106', hl3⟩ := loop_lp hl3
                     refine c_loopU (ι := Nat × Int) [1, 4] (fun ⟨n106, i87⟩ => [(4, .int .i64 i87)]) (fun ⟨n106, i87⟩ => ⟨w0, M, (100010, g1, .cells #[.int .i64 p0.fKind, .int .i64 p0.fFrom, .int .i64 p0.fTo, .int .i64 p0.fTerm, .int .i64 p0.fIndex, .int .i64 p0.fLogTerm, .int .i64 p0.fCommit, .bool p0.fGood, .slice Ap0_0 p0.fEntries.length cp0_0, .slice Ap0_1 p0.fVoters.length cp0_1, .string p0.fSnap] 25 (0, 0)) :: H, R, φ⟩) (fun ⟨n106, i87⟩ => Lp (fun s => m_ref12_Check_s3 p0 s) n106 i87 out3) (fun ⟨n106, i87⟩ => n106) (n106', 0) hl3 ⟨rfl, rfl, trivial⟩ (fun W h => h.phi (fun W hφ => hφ)) (fun ⟨n106, i87⟩ u hlp => ?_)
                     obtain ⟨o3, hm, hnx3⟩ := lp_step hlp
                     clear hlp
                     replace hm : m_ref12_Check_s3 p0 i87 = some o3 := hm
                     unfold m_ref12_Check_s3 at hm
                     refine c_flat [(1, .pointer (some ⟨g1, 0, none⟩)), (4, .int .i64 i87)] ⟨rfl, rfl, trivial⟩ (fun u => ?_)
                     refine c_seq <| c_seq <| c_region <| g_v rfl r_move <| g_v rfl (r_field (n := 8) Try.underlying25 rfl Try.sizeOf22 rfl rfl) <| g_v rfl (r_load (tag := 100010) rfl rfl rfl Try.isAgg22) <| g_v rfl (r_lenL Try.underlying22 rfl) <| g_v rfl (r_lss rfl rfl) <| g_nil <| d_then ?_
                     refine c_cond rfl (fun h107 => ?_) (fun h107 => ?_)
                     ·
                      replace hm := ite_t hm (of_decide_eq_true h107)
                      refine c_skip <| d_then <| c_seq <| c_block <| c_seq <| ga_start (n := 9) ⟨w0, M, (100010, g1, .cells #[.int .i64 p0.fKind, .int .i64 p0.fFrom, .int .i64 p0.fTo, .int .i64 p0.fTerm, .int .i64 p0.fIndex, .int .i64 p0.fLogTerm, .int .i64 p0.fCommit, .bool p0.fGood, .slice Ap0_0 p0.fEntries.length cp0_0, .slice Ap0_1 p0.fVoters.length cp0_1, .string p0.fSnap] 25 (0, 0)) :: H, R, φ⟩ [] #[false, false, false, false, false, false, false, false, false] (fun W h => h.phi (fun W hφ => hφ)) mixed rfl rfl <| ga_v (i := 0) (bz 9 1) rfl (by kernel_rfl) (fun _ _ _ _ h => h) rfl (r_field (n := 8) Try.underlying25 rfl Try.sizeOf22 rfl rfl) <| ga_v (i := 1) (bz 9 3) rfl (by kernel_rfl) (fun _ _ _ _ h => h) rfl (r_load (tag := 100010) rfl rfl rfl Try.isAgg22) <| ga_v (i := 2) (bz 9 7) rfl (by kernel_rfl) (fun _ _ _ _ h => h) rfl (r_move) ?_
                      replace hm := bnd hm
                      obtain ⟨x118, hx118, hm⟩ := hm
                      refine ga_know _ (fun W hS => cl_at (p := (Sta.mk w0 M H R φ).ok) (sz := 3) (fun _ => rfl) (by decide) (ok_pre (H1 := [_]) (R1 := []) hS (fun W h => h)) fp0_0 hx118) ?_
                      rintro ⟨ad119, hA121, f120⟩
                      refine ga_v (i := 3) (bz 9 15) rfl (by kernel_rfl) (fun _ _ _ _ h => h) rfl (r_ix Try.underlying22 Try.sizeOf36 rfl hA121 rfl hx118) ?_
                      have f122 := fun (W : World) (h : (Sta.mk w0 M H R φ).ok W) => Cl.drop (f120 W h) 0
                      refine ga_v (i := 4) (bz 9 31) rfl (by kernel_rfl) (fun _ _ _ _ h => h) rfl (r_fieldF Try.underlying36 rfl Try.sizeOf3 rfl) <| ga_v (i := 5) (bz 9 63) rfl (by kernel_rfl) (fun _ _ _ _ h => h) rfl (r_ld rfl Try.isAgg3 (fun W hS => Cl.head (f122 W (ok_pre (H1 := [_]) (R1 := []) hS (fun W h => h))))) <| ga_r (i := 6) (bz 9 127) rfl (by kernel_rfl) (by decide) rfl (r_field (n := 3) Try.underlying25 rfl Try.sizeOf3 rfl rfl) <| ga_r (i := 7) (bz 9 255) rfl (by kernel_rfl) (by decide) rfl (r_load (tag := 100010) rfl rfl rfl Try.isAgg3) <| ga_r (i := 8) (bz 9 511) rfl (by kernel_rfl) (by decide) rfl (r_gtr rfl rfl) <| ga_done (by kernel_rfl) <| d_then ?_
                      refine c_flat [(1, .pointer (some ⟨g1, 0, none⟩)), (4, .int .i64 i87), (132, .bool (decide (p0.fTerm < x118.fTerm)))] ⟨rfl, rfl, rfl, trivial⟩ (fun u => ?_)
                      refine c_cond rfl (fun h123 => ?_) (fun h123 => ?_)
                      ·
                       replace hm := ite_t hm (of_decide_eq_true h123)
                       refine c_seq <| c_region <| g_v rfl r_assign <| g_nil <| d_then <| c_ret <| d_ret_block <| d_ret_then <| d_ret_then <| d_ret_block ?_
                       refine d_ret_then <| d_ret_then ?_
                       replace hm := nx_out (C := (fun e : Unit ⊕ Int => Sum.elim (fun e => m_ref12_Check_j1 p0) (fun x => some x) e = some r)) hm hnx3 hr3
                       replace hm : some 1 = some r := hm
                       replace hm := Option.some.inj hm
                       subst hm
                       refine d_retC () Try.results12 ?_ trivial (fun W h => ok_pre (H1 := [_]) (R1 := []) h (fun W hφ => hφ)) (.inr rfl)
                       refine res_tmp <| res_nil ?_
                       exact rfl
                      ·
                       replace hm := ite_f hm (of_decide_eq_false h123)
                       refine c_skip <| d_normal_block <| d_then <| c_region <| g_v rfl r_move <| g_v rfl (r_add rfl rfl rfl) <| g_v rfl r_assign <| g_nil ?_
                       obtain ⟨n124, hn124, hlp⟩ := nx_inl hm hnx3
                       exact d_round (n124, w64 (i87 + 1)) hlp hn124 ⟨rfl, rfl, trivial⟩ (fun W h => h.phi (fun W hφ => hφ))
                     ·
                      replace hm := ite_f hm (of_decide_eq_false h107)
                      refine c_exit <| d_exit_then <| d_exit_then <| d_exit_block ?_
                      replace hm := nx_out (C := (fun e : Unit ⊕ Int => Sum.elim (fun e => m_ref12_Check_j1 p0) (fun x => some x) e = some r)) hm hnx3 hr3
                      exact d_round () hm Nat.zero_lt_one ⟨rfl, trivial⟩ (fun W h => h.phi (fun W hφ => hφ))
                    ·
                     unfold m_ref12_Check_j1 at hm
                     refine d_flat [(1, .pointer (some ⟨g1, 0, none⟩))] ⟨rfl, trivial⟩ (fun u => ?_)
                     refine d_then <| c_seq <| c_region <| g_v rfl (r_field (n := 9) Try.underlying25 rfl Try.sizeOf23 rfl rfl) <| g_v rfl (r_load (tag := 100010) rfl rfl rfl Try.isAgg23) ?_
                     replace hm := bnd hm
                     obtain ⟨x61, hx62, hm⟩ := hm
                     refine g_cn ⟨w0, M, _, _, φ⟩ (fun _ h => h) Try.call34 rfl rfl (c_ref11_Right p0.fVoters Ap0_1 cp0_1 hcp0_1 (fun W hS => fp0_1 W (ok_pre (H1 := [_]) (R1 := []) hS (fun W h => h))) _ hx62) (fun _ _ => ?_)
                     refine g_v rfl r_assign <| g_nil <| d_then <| c_seq ?_
                     refine c_cut (ι := Unit) [] (fun _ => []) (fun _ => ⟨w0, M, H, R, φ⟩) (fun _ => m_ref12_Check_j2 = some r) ?_ (fun _ u hm => ?_)
                     ·
                      refine c_seq <| c_region <| g_v rfl r_move <| g_v rfl (r_not rfl) <| g_v rfl r_move ?_
                      refine g_if rfl rfl rfl rfl rfl (fun h66 => ?_) (fun h66 => ?_)
                      ·
                       have h66' : x61 = false := by revert h66; cases x61 <;> simp
                       replace hm := ite_f hm (bool_nt h66')
                       refine g_v rfl (r_field (n := 9) Try.underlying25 rfl Try.sizeOf23 rfl rfl) <| g_do rfl rfl rfl rfl rfl h66 <| g_v rfl (r_load (tag := 100010) rfl rfl rfl Try.isAgg23) <| g_do rfl rfl rfl rfl rfl h66 <| g_v rfl (r_lenL Try.underlying23 rfl) <| g_do rfl rfl rfl rfl rfl h66 <| g_v rfl (r_gtr rfl rfl) <| g_do rfl rfl rfl rfl rfl h66 <| g_v rfl r_move ?_
                       refine g_if rfl rfl rfl rfl rfl (fun h67 => ?_) (fun h67 => ?_)
                       ·
                        replace hm := ite_f hm (of_decide_eq_false h67)
                        refine g_v rfl (r_field (n := 0) Try.underlying25 rfl Try.sizeOf3 rfl rfl) <| g_do rfl rfl rfl rfl rfl h67 <| g_v rfl (r_load (tag := 100010) rfl rfl rfl Try.isAgg3) <| g_do rfl rfl rfl rfl rfl h67 <| g_v rfl (r_eql rfl rfl) <| g_do rfl rfl rfl rfl rfl h66 <| g_v rfl (r_pick0 rfl h67) <| g_v rfl (r_pick1 rfl h66) <| g_nil <| d_then ?_
                        refine c_flat [(148, .bool (decide (p0.fKind = 4)))] ⟨rfl, trivial⟩ (fun u => ?_)
                        refine c_cond rfl (fun h68 => ?_) (fun h68 => ?_)
                        ·
                         replace hm := ite_t hm (of_decide_eq_true h68)
                         refine c_seq <| c_region <| g_v rfl r_assign <| g_nil <| d_then <| c_ret <| d_ret_then <| d_ret_then ?_
                         replace hm := Option.some.inj hm
                         subst hm
                         refine d_retC () Try.results12 ?_ trivial (fun W h => ok_pre (H1 := [_]) (R1 := []) h (fun W hφ => hφ)) (.inr rfl)
                         refine res_tmp <| res_nil ?_
                         exact rfl
                        ·
                         replace hm := ite_f hm (of_decide_eq_false h68)
                         refine c_skip ?_
                         exact d_round () hm Nat.zero_lt_one trivial (fun W h => (h.dropH (t := 100010) rfl).phi (fun W hφ => hφ))
                       ·
                        replace hm := ite_t hm (of_decide_eq_true h67)
                        refine g_no rfl rfl rfl rfl rfl h67 <| g_no rfl rfl rfl rfl rfl h67 <| g_do rfl rfl rfl rfl rfl h66 <| g_v rfl (r_pick1 rfl h67) <| g_v rfl (r_pick1 rfl h66) <| g_nil <| d_then ?_
                        refine c_flat [(148, .bool true)] ⟨rfl, trivial⟩ (fun u => ?_)
                        refine c_cond1 rfl rfl <| c_seq <| c_region <| g_v rfl r_assign <| g_nil <| d_then <| c_ret <| d_ret_then <| d_ret_then ?_
                        replace hm := Option.some.inj hm
                        subst hm
                        refine d_retC () Try.results12 ?_ trivial (fun W h => ok_pre (H1 := [_]) (R1 := []) h (fun W hφ => hφ)) (.inr rfl)
                        refine res_tmp <| res_nil ?_
                        exact rfl
                      ·
                       have h66' : x61 = true := by revert h66; cases x61 <;> simp
                       replace hm := ite_t hm h66'
                       refine g_no rfl rfl rfl rfl rfl h66 <| g_no rfl rfl rfl rfl rfl h66 <| g_no rfl rfl rfl rfl rfl h66 <| g_no rfl rfl rfl rfl rfl h66 <| g_nu rfl rfl rfl rfl rfl <| g_nu rfl rfl rfl rfl rfl <| g_nu rfl rfl rfl rfl rfl <| g_no rfl rfl rfl rfl rfl h66 <| g_v rfl (r_pick0 rfl h66) <| g_nil ?_
                       refine d_then <| c_cond0 rfl rfl <| c_skip ?_
                       exact d_round () hm Nat.zero_lt_one trivial (fun W h => (h.dropH (t := 100010) rfl).phi (fun W hφ => hφ))
                     ·
                      unfold m_ref12_Check_j2 at hm
                      refine d_flat [] trivial (fun u => ?_)
                      refine d_sta ⟨w0, M, H, R, φ⟩ (fun _ h => h) <| d_then <| c_seq <| c_region <| g_v rfl r_assign <| g_nil <| d_then <| c_ret ?_
                      replace hm := Option.some.inj hm
                      subst hm
                      refine d_retC () Try.results12 ?_ trivial (fun W h => ok_pre (H1 := []) (R1 := []) h (fun W hφ => hφ)) (.inr rfl)
                      refine res_tmp <| res_nil ?_
                      exact rfl
                 ·
                  replace hm := ite_t hm (of_decide_eq_true h18)
                  refine g_no rfl rfl rfl rfl rfl h18 <| g_no rfl rfl rfl rfl rfl h18 <| g_no rfl rfl rfl rfl rfl h18 <| g_v rfl (r_pick1 rfl h18) <| g_nil <| d_then ?_
                  refine c_flat [(1, .pointer (some ⟨g1, 0, none⟩)), (107, .bool true)] ⟨rfl, rfl, trivial⟩ (fun u => ?_)
                  refine c_sta ⟨w0, M, (100010, g1, .cells #[.int .i64 p0.fKind, .int .i64 p0.fFrom, .int .i64 p0.fTo, .int .i64 p0.fTerm, .int .i64 p0.fIndex, .int .i64 p0.fLogTerm, .int .i64 p0.fCommit, .bool p0.fGood, .slice Ap0_0 p0.fEntries.length cp0_0, .slice Ap0_1 p0.fVoters.length cp0_1, .string p0.fSnap] 25 (0, 0)) :: H, R, φ⟩ (fun _ h => h) <| c_cond1 rfl rfl <| c_seq <| c_region <| g_v rfl r_assign <| g_nil <| d_then <| c_ret <| d_ret_then ?_
                  replace hm := Option.some.inj hm
                  subst hm
                  refine d_retC () Try.results12 ?_ trivial (fun W h => ok_pre (H1 := [_]) (R1 := []) h (fun W hφ => hφ)) (.inr rfl)
                  refine res_tmp <| res_nil ?_
                  exact rfl
                ·
                 replace hm := ite_t hm (of_decide_eq_true h17)
                 refine g_no rfl rfl rfl rfl rfl h17 <| g_no rfl rfl rfl rfl rfl h17 <| g_no rfl rfl rfl rfl rfl h17 <| g_no rfl rfl rfl rfl rfl h17 <| g_no rfl rfl rfl rfl rfl h17 <| g_no rfl rfl rfl rfl rfl h17 <| g_no rfl rfl rfl rfl rfl h17 <| g_v rfl (r_pick1 rfl h17) <| g_v rfl r_move <| g_no rfl rfl rfl rfl rfl rfl ?_
                 refine g_no rfl rfl rfl rfl rfl rfl <| g_no rfl rfl rfl rfl rfl rfl <| g_no rfl rfl rfl rfl rfl rfl <| g_v rfl (r_pick1 rfl rfl) <| g_nil <| d_then ?_
                 refine c_flat [(1, .pointer (some ⟨g1, 0, none⟩)), (107, .bool true)] ⟨rfl, rfl, trivial⟩ (fun u => ?_)
                 refine c_sta ⟨w0, M, (100010, g1, .cells #[.int .i64 p0.fKind, .int .i64 p0.fFrom, .int .i64 p0.fTo, .int .i64 p0.fTerm, .int .i64 p0.fIndex, .int .i64 p0.fLogTerm, .int .i64 p0.fCommit, .bool p0.fGood, .slice Ap0_0 p0.fEntries.length cp0_0, .slice Ap0_1 p0.fVoters.length cp0_1, .string p0.fSnap] 25 (0, 0)) :: H, R, φ⟩ (fun _ h => h) <| c_cond1 rfl rfl <| c_seq <| c_region <| g_v rfl r_assign <| g_nil <| d_then <| c_ret <| d_ret_then ?_
                 replace hm := Option.some.inj hm
                 subst hm
                 refine d_retC () Try.results12 ?_ trivial (fun W h => ok_pre (H1 := [_]) (R1 := []) h (fun W hφ => hφ)) (.inr rfl)
                 refine res_tmp <| res_nil ?_
                 exact rfl
               ·
                replace hm := ite_t hm (of_decide_eq_true h16)
                refine g_no rfl rfl rfl rfl rfl h16 <| g_no rfl rfl rfl rfl rfl h16 <| g_no rfl rfl rfl rfl rfl h16 <| g_v rfl (r_pick1 rfl h16) <| g_v rfl r_move <| g_no rfl rfl rfl rfl rfl rfl <| g_no rfl rfl rfl rfl rfl rfl <| g_no rfl rfl rfl rfl rfl rfl <| g_no rfl rfl rfl rfl rfl rfl <| g_no rfl rfl rfl rfl rfl rfl ?_
                refine g_no rfl rfl rfl rfl rfl rfl <| g_no rfl rfl rfl rfl rfl rfl <| g_no rfl rfl rfl rfl rfl rfl <| g_v rfl (r_pick1 rfl rfl) <| g_v rfl r_move <| g_no rfl rfl rfl rfl rfl rfl <| g_no rfl rfl rfl rfl rfl rfl <| g_no rfl rfl rfl rfl rfl rfl <| g_no rfl rfl rfl rfl rfl rfl <| g_v rfl (r_pick1 rfl rfl) ?_
                refine g_nil <| d_then ?_
                refine c_flat [(1, .pointer (some ⟨g1, 0, none⟩)), (107, .bool true)] ⟨rfl, rfl, trivial⟩ (fun u => ?_)
                refine c_sta ⟨w0, M, (100010, g1, .cells #[.int .i64 p0.fKind, .int .i64 p0.fFrom, .int .i64 p0.fTo, .int .i64 p0.fTerm, .int .i64 p0.fIndex, .int .i64 p0.fLogTerm, .int .i64 p0.fCommit, .bool p0.fGood, .slice Ap0_0 p0.fEntries.length cp0_0, .slice Ap0_1 p0.fVoters.length cp0_1, .string p0.fSnap] 25 (0, 0)) :: H, R, φ⟩ (fun _ h => h) <| c_cond1 rfl rfl <| c_seq <| c_region <| g_v rfl r_assign <| g_nil <| d_then <| c_ret <| d_ret_then ?_
                replace hm := Option.some.inj hm
                subst hm
                refine d_retC () Try.results12 ?_ trivial (fun W h => ok_pre (H1 := [_]) (R1 := []) h (fun W hφ => hφ)) (.inr rfl)
                refine res_tmp <| res_nil ?_
                exact rfl
              ·
               replace hm := ite_t hm (of_decide_eq_true h15)
               refine g_no rfl rfl rfl rfl rfl h15 <| g_no rfl rfl rfl rfl rfl h15 <| g_no rfl rfl rfl rfl rfl h15 <| g_v rfl (r_pick1 rfl h15) <| g_v rfl r_move <| g_no rfl rfl rfl rfl rfl rfl <| g_no rfl rfl rfl rfl rfl rfl <| g_no rfl rfl rfl rfl rfl rfl <| g_no rfl rfl rfl rfl rfl rfl <| g_v rfl (r_pick1 rfl rfl) ?_
               refine g_v rfl r_move <| g_no rfl rfl rfl rfl rfl rfl <| g_no rfl rfl rfl rfl rfl rfl <| g_no rfl rfl rfl rfl rfl rfl <| g_no rfl rfl rfl rfl rfl rfl <| g_no rfl rfl rfl rfl rfl rfl <| g_no rfl rfl rfl rfl rfl rfl <| g_no rfl rfl rfl rfl rfl rfl <| g_no rfl rfl rfl rfl rfl rfl <| g_v rfl (r_pick1 rfl rfl) ?_
               refine g_v rfl r_move <| g_no rfl rfl rfl rfl rfl rfl <| g_no rfl rfl rfl rfl rfl rfl <| g_no rfl rfl rfl rfl rfl rfl <| g_no rfl rfl rfl rfl rfl rfl <| g_v rfl (r_pick1 rfl rfl) <| g_nil <| d_then ?_
               refine c_flat [(1, .pointer (some ⟨g1, 0, none⟩)), (107, .bool true)] ⟨rfl, rfl, trivial⟩ (fun u => ?_)
               refine c_sta ⟨w0, M, (100010, g1, .cells #[.int .i64 p0.fKind, .int .i64 p0.fFrom, .int .i64 p0.fTo, .int .i64 p0.fTerm, .int .i64 p0.fIndex, .int .i64 p0.fLogTerm, .int .i64 p0.fCommit, .bool p0.fGood, .slice Ap0_0 p0.fEntries.length cp0_0, .slice Ap0_1 p0.fVoters.length cp0_1, .string p0.fSnap] 25 (0, 0)) :: H, R, φ⟩ (fun _ h => h) <| c_cond1 rfl rfl <| c_seq <| c_region <| g_v rfl r_assign <| g_nil <| d_then <| c_ret <| d_ret_then ?_
               replace hm := Option.some.inj hm
               subst hm
               refine d_retC () Try.results12 ?_ trivial (fun W h => ok_pre (H1 := [_]) (R1 := []) h (fun W hφ => hφ)) (.inr rfl)
               refine res_tmp <| res_nil ?_
               exact rfl
             ·
              replace hm := ite_t hm (of_decide_eq_true h14)
              refine g_no rfl rfl rfl rfl rfl h14 <| g_no rfl rfl rfl rfl rfl h14 <| g_v rfl (r_pick1 rfl h14) <| g_v rfl r_move <| g_no rfl rfl rfl rfl rfl rfl <| g_no rfl rfl rfl rfl rfl rfl <| g_no rfl rfl rfl rfl rfl rfl <| g_no rfl rfl rfl rfl rfl rfl <| g_v rfl (r_pick1 rfl rfl) <| g_v rfl r_move ?_
              refine g_no rfl rfl rfl rfl rfl rfl <| g_no rfl rfl rfl rfl rfl rfl <| g_no rfl rfl rfl rfl rfl rfl <| g_no rfl rfl rfl rfl rfl rfl <| g_v rfl (r_pick1 rfl rfl) <| g_v rfl r_move <| g_no rfl rfl rfl rfl rfl rfl <| g_no rfl rfl rfl rfl rfl rfl <| g_no rfl rfl rfl rfl rfl rfl <| g_no rfl rfl rfl rfl rfl rfl ?_
              refine g_no rfl rfl rfl rfl rfl rfl <| g_no rfl rfl rfl rfl rfl rfl <| g_no rfl rfl rfl rfl rfl rfl <| g_no rfl rfl rfl rfl rfl rfl <| g_v rfl (r_pick1 rfl rfl) <| g_v rfl r_move <| g_no rfl rfl rfl rfl rfl rfl <| g_no rfl rfl rfl rfl rfl rfl <| g_no rfl rfl rfl rfl rfl rfl <| g_no rfl rfl rfl rfl rfl rfl ?_
              refine g_v rfl (r_pick1 rfl rfl) <| g_nil <| d_then ?_
              refine c_flat [(1, .pointer (some ⟨g1, 0, none⟩)), (107, .bool true)] ⟨rfl, rfl, trivial⟩ (fun u => ?_)
              refine c_sta ⟨w0, M, (100010, g1, .cells #[.int .i64 p0.fKind, .int .i64 p0.fFrom, .int .i64 p0.fTo, .int .i64 p0.fTerm, .int .i64 p0.fIndex, .int .i64 p0.fLogTerm, .int .i64 p0.fCommit, .bool p0.fGood, .slice Ap0_0 p0.fEntries.length cp0_0, .slice Ap0_1 p0.fVoters.length cp0_1, .string p0.fSnap] 25 (0, 0)) :: H, R, φ⟩ (fun _ h => h) <| c_cond1 rfl rfl <| c_seq <| c_region <| g_v rfl r_assign <| g_nil <| d_then <| c_ret <| d_ret_then ?_
              replace hm := Option.some.inj hm
              subst hm
              refine d_retC () Try.results12 ?_ trivial (fun W h => ok_pre (H1 := [_]) (R1 := []) h (fun W hφ => hφ)) (.inr rfl)
              refine res_tmp <| res_nil ?_
              exact rfl
            ·
             replace hm := ite_t hm (of_decide_eq_true h13)
             refine g_no rfl rfl rfl rfl rfl h13 <| g_no rfl rfl rfl rfl rfl h13 <| g_no rfl rfl rfl rfl rfl h13 <| g_no rfl rfl rfl rfl rfl h13 <| g_v rfl (r_pick1 rfl h13) <| g_v rfl r_move <| g_no rfl rfl rfl rfl rfl rfl <| g_no rfl rfl rfl rfl rfl rfl <| g_no rfl rfl rfl rfl rfl rfl <| g_v rfl (r_pick1 rfl rfl) ?_
             refine g_v rfl r_move <| g_no rfl rfl rfl rfl rfl rfl <| g_no rfl rfl rfl rfl rfl rfl <| g_no rfl rfl rfl rfl rfl rfl <| g_no rfl rfl rfl rfl rfl rfl <| g_v rfl (r_pick1 rfl rfl) <| g_v rfl r_move <| g_no rfl rfl rfl rfl rfl rfl <| g_no rfl rfl rfl rfl rfl rfl <| g_no rfl rfl rfl rfl rfl rfl ?_
             refine g_no rfl rfl rfl rfl rfl rfl <| g_v rfl (r_pick1 rfl rfl) <| g_v rfl r_move <| g_no rfl rfl rfl rfl rfl rfl <| g_no rfl rfl rfl rfl rfl rfl <| g_no rfl rfl rfl rfl rfl rfl <| g_no rfl rfl rfl rfl rfl rfl <| g_no rfl rfl rfl rfl rfl rfl <| g_no rfl rfl rfl rfl rfl rfl <| g_no rfl rfl rfl rfl rfl rfl ?_
             refine g_no rfl rfl rfl rfl rfl rfl <| g_v rfl (r_pick1 rfl rfl) <| g_v rfl r_move <| g_no rfl rfl rfl rfl rfl rfl <| g_no rfl rfl rfl rfl rfl rfl <| g_no rfl rfl rfl rfl rfl rfl <| g_no rfl rfl rfl rfl rfl rfl <| g_v rfl (r_pick1 rfl rfl) <| g_nil <| d_then ?_
             refine c_flat [(1, .pointer (some ⟨g1, 0, none⟩)), (107, .bool true)] ⟨rfl, rfl, trivial⟩ (fun u => ?_)
             refine c_sta ⟨w0, M, (100010, g1, .cells #[.int .i64 p0.fKind, .int .i64 p0.fFrom, .int .i64 p0.fTo, .int .i64 p0.fTerm, .int .i64 p0.fIndex, .int .i64 p0.fLogTerm, .int .i64 p0.fCommit, .bool p0.fGood, .slice Ap0_0 p0.fEntries.length cp0_0, .slice Ap0_1 p0.fVoters.length cp0_1, .string p0.fSnap] 25 (0, 0)) :: H, R, φ⟩ (fun _ h => h) <| c_cond1 rfl rfl <| c_seq <| c_region <| g_v rfl r_assign <| g_nil <| d_then <| c_ret <| d_ret_then ?_
             replace hm := Option.some.inj hm
             subst hm
             refine d_retC () Try.results12 ?_ trivial (fun W h => ok_pre (H1 := [_]) (R1 := []) h (fun W hφ => hφ)) (.inr rfl)
             refine res_tmp <| res_nil ?_
             exact rfl
           ·
            replace hm := ite_t hm (of_decide_eq_true h12)
            refine g_no rfl rfl rfl rfl rfl h12 <| g_no rfl rfl rfl rfl rfl h12 <| g_v rfl (r_pick1 rfl h12) <| g_v rfl r_move <| g_no rfl rfl rfl rfl rfl rfl <| g_no rfl rfl rfl rfl rfl rfl <| g_no rfl rfl rfl rfl rfl rfl <| g_no rfl rfl rfl rfl rfl rfl <| g_no rfl rfl rfl rfl rfl rfl <| g_v rfl (r_pick1 rfl rfl) ?_
            refine g_v rfl r_move <| g_no rfl rfl rfl rfl rfl rfl <| g_no rfl rfl rfl rfl rfl rfl <| g_no rfl rfl rfl rfl rfl rfl <| g_v rfl (r_pick1 rfl rfl) <| g_v rfl r_move <| g_no rfl rfl rfl rfl rfl rfl <| g_no rfl rfl rfl rfl rfl rfl <| g_no rfl rfl rfl rfl rfl rfl <| g_no rfl rfl rfl rfl rfl rfl ?_
            refine g_v rfl (r_pick1 rfl rfl) <| g_v rfl r_move <| g_no rfl rfl rfl rfl rfl rfl <| g_no rfl rfl rfl rfl rfl rfl <| g_no rfl rfl rfl rfl rfl rfl <| g_no rfl rfl rfl rfl rfl rfl <| g_v rfl (r_pick1 rfl rfl) <| g_v rfl r_move <| g_no rfl rfl rfl rfl rfl rfl <| g_no rfl rfl rfl rfl rfl rfl ?_
            refine g_no rfl rfl rfl rfl rfl rfl <| g_no rfl rfl rfl rfl rfl rfl <| g_no rfl rfl rfl rfl rfl rfl <| g_no rfl rfl rfl rfl rfl rfl <| g_no rfl rfl rfl rfl rfl rfl <| g_no rfl rfl rfl rfl rfl rfl <| g_v rfl (r_pick1 rfl rfl) <| g_v rfl r_move <| g_no rfl rfl rfl rfl rfl rfl <| g_no rfl rfl rfl rfl rfl rfl ?_
            refine g_no rfl rfl rfl rfl rfl rfl <| g_no rfl rfl rfl rfl rfl rfl <| g_v rfl (r_pick1 rfl rfl) <| g_nil <| d_then ?_
            refine c_flat [(1, .pointer (some ⟨g1, 0, none⟩)), (107, .bool true)] ⟨rfl, rfl, trivial⟩ (fun u => ?_)
            refine c_sta ⟨w0, M, (100010, g1, .cells #[.int .i64 p0.fKind, .int .i64 p0.fFrom, .int .i64 p0.fTo, .int .i64 p0.fTerm, .int .i64 p0.fIndex, .int .i64 p0.fLogTerm, .int .i64 p0.fCommit, .bool p0.fGood, .slice Ap0_0 p0.fEntries.length cp0_0, .slice Ap0_1 p0.fVoters.length cp0_1, .string p0.fSnap] 25 (0, 0)) :: H, R, φ⟩ (fun _ h => h) <| c_cond1 rfl rfl <| c_seq <| c_region <| g_v rfl r_assign <| g_nil <| d_then <| c_ret <| d_ret_then ?_
            replace hm := Option.some.inj hm
            subst hm
            refine d_retC () Try.results12 ?_ trivial (fun W h => ok_pre (H1 := [_]) (R1 := []) h (fun W hφ => hφ)) (.inr rfl)
            refine res_tmp <| res_nil ?_
            exact rfl
          ·
           replace hm := ite_t hm (of_decide_eq_true h11)
           refine g_no rfl rfl rfl rfl rfl h11 <| g_no rfl rfl rfl rfl rfl h11 <| g_no rfl rfl rfl rfl rfl h11 <| g_v rfl (r_pick1 rfl h11) <| g_v rfl r_move <| g_no rfl rfl rfl rfl rfl rfl <| g_no rfl rfl rfl rfl rfl rfl <| g_no rfl rfl rfl rfl rfl rfl <| g_v rfl (r_pick1 rfl rfl) <| g_v rfl r_move ?_
           refine g_no rfl rfl rfl rfl rfl rfl <| g_no rfl rfl rfl rfl rfl rfl <| g_no rfl rfl rfl rfl rfl rfl <| g_no rfl rfl rfl rfl rfl rfl <| g_no rfl rfl rfl rfl rfl rfl <| g_v rfl (r_pick1 rfl rfl) <| g_v rfl r_move <| g_no rfl rfl rfl rfl rfl rfl <| g_no rfl rfl rfl rfl rfl rfl <| g_no rfl rfl rfl rfl rfl rfl ?_
           refine g_v rfl (r_pick1 rfl rfl) <| g_v rfl r_move <| g_no rfl rfl rfl rfl rfl rfl <| g_no rfl rfl rfl rfl rfl rfl <| g_no rfl rfl rfl rfl rfl rfl <| g_no rfl rfl rfl rfl rfl rfl <| g_v rfl (r_pick1 rfl rfl) <| g_v rfl r_move <| g_no rfl rfl rfl rfl rfl rfl <| g_no rfl rfl rfl rfl rfl rfl ?_
           refine g_no rfl rfl rfl rfl rfl rfl <| g_no rfl rfl rfl rfl rfl rfl <| g_v rfl (r_pick1 rfl rfl) <| g_v rfl r_move <| g_no rfl rfl rfl rfl rfl rfl <| g_no rfl rfl rfl rfl rfl rfl <| g_no rfl rfl rfl rfl rfl rfl <| g_no rfl rfl rfl rfl rfl rfl <| g_no rfl rfl rfl rfl rfl rfl <| g_no rfl rfl rfl rfl rfl rfl ?_
           refine g_no rfl rfl rfl rfl rfl rfl <| g_no rfl rfl rfl rfl rfl rfl <| g_v rfl (r_pick1 rfl rfl) <| g_v rfl r_move <| g_no rfl rfl rfl rfl rfl rfl <| g_no rfl rfl rfl rfl rfl rfl <| g_no rfl rfl rfl rfl rfl rfl <| g_no rfl rfl rfl rfl rfl rfl <| g_v rfl (r_pick1 rfl rfl) <| g_nil ?_
           refine d_then ?_
           refine c_flat [(1, .pointer (some ⟨g1, 0, none⟩)), (107, .bool true)] ⟨rfl, rfl, trivial⟩ (fun u => ?_)
           refine c_sta ⟨w0, M, (100010, g1, .cells #[.int .i64 p0.fKind, .int .i64 p0.fFrom, .int .i64 p0.fTo, .int .i64 p0.fTerm, .int .i64 p0.fIndex, .int .i64 p0.fLogTerm, .int .i64 p0.fCommit, .bool p0.fGood, .slice Ap0_0 p0.fEntries.length cp0_0, .slice Ap0_1 p0.fVoters.length cp0_1, .string p0.fSnap] 25 (0, 0)) :: H, R, φ⟩ (fun _ h => h) <| c_cond1 rfl rfl <| c_seq <| c_region <| g_v rfl r_assign <| g_nil <| d_then <| c_ret <| d_ret_then ?_
           replace hm := Option.some.inj hm
           subst hm
           refine d_retC () Try.results12 ?_ trivial (fun W h => ok_pre (H1 := [_]) (R1 := []) h (fun W hφ => hφ)) (.inr rfl)
           refine res_tmp <| res_nil ?_
           exact rfl
         ·
          replace hm := ite_t hm (of_decide_eq_true h10)
          refine g_no rfl rfl rfl rfl rfl h10 <| g_no rfl rfl rfl rfl rfl h10 <| g_v rfl (r_pick1 rfl h10) <| g_v rfl r_move <| g_no rfl rfl rfl rfl rfl rfl <| g_no rfl rfl rfl rfl rfl rfl <| g_no rfl rfl rfl rfl rfl rfl <| g_no rfl rfl rfl rfl rfl rfl <| g_v rfl (r_pick1 rfl rfl) <| g_v rfl r_move ?_
          refine g_no rfl rfl rfl rfl rfl rfl <| g_no rfl rfl rfl rfl rfl rfl <| g_no rfl rfl rfl rfl rfl rfl <| g_v rfl (r_pick1 rfl rfl) <| g_v rfl r_move <| g_no rfl rfl rfl rfl rfl rfl <| g_no rfl rfl rfl rfl rfl rfl <| g_no rfl rfl rfl rfl rfl rfl <| g_no rfl rfl rfl rfl rfl rfl <| g_no rfl rfl rfl rfl rfl rfl ?_
          refine g_v rfl (r_pick1 rfl rfl) <| g_v rfl r_move <| g_no rfl rfl rfl rfl rfl rfl <| g_no rfl rfl rfl rfl rfl rfl <| g_no rfl rfl rfl rfl rfl rfl <| g_v rfl (r_pick1 rfl rfl) <| g_v rfl r_move <| g_no rfl rfl rfl rfl rfl rfl <| g_no rfl rfl rfl rfl rfl rfl <| g_no rfl rfl rfl rfl rfl rfl ?_
          refine g_no rfl rfl rfl rfl rfl rfl <| g_v rfl (r_pick1 rfl rfl) <| g_v rfl r_move <| g_no rfl rfl rfl rfl rfl rfl <| g_no rfl rfl rfl rfl rfl rfl <| g_no rfl rfl rfl rfl rfl rfl <| g_no rfl rfl rfl rfl rfl rfl <| g_v rfl (r_pick1 rfl rfl) <| g_v rfl r_move <| g_no rfl rfl rfl rfl rfl rfl ?_
          refine g_no rfl rfl rfl rfl rfl rfl <| g_no rfl rfl rfl rfl rfl rfl <| g_no rfl rfl rfl rfl rfl rfl <| g_no rfl rfl rfl rfl rfl rfl <| g_no rfl rfl rfl rfl rfl rfl <| g_no rfl rfl rfl rfl rfl rfl <| g_no rfl rfl rfl rfl rfl rfl <| g_v rfl (r_pick1 rfl rfl) <| g_v rfl r_move <| g_no rfl rfl rfl rfl rfl rfl ?_
          refine g_no rfl rfl rfl rfl rfl rfl <| g_no rfl rfl rfl rfl rfl rfl <| g_no rfl rfl rfl rfl rfl rfl <| g_v rfl (r_pick1 rfl rfl) <| g_nil <| d_then ?_
          refine c_flat [(1, .pointer (some ⟨g1, 0, none⟩)), (107, .bool true)] ⟨rfl, rfl, trivial⟩ (fun u => ?_)
          refine c_sta ⟨w0, M, (100010, g1, .cells #[.int .i64 p0.fKind, .int .i64 p0.fFrom, .int .i64 p0.fTo, .int .i64 p0.fTerm, .int .i64 p0.fIndex, .int .i64 p0.fLogTerm, .int .i64 p0.fCommit, .bool p0.fGood, .slice Ap0_0 p0.fEntries.length cp0_0, .slice Ap0_1 p0.fVoters.length cp0_1, .string p0.fSnap] 25 (0, 0)) :: H, R, φ⟩ (fun _ h => h) <| c_cond1 rfl rfl <| c_seq <| c_region <| g_v rfl r_assign <| g_nil <| d_then <| c_ret <| d_ret_then ?_
          replace hm := Option.some.inj hm
          subst hm
          refine d_retC () Try.results12 ?_ trivial (fun W h => ok_pre (H1 := [_]) (R1 := []) h (fun W hφ => hφ)) (.inr rfl)
          refine res_tmp <| res_nil ?_
          exact rfl
        ·
         replace hm := ite_t hm (of_decide_eq_true h9)
         refine g_no rfl rfl rfl rfl rfl h9 <| g_no rfl rfl rfl rfl rfl h9 <| g_no rfl rfl rfl rfl rfl h9 <| g_v rfl (r_pick1 rfl h9) <| g_v rfl r_move <| g_no rfl rfl rfl rfl rfl rfl <| g_no rfl rfl rfl rfl rfl rfl <| g_no rfl rfl rfl rfl rfl rfl <| g_v rfl (r_pick1 rfl rfl) <| g_v rfl r_move ?_
         refine g_no rfl rfl rfl rfl rfl rfl <| g_no rfl rfl rfl rfl rfl rfl <| g_no rfl rfl rfl rfl rfl rfl <| g_no rfl rfl rfl rfl rfl rfl <| g_v rfl (r_pick1 rfl rfl) <| g_v rfl r_move <| g_no rfl rfl rfl rfl rfl rfl <| g_no rfl rfl rfl rfl rfl rfl <| g_no rfl rfl rfl rfl rfl rfl <| g_v rfl (r_pick1 rfl rfl) ?_
         refine g_v rfl r_move <| g_no rfl rfl rfl rfl rfl rfl <| g_no rfl rfl rfl rfl rfl rfl <| g_no rfl rfl rfl rfl rfl rfl <| g_no rfl rfl rfl rfl rfl rfl <| g_no rfl rfl rfl rfl rfl rfl <| g_v rfl (r_pick1 rfl rfl) <| g_v rfl r_move <| g_no rfl rfl rfl rfl rfl rfl <| g_no rfl rfl rfl rfl rfl rfl ?_
         refine g_no rfl rfl rfl rfl rfl rfl <| g_v rfl (r_pick1 rfl rfl) <| g_v rfl r_move <| g_no rfl rfl rfl rfl rfl rfl <| g_no rfl rfl rfl rfl rfl rfl <| g_no rfl rfl rfl rfl rfl rfl <| g_no rfl rfl rfl rfl rfl rfl <| g_v rfl (r_pick1 rfl rfl) <| g_v rfl r_move <| g_no rfl rfl rfl rfl rfl rfl ?_
         refine g_no rfl rfl rfl rfl rfl rfl <| g_no rfl rfl rfl rfl rfl rfl <| g_no rfl rfl rfl rfl rfl rfl <| g_v rfl (r_pick1 rfl rfl) <| g_v rfl r_move <| g_no rfl rfl rfl rfl rfl rfl <| g_no rfl rfl rfl rfl rfl rfl <| g_no rfl rfl rfl rfl rfl rfl <| g_no rfl rfl rfl rfl rfl rfl <| g_no rfl rfl rfl rfl rfl rfl ?_
         refine g_no rfl rfl rfl rfl rfl rfl <| g_no rfl rfl rfl rfl rfl rfl <| g_no rfl rfl rfl rfl rfl rfl <| g_v rfl (r_pick1 rfl rfl) <| g_v rfl r_move <| g_no rfl rfl rfl rfl rfl rfl <| g_no rfl rfl rfl rfl rfl rfl <| g_no rfl rfl rfl rfl rfl rfl <| g_no rfl rfl rfl rfl rfl rfl <| g_v rfl (r_pick1 rfl rfl) ?_
         refine g_nil <| d_then ?_
         refine c_flat [(1, .pointer (some ⟨g1, 0, none⟩)), (107, .bool true)] ⟨rfl, rfl, trivial⟩ (fun u => ?_)
         refine c_sta ⟨w0, M, (100010, g1, .cells #[.int .i64 p0.fKind, .int .i64 p0.fFrom, .int .i64 p0.fTo, .int .i64 p0.fTerm, .int .i64 p0.fIndex, .int .i64 p0.fLogTerm, .int .i64 p0.fCommit, .bool p0.fGood, .slice Ap0_0 p0.fEntries.length cp0_0, .slice Ap0_1 p0.fVoters.length cp0_1, .string p0.fSnap] 25 (0, 0)) :: H, R, φ⟩ (fun _ h => h) <| c_cond1 rfl rfl <| c_seq <| c_region <| g_v rfl r_assign <| g_nil <| d_then <| c_ret <| d_ret_then ?_
         replace hm := Option.some.inj hm
         subst hm
         refine d_retC () Try.results12 ?_ trivial (fun W h => ok_pre (H1 := [_]) (R1 := []) h (fun W hφ => hφ)) (.inr rfl)
         refine res_tmp <| res_nil ?_
         exact rfl
       ·
        replace hm := ite_t hm (of_decide_eq_true h8)
        refine g_no rfl rfl rfl rfl rfl h8 <| g_no rfl rfl rfl rfl rfl h8 <| g_v rfl (r_pick1 rfl h8) <| g_v rfl r_move <| g_no rfl rfl rfl rfl rfl rfl <| g_no rfl rfl rfl rfl rfl rfl <| g_no rfl rfl rfl rfl rfl rfl <| g_no rfl rfl rfl rfl rfl rfl <| g_v rfl (r_pick1 rfl rfl) <| g_v rfl r_move ?_
        refine g_no rfl rfl rfl rfl rfl rfl <| g_no rfl rfl rfl rfl rfl rfl <| g_no rfl rfl rfl rfl rfl rfl <| g_v rfl (r_pick1 rfl rfl) <| g_v rfl r_move <| g_no rfl rfl rfl rfl rfl rfl <| g_no rfl rfl rfl rfl rfl rfl <| g_no rfl rfl rfl rfl rfl rfl <| g_no rfl rfl rfl rfl rfl rfl <| g_v rfl (r_pick1 rfl rfl) ?_
        refine g_v rfl r_move <| g_no rfl rfl rfl rfl rfl rfl <| g_no rfl rfl rfl rfl rfl rfl <| g_no rfl rfl rfl rfl rfl rfl <| g_v rfl (r_pick1 rfl rfl) <| g_v rfl r_move <| g_no rfl rfl rfl rfl rfl rfl <| g_no rfl rfl rfl rfl rfl rfl <| g_no rfl rfl rfl rfl rfl rfl <| g_no rfl rfl rfl rfl rfl rfl ?_
        refine g_no rfl rfl rfl rfl rfl rfl <| g_v rfl (r_pick1 rfl rfl) <| g_v rfl r_move <| g_no rfl rfl rfl rfl rfl rfl <| g_no rfl rfl rfl rfl rfl rfl <| g_no rfl rfl rfl rfl rfl rfl <| g_v rfl (r_pick1 rfl rfl) <| g_v rfl r_move <| g_no rfl rfl rfl rfl rfl rfl <| g_no rfl rfl rfl rfl rfl rfl ?_
        refine g_no rfl rfl rfl rfl rfl rfl <| g_no rfl rfl rfl rfl rfl rfl <| g_v rfl (r_pick1 rfl rfl) <| g_v rfl r_move <| g_no rfl rfl rfl rfl rfl rfl <| g_no rfl rfl rfl rfl rfl rfl <| g_no rfl rfl rfl rfl rfl rfl <| g_no rfl rfl rfl rfl rfl rfl <| g_v rfl (r_pick1 rfl rfl) <| g_v rfl r_move ?_
        refine g_no rfl rfl rfl rfl rfl rfl <| g_no rfl rfl rfl rfl rfl rfl <| g_no rfl rfl rfl rfl rfl rfl <| g_no rfl rfl rfl rfl rfl rfl <| g_no rfl rfl rfl rfl rfl rfl <| g_no rfl rfl rfl rfl rfl rfl <| g_no rfl rfl rfl rfl rfl rfl <| g_no rfl rfl rfl rfl rfl rfl <| g_v rfl (r_pick1 rfl rfl) <| g_v rfl r_move ?_
        refine g_no rfl rfl rfl rfl rfl rfl <| g_no rfl rfl rfl rfl rfl rfl <| g_no rfl rfl rfl rfl rfl rfl <| g_no rfl rfl rfl rfl rfl rfl <| g_v rfl (r_pick1 rfl rfl) <| g_nil <| d_then ?_
        refine c_flat [(1, .pointer (some ⟨g1, 0, none⟩)), (107, .bool true)] ⟨rfl, rfl, trivial⟩ (fun u => ?_)
        refine c_sta ⟨w0, M, (100010, g1, .cells #[.int .i64 p0.fKind, .int .i64 p0.fFrom, .int .i64 p0.fTo, .int .i64 p0.fTerm, .int .i64 p0.fIndex, .int .i64 p0.fLogTerm, .int .i64 p0.fCommit, .bool p0.fGood, .slice Ap0_0 p0.fEntries.length cp0_0, .slice Ap0_1 p0.fVoters.length cp0_1, .string p0.fSnap] 25 (0, 0)) :: H, R, φ⟩ (fun _ h => h) <| c_cond1 rfl rfl <| c_seq <| c_region <| g_v rfl r_assign <| g_nil <| d_then <| c_ret <| d_ret_then ?_
        replace hm := Option.some.inj hm
        subst hm
        refine d_retC () Try.results12 ?_ trivial (fun W h => ok_pre (H1 := [_]) (R1 := []) h (fun W hφ => hφ)) (.inr rfl)
        refine res_tmp <| res_nil ?_
        exact rfl
      ·
       replace hm := ite_t hm (of_decide_eq_true h7)
       refine g_no rfl rfl rfl rfl rfl h7 <| g_no rfl rfl rfl rfl rfl h7 <| g_no rfl rfl rfl rfl rfl h7 <| g_no rfl rfl rfl rfl rfl h7 <| g_v rfl (r_pick1 rfl h7) <| g_v rfl r_move <| g_no rfl rfl rfl rfl rfl rfl <| g_no rfl rfl rfl rfl rfl rfl <| g_no rfl rfl rfl rfl rfl rfl <| g_v rfl (r_pick1 rfl rfl) ?_
       refine g_v rfl r_move <| g_no rfl rfl rfl rfl rfl rfl <| g_no rfl rfl rfl rfl rfl rfl <| g_no rfl rfl rfl rfl rfl rfl <| g_no rfl rfl rfl rfl rfl rfl <| g_v rfl (r_pick1 rfl rfl) <| g_v rfl r_move <| g_no rfl rfl rfl rfl rfl rfl <| g_no rfl rfl rfl rfl rfl rfl <| g_no rfl rfl rfl rfl rfl rfl ?_
       refine g_v rfl (r_pick1 rfl rfl) <| g_v rfl r_move <| g_no rfl rfl rfl rfl rfl rfl <| g_no rfl rfl rfl rfl rfl rfl <| g_no rfl rfl rfl rfl rfl rfl <| g_no rfl rfl rfl rfl rfl rfl <| g_v rfl (r_pick1 rfl rfl) <| g_v rfl r_move <| g_no rfl rfl rfl rfl rfl rfl <| g_no rfl rfl rfl rfl rfl rfl ?_
       refine g_no rfl rfl rfl rfl rfl rfl <| g_v rfl (r_pick1 rfl rfl) <| g_v rfl r_move <| g_no rfl rfl rfl rfl rfl rfl <| g_no rfl rfl rfl rfl rfl rfl <| g_no rfl rfl rfl rfl rfl rfl <| g_no rfl rfl rfl rfl rfl rfl <| g_no rfl rfl rfl rfl rfl rfl <| g_v rfl (r_pick1 rfl rfl) <| g_v rfl r_move ?_
       refine g_no rfl rfl rfl rfl rfl rfl <| g_no rfl rfl rfl rfl rfl rfl <| g_no rfl rfl rfl rfl rfl rfl <| g_v rfl (r_pick1 rfl rfl) <| g_v rfl r_move <| g_no rfl rfl rfl rfl rfl rfl <| g_no rfl rfl rfl rfl rfl rfl <| g_no rfl rfl rfl rfl rfl rfl <| g_no rfl rfl rfl rfl rfl rfl <| g_v rfl (r_pick1 rfl rfl) ?_
       refine g_v rfl r_move <| g_no rfl rfl rfl rfl rfl rfl <| g_no rfl rfl rfl rfl rfl rfl <| g_no rfl rfl rfl rfl rfl rfl <| g_no rfl rfl rfl rfl rfl rfl <| g_v rfl (r_pick1 rfl rfl) <| g_v rfl r_move <| g_no rfl rfl rfl rfl rfl rfl <| g_no rfl rfl rfl rfl rfl rfl <| g_no rfl rfl rfl rfl rfl rfl ?_
       refine g_no rfl rfl rfl rfl rfl rfl <| g_no rfl rfl rfl rfl rfl rfl <| g_no rfl rfl rfl rfl rfl rfl <| g_no rfl rfl rfl rfl rfl rfl <| g_no rfl rfl rfl rfl rfl rfl <| g_v rfl (r_pick1 rfl rfl) <| g_v rfl r_move <| g_no rfl rfl rfl rfl rfl rfl <| g_no rfl rfl rfl rfl rfl rfl <| g_no rfl rfl rfl rfl rfl rfl ?_
       refine g_no rfl rfl rfl rfl rfl rfl <| g_v rfl (r_pick1 rfl rfl) <| g_nil <| d_then ?_
       refine c_flat [(1, .pointer (some ⟨g1, 0, none⟩)), (107, .bool true)] ⟨rfl, rfl, trivial⟩ (fun u => ?_)
       refine c_sta ⟨w0, M, (100010, g1, .cells #[.int .i64 p0.fKind, .int .i64 p0.fFrom, .int .i64 p0.fTo, .int .i64 p0.fTerm, .int .i64 p0.fIndex, .int .i64 p0.fLogTerm, .int .i64 p0.fCommit, .bool p0.fGood, .slice Ap0_0 p0.fEntries.length cp0_0, .slice Ap0_1 p0.fVoters.length cp0_1, .string p0.fSnap] 25 (0, 0)) :: H, R, φ⟩ (fun _ h => h) <| c_cond1 rfl rfl <| c_seq <| c_region <| g_v rfl r_assign <| g_nil <| d_then <| c_ret <| d_ret_then ?_
       replace hm := Option.some.inj hm
       subst hm
       refine d_retC () Try.results12 ?_ trivial (fun W h => ok_pre (H1 := [_]) (R1 := []) h (fun W hφ => hφ)) (.inr rfl)
       refine res_tmp <| res_nil ?_
       exact rfl
     ·
      replace hm := ite_t hm (of_decide_eq_true h6)
      refine g_no rfl rfl rfl rfl rfl h6 <| g_no rfl rfl rfl rfl rfl h6 <| g_v rfl (r_pick1 rfl h6) <| g_v rfl r_move <| g_no rfl rfl rfl rfl rfl rfl <| g_no rfl rfl rfl rfl rfl rfl <| g_no rfl rfl rfl rfl rfl rfl <| g_no rfl rfl rfl rfl rfl rfl <| g_no rfl rfl rfl rfl rfl rfl <| g_v rfl (r_pick1 rfl rfl) ?_
      refine g_v rfl r_move <| g_no rfl rfl rfl rfl rfl rfl <| g_no rfl rfl rfl rfl rfl rfl <| g_no rfl rfl rfl rfl rfl rfl <| g_v rfl (r_pick1 rfl rfl) <| g_v rfl r_move <| g_no rfl rfl rfl rfl rfl rfl <| g_no rfl rfl rfl rfl rfl rfl <| g_no rfl rfl rfl rfl rfl rfl <| g_no rfl rfl rfl rfl rfl rfl ?_
      refine g_v rfl (r_pick1 rfl rfl) <| g_v rfl r_move <| g_no rfl rfl rfl rfl rfl rfl <| g_no rfl rfl rfl rfl rfl rfl <| g_no rfl rfl rfl rfl rfl rfl <| g_v rfl (r_pick1 rfl rfl) <| g_v rfl r_move <| g_no rfl rfl rfl rfl rfl rfl <| g_no rfl rfl rfl rfl rfl rfl <| g_no rfl rfl rfl rfl rfl rfl ?_
      refine g_no rfl rfl rfl rfl rfl rfl <| g_v rfl (r_pick1 rfl rfl) <| g_v rfl r_move <| g_no rfl rfl rfl rfl rfl rfl <| g_no rfl rfl rfl rfl rfl rfl <| g_no rfl rfl rfl rfl rfl rfl <| g_v rfl (r_pick1 rfl rfl) <| g_v rfl r_move <| g_no rfl rfl rfl rfl rfl rfl <| g_no rfl rfl rfl rfl rfl rfl ?_
      refine g_no rfl rfl rfl rfl rfl rfl <| g_no rfl rfl rfl rfl rfl rfl <| g_no rfl rfl rfl rfl rfl rfl <| g_v rfl (r_pick1 rfl rfl) <| g_v rfl r_move <| g_no rfl rfl rfl rfl rfl rfl <| g_no rfl rfl rfl rfl rfl rfl <| g_no rfl rfl rfl rfl rfl rfl <| g_v rfl (r_pick1 rfl rfl) <| g_v rfl r_move ?_
      refine g_no rfl rfl rfl rfl rfl rfl <| g_no rfl rfl rfl rfl rfl rfl <| g_no rfl rfl rfl rfl rfl rfl <| g_no rfl rfl rfl rfl rfl rfl <| g_v rfl (r_pick1 rfl rfl) <| g_v rfl r_move <| g_no rfl rfl rfl rfl rfl rfl <| g_no rfl rfl rfl rfl rfl rfl <| g_no rfl rfl rfl rfl rfl rfl <| g_no rfl rfl rfl rfl rfl rfl ?_
      refine g_v rfl (r_pick1 rfl rfl) <| g_v rfl r_move <| g_no rfl rfl rfl rfl rfl rfl <| g_no rfl rfl rfl rfl rfl rfl <| g_no rfl rfl rfl rfl rfl rfl <| g_no rfl rfl rfl rfl rfl rfl <| g_no rfl rfl rfl rfl rfl rfl <| g_no rfl rfl rfl rfl rfl rfl <| g_no rfl rfl rfl rfl rfl rfl <| g_no rfl rfl rfl rfl rfl rfl ?_
      refine g_v rfl (r_pick1 rfl rfl) <| g_v rfl r_move <| g_no rfl rfl rfl rfl rfl rfl <| g_no rfl rfl rfl rfl rfl rfl <| g_no rfl rfl rfl rfl rfl rfl <| g_no rfl rfl rfl rfl rfl rfl <| g_v rfl (r_pick1 rfl rfl) <| g_nil <| d_then ?_
      refine c_flat [(1, .pointer (some ⟨g1, 0, none⟩)), (107, .bool true)] ⟨rfl, rfl, trivial⟩ (fun u => ?_)
      refine c_sta ⟨w0, M, (100010, g1, .cells #[.int .i64 p0.fKind, .int .i64 p0.fFrom, .int .i64 p0.fTo, .int .i64 p0.fTerm, .int .i64 p0.fIndex, .int .i64 p0.fLogTerm, .int .i64 p0.fCommit, .bool p0.fGood, .slice Ap0_0 p0.fEntries.length cp0_0, .slice Ap0_1 p0.fVoters.length cp0_1, .string p0.fSnap] 25 (0, 0)) :: H, R, φ⟩ (fun _ h => h) <| c_cond1 rfl rfl <| c_seq <| c_region <| g_v rfl r_assign <| g_nil <| d_then <| c_ret <| d_ret_then ?_
      replace hm := Option.some.inj hm
      subst hm
      refine d_retC () Try.results12 ?_ trivial (fun W h => ok_pre (H1 := [_]) (R1 := []) h (fun W hφ => hφ)) (.inr rfl)
      refine res_tmp <| res_nil ?_
      exact rfl
    ·
     replace hm := ite_t hm (of_decide_eq_true h5)
     refine g_no rfl rfl rfl rfl rfl h5 <| g_no rfl rfl rfl rfl rfl h5 <| g_v rfl (r_pick1 rfl h5) <| g_v rfl r_move <| g_no rfl rfl rfl rfl rfl rfl <| g_no rfl rfl rfl rfl rfl rfl <| g_no rfl rfl rfl rfl rfl rfl <| g_v rfl (r_pick1 rfl rfl) <| g_v rfl r_move <| g_no rfl rfl rfl rfl rfl rfl ?_
     refine g_no rfl rfl rfl rfl rfl rfl <| g_no rfl rfl rfl rfl rfl rfl <| g_no rfl rfl rfl rfl rfl rfl <| g_no rfl rfl rfl rfl rfl rfl <| g_v rfl (r_pick1 rfl rfl) <| g_v rfl r_move <| g_no rfl rfl rfl rfl rfl rfl <| g_no rfl rfl rfl rfl rfl rfl <| g_no rfl rfl rfl rfl rfl rfl <| g_v rfl (r_pick1 rfl rfl) ?_
     refine g_v rfl r_move <| g_no rfl rfl rfl rfl rfl rfl <| g_no rfl rfl rfl rfl rfl rfl <| g_no rfl rfl rfl rfl rfl rfl <| g_no rfl rfl rfl rfl rfl rfl <| g_v rfl (r_pick1 rfl rfl) <| g_v rfl r_move <| g_no rfl rfl rfl rfl rfl rfl <| g_no rfl rfl rfl rfl rfl rfl <| g_no rfl rfl rfl rfl rfl rfl ?_
     refine g_v rfl (r_pick1 rfl rfl) <| g_v rfl r_move <| g_no rfl rfl rfl rfl rfl rfl <| g_no rfl rfl rfl rfl rfl rfl <| g_no rfl rfl rfl rfl rfl rfl <| g_no rfl rfl rfl rfl rfl rfl <| g_v rfl (r_pick1 rfl rfl) <| g_v rfl r_move <| g_no rfl rfl rfl rfl rfl rfl <| g_no rfl rfl rfl rfl rfl rfl ?_
     refine g_no rfl rfl rfl rfl rfl rfl <| g_v rfl (r_pick1 rfl rfl) <| g_v rfl r_move <| g_no rfl rfl rfl rfl rfl rfl <| g_no rfl rfl rfl rfl rfl rfl <| g_no rfl rfl rfl rfl rfl rfl <| g_no rfl rfl rfl rfl rfl rfl <| g_no rfl rfl rfl rfl rfl rfl <| g_v rfl (r_pick1 rfl rfl) <| g_v rfl r_move ?_
     refine g_no rfl rfl rfl rfl rfl rfl <| g_no rfl rfl rfl rfl rfl rfl <| g_no rfl rfl rfl rfl rfl rfl <| g_v rfl (r_pick1 rfl rfl) <| g_v rfl r_move <| g_no rfl rfl rfl rfl rfl rfl <| g_no rfl rfl rfl rfl rfl rfl <| g_no rfl rfl rfl rfl rfl rfl <| g_no rfl rfl rfl rfl rfl rfl <| g_v rfl (r_pick1 rfl rfl) ?_
     refine g_v rfl r_move <| g_no rfl rfl rfl rfl rfl rfl <| g_no rfl rfl rfl rfl rfl rfl <| g_no rfl rfl rfl rfl rfl rfl <| g_no rfl rfl rfl rfl rfl rfl <| g_v rfl (r_pick1 rfl rfl) <| g_v rfl r_move <| g_no rfl rfl rfl rfl rfl rfl <| g_no rfl rfl rfl rfl rfl rfl <| g_no rfl rfl rfl rfl rfl rfl ?_
     refine g_no rfl rfl rfl rfl rfl rfl <| g_no rfl rfl rfl rfl rfl rfl <| g_no rfl rfl rfl rfl rfl rfl <| g_no rfl rfl rfl rfl rfl rfl <| g_no rfl rfl rfl rfl rfl rfl <| g_v rfl (r_pick1 rfl rfl) <| g_v rfl r_move <| g_no rfl rfl rfl rfl rfl rfl <| g_no rfl rfl rfl rfl rfl rfl <| g_no rfl rfl rfl rfl rfl rfl ?_
     refine g_no rfl rfl rfl rfl rfl rfl <| g_v rfl (r_pick1 rfl rfl) <| g_nil <| d_then ?_
     refine c_flat [(1, .pointer (some ⟨g1, 0, none⟩)), (107, .bool true)] ⟨rfl, rfl, trivial⟩ (fun u => ?_)
     refine c_sta ⟨w0, M, (100010, g1, .cells #[.int .i64 p0.fKind, .int .i64 p0.fFrom, .int .i64 p0.fTo, .int .i64 p0.fTerm, .int .i64 p0.fIndex, .int .i64 p0.fLogTerm, .int .i64 p0.fCommit, .bool p0.fGood, .slice Ap0_0 p0.fEntries.length cp0_0, .slice Ap0_1 p0.fVoters.length cp0_1, .string p0.fSnap] 25 (0, 0)) :: H, R, φ⟩ (fun _ h => h) <| c_cond1 rfl rfl <| c_seq <| c_region <| g_v rfl r_assign <| g_nil <| d_then <| c_ret <| d_ret_then ?_
     replace hm := Option.some.inj hm
     subst hm
     refine d_retC () Try.results12 ?_ trivial (fun W h => ok_pre (H1 := [_]) (R1 := []) h (fun W hφ => hφ)) (.inr rfl)
     refine res_tmp <| res_nil ?_
     exact rfl
   ·
    replace hm := ite_t hm (of_decide_eq_true h4)
    refine g_no rfl rfl rfl rfl rfl h4 <| g_no rfl rfl rfl rfl rfl h4 <| g_v rfl (r_pick1 rfl h4) <| g_v rfl r_move <| g_no rfl rfl rfl rfl rfl rfl <| g_no rfl rfl rfl rfl rfl rfl <| g_no rfl rfl rfl rfl rfl rfl <| g_v rfl (r_pick1 rfl rfl) <| g_v rfl r_move <| g_no rfl rfl rfl rfl rfl rfl ?_
    refine g_no rfl rfl rfl rfl rfl rfl <| g_no rfl rfl rfl rfl rfl rfl <| g_v rfl (r_pick1 rfl rfl) <| g_v rfl r_move <| g_no rfl rfl rfl rfl rfl rfl <| g_no rfl rfl rfl rfl rfl rfl <| g_no rfl rfl rfl rfl rfl rfl <| g_no rfl rfl rfl rfl rfl rfl <| g_no rfl rfl rfl rfl rfl rfl <| g_v rfl (r_pick1 rfl rfl) ?_
    refine g_v rfl r_move <| g_no rfl rfl rfl rfl rfl rfl <| g_no rfl rfl rfl rfl rfl rfl <| g_no rfl rfl rfl rfl rfl rfl <| g_v rfl (r_pick1 rfl rfl) <| g_v rfl r_move <| g_no rfl rfl rfl rfl rfl rfl <| g_no rfl rfl rfl rfl rfl rfl <| g_no rfl rfl rfl rfl rfl rfl <| g_no rfl rfl rfl rfl rfl rfl ?_
    refine g_v rfl (r_pick1 rfl rfl) <| g_v rfl r_move <| g_no rfl rfl rfl rfl rfl rfl <| g_no rfl rfl rfl rfl rfl rfl <| g_no rfl rfl rfl rfl rfl rfl <| g_v rfl (r_pick1 rfl rfl) <| g_v rfl r_move <| g_no rfl rfl rfl rfl rfl rfl <| g_no rfl rfl rfl rfl rfl rfl <| g_no rfl rfl rfl rfl rfl rfl ?_
    refine g_no rfl rfl rfl rfl rfl rfl <| g_v rfl (r_pick1 rfl rfl) <| g_v rfl r_move <| g_no rfl rfl rfl rfl rfl rfl <| g_no rfl rfl rfl rfl rfl rfl <| g_no rfl rfl rfl rfl rfl rfl <| g_v rfl (r_pick1 rfl rfl) <| g_v rfl r_move <| g_no rfl rfl rfl rfl rfl rfl <| g_no rfl rfl rfl rfl rfl rfl ?_
    refine g_no rfl rfl rfl rfl rfl rfl <| g_no rfl rfl rfl rfl rfl rfl <| g_no rfl rfl rfl rfl rfl rfl <| g_v rfl (r_pick1 rfl rfl) <| g_v rfl r_move <| g_no rfl rfl rfl rfl rfl rfl <| g_no rfl rfl rfl rfl rfl rfl <| g_no rfl rfl rfl rfl rfl rfl <| g_v rfl (r_pick1 rfl rfl) <| g_v rfl r_move ?_
    refine g_no rfl rfl rfl rfl rfl rfl <| g_no rfl rfl rfl rfl rfl rfl <| g_no rfl rfl rfl rfl rfl rfl <| g_no rfl rfl rfl rfl rfl rfl <| g_v rfl (r_pick1 rfl rfl) <| g_v rfl r_move <| g_no rfl rfl rfl rfl rfl rfl <| g_no rfl rfl rfl rfl rfl rfl <| g_no rfl rfl rfl rfl rfl rfl <| g_no rfl rfl rfl rfl rfl rfl ?_
    refine g_v rfl (r_pick1 rfl rfl) <| g_v rfl r_move <| g_no rfl rfl rfl rfl rfl rfl <| g_no rfl rfl rfl rfl rfl rfl <| g_no rfl rfl rfl rfl rfl rfl <| g_no rfl rfl rfl rfl rfl rfl <| g_no rfl rfl rfl rfl rfl rfl <| g_no rfl rfl rfl rfl rfl rfl <| g_no rfl rfl rfl rfl rfl rfl <| g_no rfl rfl rfl rfl rfl rfl ?_
    refine g_v rfl (r_pick1 rfl rfl) <| g_v rfl r_move <| g_no rfl rfl rfl rfl rfl rfl <| g_no rfl rfl rfl rfl rfl rfl <| g_no rfl rfl rfl rfl rfl rfl <| g_no rfl rfl rfl rfl rfl rfl <| g_v rfl (r_pick1 rfl rfl) <| g_nil <| d_then ?_
    refine c_flat [(1, .pointer (some ⟨g1, 0, none⟩)), (107, .bool true)] ⟨rfl, rfl, trivial⟩ (fun u => ?_)
    refine c_sta ⟨w0, M, (100010, g1, .cells #[.int .i64 p0.fKind, .int .i64 p0.fFrom, .int .i64 p0.fTo, .int .i64 p0.fTerm, .int .i64 p0.fIndex, .int .i64 p0.fLogTerm, .int .i64 p0.fCommit, .bool p0.fGood, .slice Ap0_0 p0.fEntries.length cp0_0, .slice Ap0_1 p0.fVoters.length cp0_1, .string p0.fSnap] 25 (0, 0)) :: H, R, φ⟩ (fun _ h => h) <| c_cond1 rfl rfl <| c_seq <| c_region <| g_v rfl r_assign <| g_nil <| d_then <| c_ret <| d_ret_then ?_
    replace hm := Option.some.inj hm
    subst hm
    refine d_retC () Try.results12 ?_ trivial (fun W h => ok_pre (H1 := [_]) (R1 := []) h (fun W hφ => hφ)) (.inr rfl)
    refine res_tmp <| res_nil ?_
    exact rfl
  ·
   replace hm := ite_t hm (of_decide_eq_true h3)
   refine g_no rfl rfl rfl rfl rfl h3 <| g_no rfl rfl rfl rfl rfl h3 <| g_v rfl (r_pick1 rfl h3) <| g_v rfl r_move <| g_no rfl rfl rfl rfl rfl rfl <| g_no rfl rfl rfl rfl rfl rfl <| g_no rfl rfl rfl rfl rfl rfl <| g_v rfl (r_pick1 rfl rfl) <| g_v rfl r_move <| g_no rfl rfl rfl rfl rfl rfl ?_
   refine g_no rfl rfl rfl rfl rfl rfl <| g_no rfl rfl rfl rfl rfl rfl <| g_v rfl (r_pick1 rfl rfl) <| g_v rfl r_move <| g_no rfl rfl rfl rfl rfl rfl <| g_no rfl rfl rfl rfl rfl rfl <| g_no rfl rfl rfl rfl rfl rfl <| g_v rfl (r_pick1 rfl rfl) <| g_v rfl r_move <| g_no rfl rfl rfl rfl rfl rfl ?_
   refine g_no rfl rfl rfl rfl rfl rfl <| g_no rfl rfl rfl rfl rfl rfl <| g_no rfl rfl rfl rfl rfl rfl <| g_no rfl rfl rfl rfl rfl rfl <| g_v rfl (r_pick1 rfl rfl) <| g_v rfl r_move <| g_no rfl rfl rfl rfl rfl rfl <| g_no rfl rfl rfl rfl rfl rfl <| g_no rfl rfl rfl rfl rfl rfl <| g_v rfl (r_pick1 rfl rfl) ?_
   refine g_v rfl r_move <| g_no rfl rfl rfl rfl rfl rfl <| g_no rfl rfl rfl rfl rfl rfl <| g_no rfl rfl rfl rfl rfl rfl <| g_no rfl rfl rfl rfl rfl rfl <| g_v rfl (r_pick1 rfl rfl) <| g_v rfl r_move <| g_no rfl rfl rfl rfl rfl rfl <| g_no rfl rfl rfl rfl rfl rfl <| g_no rfl rfl rfl rfl rfl rfl ?_
   refine g_v rfl (r_pick1 rfl rfl) <| g_v rfl r_move <| g_no rfl rfl rfl rfl rfl rfl <| g_no rfl rfl rfl rfl rfl rfl <| g_no rfl rfl rfl rfl rfl rfl <| g_no rfl rfl rfl rfl rfl rfl <| g_v rfl (r_pick1 rfl rfl) <| g_v rfl r_move <| g_no rfl rfl rfl rfl rfl rfl <| g_no rfl rfl rfl rfl rfl rfl ?_
   refine g_no rfl rfl rfl rfl rfl rfl <| g_v rfl (r_pick1 rfl rfl) <| g_v rfl r_move <| g_no rfl rfl rfl rfl rfl rfl <| g_no rfl rfl rfl rfl rfl rfl <| g_no rfl rfl rfl rfl rfl rfl <| g_no rfl rfl rfl rfl rfl rfl <| g_no rfl rfl rfl rfl rfl rfl <| g_v rfl (r_pick1 rfl rfl) <| g_v rfl r_move ?_
   refine g_no rfl rfl rfl rfl rfl rfl <| g_no rfl rfl rfl rfl rfl rfl <| g_no rfl rfl rfl rfl rfl rfl <| g_v rfl (r_pick1 rfl rfl) <| g_v rfl r_move <| g_no rfl rfl rfl rfl rfl rfl <| g_no rfl rfl rfl rfl rfl rfl <| g_no rfl rfl rfl rfl rfl rfl <| g_no rfl rfl rfl rfl rfl rfl <| g_v rfl (r_pick1 rfl rfl) ?_
   refine g_v rfl r_move <| g_no rfl rfl rfl rfl rfl rfl <| g_no rfl rfl rfl rfl rfl rfl <| g_no rfl rfl rfl rfl rfl rfl <| g_no rfl rfl rfl rfl rfl rfl <| g_v rfl (r_pick1 rfl rfl) <| g_v rfl r_move <| g_no rfl rfl rfl rfl rfl rfl <| g_no rfl rfl rfl rfl rfl rfl <| g_no rfl rfl rfl rfl rfl rfl ?_
   refine g_no rfl rfl rfl rfl rfl rfl <| g_no rfl rfl rfl rfl rfl rfl <| g_no rfl rfl rfl rfl rfl rfl <| g_no rfl rfl rfl rfl rfl rfl <| g_no rfl rfl rfl rfl rfl rfl <| g_v rfl (r_pick1 rfl rfl) <| g_v rfl r_move <| g_no rfl rfl rfl rfl rfl rfl <| g_no rfl rfl rfl rfl rfl rfl <| g_no rfl rfl rfl rfl rfl rfl ?_
   refine g_no rfl rfl rfl rfl rfl rfl <| g_v rfl (r_pick1 rfl rfl) <| g_nil <| d_then ?_
   refine c_flat [(1, .pointer (some ⟨g1, 0, none⟩)), (107, .bool true)] ⟨rfl, rfl, trivial⟩ (fun u => ?_)
   refine c_sta ⟨w0, M, (100010, g1, .cells #[.int .i64 p0.fKind, .int .i64 p0.fFrom, .int .i64 p0.fTo, .int .i64 p0.fTerm, .int .i64 p0.fIndex, .int .i64 p0.fLogTerm, .int .i64 p0.fCommit, .bool p0.fGood, .slice Ap0_0 p0.fEntries.length cp0_0, .slice Ap0_1 p0.fVoters.length cp0_1, .string p0.fSnap] 25 (0, 0)) :: H, R, φ⟩ (fun _ h => h) <| c_cond1 rfl rfl <| c_seq <| c_region <| g_v rfl r_assign <| g_nil <| d_then <| c_ret <| d_ret_then ?_
   replace hm := Option.some.inj hm
   subst hm
   refine d_retC () Try.results12 ?_ trivial (fun W h => ok_pre (H1 := [_]) (R1 := []) h (fun W hφ => hφ)) (.inr rfl)
   refine res_tmp <| res_nil ?_
   exact rfl
 ·
  replace hm := ite_t hm (of_decide_eq_true h2)
  refine g_no rfl rfl rfl rfl rfl h2 <| g_no rfl rfl rfl rfl rfl h2 <| g_v rfl (r_pick1 rfl h2) <| g_v rfl r_move <| g_no rfl rfl rfl rfl rfl rfl <| g_no rfl rfl rfl rfl rfl rfl <| g_no rfl rfl rfl rfl rfl rfl <| g_v rfl (r_pick1 rfl rfl) <| g_v rfl r_move <| g_no rfl rfl rfl rfl rfl rfl ?_
  refine g_no rfl rfl rfl rfl rfl rfl <| g_no rfl rfl rfl rfl rfl rfl <| g_v rfl (r_pick1 rfl rfl) <| g_v rfl r_move <| g_no rfl rfl rfl rfl rfl rfl <| g_no rfl rfl rfl rfl rfl rfl <| g_no rfl rfl rfl rfl rfl rfl <| g_v rfl (r_pick1 rfl rfl) <| g_v rfl r_move <| g_no rfl rfl rfl rfl rfl rfl ?_
  refine g_no rfl rfl rfl rfl rfl rfl <| g_no rfl rfl rfl rfl rfl rfl <| g_v rfl (r_pick1 rfl rfl) <| g_v rfl r_move <| g_no rfl rfl rfl rfl rfl rfl <| g_no rfl rfl rfl rfl rfl rfl <| g_no rfl rfl rfl rfl rfl rfl <| g_no rfl rfl rfl rfl rfl rfl <| g_no rfl rfl rfl rfl rfl rfl <| g_v rfl (r_pick1 rfl rfl) ?_
  refine g_v rfl r_move <| g_no rfl rfl rfl rfl rfl rfl <| g_no rfl rfl rfl rfl rfl rfl <| g_no rfl rfl rfl rfl rfl rfl <| g_v rfl (r_pick1 rfl rfl) <| g_v rfl r_move <| g_no rfl rfl rfl rfl rfl rfl <| g_no rfl rfl rfl rfl rfl rfl <| g_no rfl rfl rfl rfl rfl rfl <| g_no rfl rfl rfl rfl rfl rfl ?_
  refine g_v rfl (r_pick1 rfl rfl) <| g_v rfl r_move <| g_no rfl rfl rfl rfl rfl rfl <| g_no rfl rfl rfl rfl rfl rfl <| g_no rfl rfl rfl rfl rfl rfl <| g_v rfl (r_pick1 rfl rfl) <| g_v rfl r_move <| g_no rfl rfl rfl rfl rfl rfl <| g_no rfl rfl rfl rfl rfl rfl <| g_no rfl rfl rfl rfl rfl rfl ?_
  refine g_no rfl rfl rfl rfl rfl rfl <| g_v rfl (r_pick1 rfl rfl) <| g_v rfl r_move <| g_no rfl rfl rfl rfl rfl rfl <| g_no rfl rfl rfl rfl rfl rfl <| g_no rfl rfl rfl rfl rfl rfl <| g_v rfl (r_pick1 rfl rfl) <| g_v rfl r_move <| g_no rfl rfl rfl rfl rfl rfl <| g_no rfl rfl rfl rfl rfl rfl ?_
  refine g_no rfl rfl rfl rfl rfl rfl <| g_no rfl rfl rfl rfl rfl rfl <| g_no rfl rfl rfl rfl rfl rfl <| g_v rfl (r_pick1 rfl rfl) <| g_v rfl r_move <| g_no rfl rfl rfl rfl rfl rfl <| g_no rfl rfl rfl rfl rfl rfl <| g_no rfl rfl rfl rfl rfl rfl <| g_v rfl (r_pick1 rfl rfl) <| g_v rfl r_move ?_
  refine g_no rfl rfl rfl rfl rfl rfl <| g_no rfl rfl rfl rfl rfl rfl <| g_no rfl rfl rfl rfl rfl rfl <| g_no rfl rfl rfl rfl rfl rfl <| g_v rfl (r_pick1 rfl rfl) <| g_v rfl r_move <| g_no rfl rfl rfl rfl rfl rfl <| g_no rfl rfl rfl rfl rfl rfl <| g_no rfl rfl rfl rfl rfl rfl <| g_no rfl rfl rfl rfl rfl rfl ?_
  refine g_v rfl (r_pick1 rfl rfl) <| g_v rfl r_move <| g_no rfl rfl rfl rfl rfl rfl <| g_no rfl rfl rfl rfl rfl rfl <| g_no rfl rfl rfl rfl rfl rfl <| g_no rfl rfl rfl rfl rfl rfl <| g_no rfl rfl rfl rfl rfl rfl <| g_no rfl rfl rfl rfl rfl rfl <| g_no rfl rfl rfl rfl rfl rfl <| g_no rfl rfl rfl rfl rfl rfl ?_
  refine g_v rfl (r_pick1 rfl rfl) <| g_v rfl r_move <| g_no rfl rfl rfl rfl rfl rfl <| g_no rfl rfl rfl rfl rfl rfl <| g_no rfl rfl rfl rfl rfl rfl <| g_no rfl rfl rfl rfl rfl rfl <| g_v rfl (r_pick1 rfl rfl) <| g_nil <| d_then ?_
  refine c_flat [(1, .pointer (some ⟨g1, 0, none⟩)), (107, .bool true)] ⟨rfl, rfl, trivial⟩ (fun u => ?_)
  refine c_sta ⟨w0, M, (100010, g1, .cells #[.int .i64 p0.fKind, .int .i64 p0.fFrom, .int .i64 p0.fTo, .int .i64 p0.fTerm, .int .i64 p0.fIndex, .int .i64 p0.fLogTerm, .int .i64 p0.fCommit, .bool p0.fGood, .slice Ap0_0 p0.fEntries.length cp0_0, .slice Ap0_1 p0.fVoters.length cp0_1, .string p0.fSnap] 25 (0, 0)) :: H, R, φ⟩ (fun _ h => h) <| c_cond1 rfl rfl <| c_seq <| c_region <| g_v rfl r_assign <| g_nil <| d_then <| c_ret <| d_ret_then ?_
  replace hm := Option.some.inj hm
  subst hm
  refine d_retC () Try.results12 ?_ trivial (fun W h => ok_pre (H1 := [_]) (R1 := []) h (fun W hφ => hφ)) (.inr rfl)
  refine res_tmp <| res_nil ?_
  exact rfl
noncomputable def m_ref12_in_j1  : Option Bool :=
  some false
noncomputable def m_ref12_in_s2 (p0 : List Int) (p1 : Int) (i24 : Int) : Option (Int ⊕ (Unit ⊕ Bool)) :=
  if i24 < (p0.length : Int) then
    (at_ p0 i24).bind fun x34 =>
    if x34 = p1 then
      some (.inr (.inr true))
    else
      some (.inl (w64 (i24 + 1)))
  else
    some (.inr (.inl ()))
noncomputable def m_ref12_in (p0 : List Int) (p1 : Int) : Option Bool :=
  (loop (fun s => m_ref12_in_s2 p0 p1 s) 0).bind fun e => Sum.elim (fun e => m_ref12_in_j1) (fun x => some x) e
theorem c_ref12_in {w0 : World} {M : Nat → Prop} {H : List (Nat × Nat × Obj)} {R : List (Nat × Row)} {φ : World → Prop} (p0 : List Int) (Ap0_0 : Option Addr) (cp0_0 : Nat) (hcp0_0 : p0.length ≤ cp0_0) (fp0_0 : ∀ W, (Sta.mk w0 M H R φ).ok W → Cl W Ap0_0 (p0.flatMap (fun x : Int => [Value.int .i64 x]))) (p1 : Int) (r : Bool) (hm : m_ref12_in p0 p1 = some r) :
    Cn Try.prog 36 #[.slice Ap0_0 p0.length cp0_0, .int .i64 p1] ⟨w0, M, H, R, φ⟩ (fun x : Unit => .bool r) (fun x => True) (fun x => ⟨w0, M, H, R, φ⟩) := by
 unfold m_ref12_in at hm
 refine cn_intro (fn := Try.f36) (N := 18) Try.func36 rfl Try.ntmps36 rfl <| c_seq <| c_region <| g_v rfl r_assign <| g_nil <| d_then <| c_seq <| c_seq <| c_region <| g_v rfl r_assign ?_
 refine g_nil <| d_then ?_
 refine c_cut (ι := Unit) [] (fun _ => []) (fun _ => ⟨w0, M, H, R, φ⟩) (fun _ => m_ref12_in_j1 = some r) ?_ (fun _ u hm => ?_)
 ·
  refine c_block ?_
  replace hm := bnd hm
  obtain ⟨out2, hl2, hr2⟩ := hm
  obtain ⟨n32', hl2⟩ := loop_lp hl2
  refine c_loopU (ι := Nat × Int) [0, 1, 5] (fun ⟨n32, i24⟩ => [(5, .int .i64 i24)]) (fun ⟨n32, i24⟩ => ⟨w0, M, H, R, φ⟩) (fun ⟨n32, i24⟩ => Lp (fun s => m_ref12_in_s2 p0 p1 s) n32 i24 out2) (fun ⟨n32, i24⟩ => n32) (n32', 0) hl2 ⟨rfl, rfl, rfl, trivial⟩ (fun W h => h.phi (fun W hφ => hφ)) (fun ⟨n32, i24⟩ u hlp => ?_)
  obtain ⟨o2, hm, hnx2⟩ := lp_step hlp
  clear hlp
  replace hm : m_ref12_in_s2 p0 p1 i24 = some o2 := hm
  unfold m_ref12_in_s2 at hm
  refine c_flat [(0, .slice Ap0_0 p0.length cp0_0), (1, .int .i64 p1), (5, .int .i64 i24)] ⟨rfl, rfl, rfl, trivial⟩ (fun u => ?_)
  refine c_sta ⟨w0, M, H, R, φ⟩ (fun _ h => h) <| c_seq <| c_seq <| c_region <| g_v rfl r_move <| g_v rfl r_move <| g_v rfl (r_lenL Try.underlying23 rfl) <| g_v rfl (r_lss rfl rfl) <| g_nil <| d_then ?_
  refine c_cond rfl (fun h33 => ?_) (fun h33 => ?_)
  ·
   replace hm := ite_t hm (of_decide_eq_true h33)
   refine c_skip <| d_then <| c_seq <| c_block <| c_seq <| c_region <| g_v rfl r_move <| g_v rfl r_move ?_
   replace hm := bnd hm
   obtain ⟨x34, hx34, hm⟩ := hm
   refine g_know _ (fun W hS => cl_at (p := (Sta.mk w0 M H R φ).ok) (sz := 1) (fun _ => rfl) (by decide) (ok_pre (H1 := []) (R1 := []) hS (fun W h => h)) fp0_0 hx34) ?_
   rintro ⟨ad35, hA37, f36⟩
   refine g_v rfl (r_ix Try.underlying23 Try.sizeOf3 rfl hA37 rfl hx34) <| g_v rfl (r_ld rfl Try.isAgg3 (fun W hS => Cl.head (f36 W (ok_pre (H1 := []) (R1 := []) hS (fun W h => h))))) <| g_v rfl r_move <| g_v rfl (r_eql rfl rfl) <| g_nil <| d_then ?_
   refine c_flat [(0, .slice Ap0_0 p0.length cp0_0), (1, .int .i64 p1), (5, .int .i64 i24), (17, .bool (decide (x34 = p1)))] ⟨rfl, rfl, rfl, rfl, trivial⟩ (fun u => ?_)
   refine c_cond rfl (fun h38 => ?_) (fun h38 => ?_)
   ·
    replace hm := ite_t hm (of_decide_eq_true h38)
    refine c_seq <| c_region <| g_v rfl r_assign <| g_nil <| d_then <| c_ret <| d_ret_block <| d_ret_then <| d_ret_then <| d_ret_block ?_
    refine d_ret_then <| d_ret_then ?_
    replace hm := nx_out (C := (fun e : Unit ⊕ Bool => Sum.elim (fun e => m_ref12_in_j1) (fun x => some x) e = some r)) hm hnx2 hr2
    replace hm : some true = some r := hm
    replace hm := Option.some.inj hm
    subst hm
    refine d_retC () Try.results36 ?_ trivial (fun W h => ok_pre (H1 := []) (R1 := []) h (fun W hφ => hφ)) (.inr rfl)
    refine res_tmp <| res_nil ?_
    exact rfl
   ·
    replace hm := ite_f hm (of_decide_eq_false h38)
    refine c_skip <| d_normal_block <| d_then <| c_region <| g_v rfl r_move <| g_v rfl (r_add rfl rfl rfl) <| g_v rfl r_assign <| g_nil ?_
    obtain ⟨n39, hn39, hlp⟩ := nx_inl hm hnx2
    exact d_round (n39, w64 (i24 + 1)) hlp hn39 ⟨rfl, rfl, rfl, trivial⟩ (fun W h => h.phi (fun W hφ => hφ))
  ·
   replace hm := ite_f hm (of_decide_eq_false h33)
   refine c_exit <| d_exit_then <| d_exit_then <| d_exit_block ?_
   replace hm := nx_out (C := (fun e : Unit ⊕ Bool => Sum.elim (fun e => m_ref12_in_j1) (fun x => some x) e = some r)) hm hnx2 hr2
   exact d_round () hm Nat.zero_lt_one trivial (fun W h => h.phi (fun W hφ => hφ))
 ·
  unfold m_ref12_in_j1 at hm
  refine d_flat [] trivial (fun u => ?_)
  refine d_sta ⟨w0, M, H, R, φ⟩ (fun _ h => h) <| d_then <| c_seq <| c_region <| g_v rfl r_assign <| g_nil <| d_then <| c_ret ?_
  replace hm := Option.some.inj hm
  subst hm
  refine d_retC () Try.results36 ?_ trivial (fun W h => ok_pre (H1 := []) (R1 := []) h (fun W hφ => hφ)) (.inr rfl)
  refine res_tmp <| res_nil ?_
  exact rfl
noncomputable def m_ref12_Majority_j1 (p0 : List Int) (i24 : Int) : Option Bool :=
  some (decide ((p0.length : Int) < w64 (2 * i24)))
noncomputable def m_ref12_Majority_s2 (p0 : List Int) (p1 : List Int) (i35 : Int) (i36 : Int) : Option ((Int × Int) ⊕ Int) :=
  if i36 < (p0.length : Int) then
    (at_ p0 i36).bind fun x49 =>
    (m_ref12_in p1 x49).bind fun x53 =>
    if x53 = true then
      some (.inl (w64 (i35 + 1), w64 (i36 + 1)))
    else
      some (.inl (i35, w64 (i36 + 1)))
  else
    some (.inr i35)
noncomputable def m_ref12_Majority (p0 : List Int) (p1 : List Int) : Option Bool :=
  (loop (fun s => m_ref12_Majority_s2 p0 p1 s.1 s.2) (0, 0)).bind fun e => m_ref12_Majority_j1 p0 e
theorem c_ref12_Majority {w0 : World} {M : Nat → Prop} {H : List (Nat × Nat × Obj)} {R : List (Nat × Row)} {φ : World → Prop} (p0 : List Int) (Ap0_0 : Option Addr) (cp0_0 : Nat) (hcp0_0 : p0.length ≤ cp0_0) (fp0_0 : ∀ W, (Sta.mk w0 M H R φ).ok W → Cl W Ap0_0 (p0.flatMap (fun x : Int => [Value.int .i64 x]))) (p1 : List Int) (Ap1_0 : Option Addr) (cp1_0 : Nat) (hcp1_0 : p1.length ≤ cp1_0) (fp1_0 : ∀ W, (Sta.mk w0 M H R φ).ok W → Cl W Ap1_0 (p1.flatMap (fun x : Int => [Value.int .i64 x]))) (r : Bool) (hm : m_ref12_Majority p0 p1 = some r) :
    Cn Try.prog 14 #[.slice Ap0_0 p0.length cp0_0, .slice Ap1_0 p1.length cp1_0] ⟨w0, M, H, R, φ⟩ (fun x : Unit => .bool r) (fun x => True) (fun x => ⟨w0, M, H, R, φ⟩) := by
 unfold m_ref12_Majority at hm
 refine cn_intro (fn := Try.f14) (N := 28) Try.func14 rfl Try.ntmps14 rfl <| c_seq <| c_region <| g_v rfl r_assign <| g_nil <| d_then <| c_seq <| c_region <| g_v rfl r_assign <| g_nil ?_
 refine d_then <| c_seq <| c_seq <| c_region <| g_v rfl r_assign <| g_nil <| d_then ?_
 refine c_cut (ι := Int) [0, 5] (fun i24 => [(5, .int .i64 i24)]) (fun i24 => ⟨w0, M, H, R, φ⟩) (fun i24 => m_ref12_Majority_j1 p0 i24 = some r) ?_ (fun i24 u hm => ?_)
 ·
  refine c_block ?_
  replace hm := bnd hm
  obtain ⟨out2, hl2, hr2⟩ := hm
  obtain ⟨n47', hl2⟩ := loop_lp hl2
  refine c_loopU (ι := Nat × Int × Int) [0, 1, 5, 6] (fun ⟨n47, i35, i36⟩ => [(5, .int .i64 i35), (6, .int .i64 i36)]) (fun ⟨n47, i35, i36⟩ => ⟨w0, M, H, R, φ⟩) (fun ⟨n47, i35, i36⟩ => Lp (fun s => m_ref12_Majority_s2 p0 p1 s.1 s.2) n47 (i35, i36) out2) (fun ⟨n47, i35, i36⟩ => n47) (n47', 0, 0) hl2 ⟨rfl, rfl, rfl, rfl, trivial⟩ (fun W h => h.phi (fun W hφ => hφ)) (fun ⟨n47, i35, i36⟩ u hlp => ?_)
  obtain ⟨o2, hm, hnx2⟩ := lp_step hlp
  clear hlp
  replace hm : m_ref12_Majority_s2 p0 p1 i35 i36 = some o2 := hm
  unfold m_ref12_Majority_s2 at hm
  refine c_flat [(0, .slice Ap0_0 p0.length cp0_0), (1, .slice Ap1_0 p1.length cp1_0), (5, .int .i64 i35), (6, .int .i64 i36)] ⟨rfl, rfl, rfl, rfl, trivial⟩ (fun u => ?_)
  refine c_sta ⟨w0, M, H, R, φ⟩ (fun _ h => h) <| c_seq <| c_seq <| c_region <| g_v rfl r_move <| g_v rfl r_move <| g_v rfl (r_lenL Try.underlying23 rfl) <| g_v rfl (r_lss rfl rfl) <| g_nil <| d_then ?_
  refine c_cond rfl (fun h48 => ?_) (fun h48 => ?_)
  ·
   replace hm := ite_t hm (of_decide_eq_true h48)
   refine c_skip <| d_then <| c_seq <| c_block <| c_seq <| c_region <| g_v rfl r_move <| g_v rfl r_move <| g_v rfl r_move ?_
   replace hm := bnd hm
   obtain ⟨x49, hx49, hm⟩ := hm
   refine g_know _ (fun W hS => cl_at (p := (Sta.mk w0 M H R φ).ok) (sz := 1) (fun _ => rfl) (by decide) (ok_pre (H1 := []) (R1 := []) hS (fun W h => h)) fp0_0 hx49) ?_
   rintro ⟨ad50, hA52, f51⟩
   refine g_v rfl (r_ix Try.underlying23 Try.sizeOf3 rfl hA52 rfl hx49) <| g_v rfl (r_ld rfl Try.isAgg3 (fun W hS => Cl.head (f51 W (ok_pre (H1 := []) (R1 := []) hS (fun W h => h))))) ?_
   replace hm := bnd hm
   obtain ⟨x53, hx54, hm⟩ := hm
   refine g_cn ⟨w0, M, _, _, φ⟩ (fun _ h => h) Try.call36 rfl rfl (c_ref12_in p1 Ap1_0 cp1_0 hcp1_0 (fun W hS => fp1_0 W (ok_pre (H1 := []) (R1 := []) hS (fun W h => h))) x49 _ hx54) (fun _ _ => ?_)
   refine g_v rfl r_assign <| g_nil <| d_then ?_
   refine c_flat [(0, .slice Ap0_0 p0.length cp0_0), (1, .slice Ap1_0 p1.length cp1_0), (5, .int .i64 i35), (6, .int .i64 i36), (7, .bool x53)] ⟨rfl, rfl, rfl, rfl, rfl, trivial⟩ (fun u => ?_)
   refine c_seq <| c_region <| g_v rfl r_move <| g_nil <| d_then ?_
   refine c_cond rfl (fun h55 => ?_) (fun h55 => ?_)
   ·
    replace hm := ite_t hm h55
    refine c_region <| g_v rfl r_move <| g_v rfl (r_add rfl rfl rfl) <| g_v rfl r_assign <| g_nil <| d_normal_block <| d_then <| c_region <| g_v rfl r_move <| g_v rfl (r_add rfl rfl rfl) ?_
    refine g_v rfl r_assign <| g_nil ?_
    obtain ⟨n56, hn56, hlp⟩ := nx_inl hm hnx2
    exact d_round (n56, w64 (i35 + 1), w64 (i36 + 1)) hlp hn56 ⟨rfl, rfl, rfl, rfl, trivial⟩ (fun W h => h.phi (fun W hφ => hφ))
   ·
    replace hm := ite_f hm (bool_nt h55)
    refine c_skip <| d_normal_block <| d_then <| c_region <| g_v rfl r_move <| g_v rfl (r_add rfl rfl rfl) <| g_v rfl r_assign <| g_nil ?_
    obtain ⟨n57, hn57, hlp⟩ := nx_inl hm hnx2
    exact d_round (n57, i35, w64 (i36 + 1)) hlp hn57 ⟨rfl, rfl, rfl, rfl, trivial⟩ (fun W h => h.phi (fun W hφ => hφ))
  ·
   replace hm := ite_f hm (of_decide_eq_false h48)
   refine c_exit <| d_exit_then <| d_exit_then <| d_exit_block ?_
   replace hm := nx_out (C := (fun e : Int => m_ref12_Majority_j1 p0 e = some r)) hm hnx2 hr2
   exact d_round i35 hm Nat.zero_lt_one ⟨rfl, rfl, trivial⟩ (fun W h => h.phi (fun W hφ => hφ))
 ·
  unfold m_ref12_Majority_j1 at hm
  refine d_flat [(0, .slice Ap0_0 p0.length cp0_0), (5, .int .i64 i24)] ⟨rfl, rfl, trivial⟩ (fun u => ?_)
  refine d_sta ⟨w0, M, H, R, φ⟩ (fun _ h => h) <| d_then <| c_seq <| c_region <| g_v rfl r_move <| g_v rfl (r_mul rfl rfl rfl) <| g_v rfl r_move <| g_v rfl (r_lenL Try.underlying23 rfl) <| g_v rfl (r_gtr rfl rfl) <| g_v rfl r_assign ?_
  refine g_nil <| d_then <| c_ret ?_
  replace hm := Option.some.inj hm
  subst hm
  refine d_retC () Try.results14 ?_ trivial (fun W h => ok_pre (H1 := []) (R1 := []) h (fun W hφ => hφ)) (.inr rfl)
  refine res_tmp <| res_nil ?_
  exact rfl
noncomputable def m_law12_RaftNotes_j2 (x2 : Bool) (x4 : GNote) (l16 : List Int) (l24 : List Int) : Option Bool :=
  if x2 = true then
    (m_raft_Check x4).bind fun x50 =>
    (m_ref12_Check x4).bind fun x52 =>
    if x50 = x52 then
      (m_raft_Majority l16 l24).bind fun x55 =>
      (m_ref12_Majority l16 l24).bind fun x57 =>
      some (x55 == x57)
    else
      some false
  else
    some false
noncomputable def m_law12_RaftNotes_j1 (p2 : List Int) (x2 : Bool) (x4 : GNote) (l16 : List Int) : Option Bool :=
  if 20 < (p2.length : Int) then
    (cutHi p2 20).bind fun l61 =>
    m_law12_RaftNotes_j2 x2 x4 l16 l61
  else
    m_law12_RaftNotes_j2 x2 x4 l16 p2
noncomputable def m_law12_RaftNotes (p0 : GNote) (p1 : List Int) (p2 : List Int) : Option Bool :=
  (m_law12_awake).bind fun x2 =>
  (m_law12_small p0).bind fun x4 =>
  if 20 < (p1.length : Int) then
    (cutHi p1 20).bind fun l64 =>
    m_law12_RaftNotes_j1 p2 x2 x4 l64
  else
    m_law12_RaftNotes_j1 p2 x2 x4 p1
theorem c_law12_RaftNotes {w0 : World} {M : Nat → Prop} {H : List (Nat × Nat × Obj)} {R : List (Nat × Row)} {φ : World → Prop} (p0 : GNote) (Ap0_0 : Option Addr) (cp0_0 : Nat) (hcp0_0 : p0.fEntries.length ≤ cp0_0) (fp0_0 : ∀ W, (Sta.mk w0 M H R φ).ok W → Cl W Ap0_0 (p0.fEntries.flatMap GEntry.enc)) (Ap0_1 : Option Addr) (cp0_1 : Nat) (hcp0_1 : p0.fVoters.length ≤ cp0_1) (fp0_1 : ∀ W, φ W → Cl W Ap0_1 (p0.fVoters.flatMap (fun x : Int => [Value.int .i64 x]))) (p1 : List Int) (Ap1_0 : Option Addr) (cp1_0 : Nat) (hcp1_0 : p1.length ≤ cp1_0) (fp1_0 : ∀ W, φ W → Cl W Ap1_0 (p1.flatMap (fun x : Int => [Value.int .i64 x]))) (p2 : List Int) (Ap2_0 : Option Addr) (cp2_0 : Nat) (hcp2_0 : p2.length ≤ cp2_0) (fp2_0 : ∀ W, φ W → Cl W Ap2_0 (p2.flatMap (fun x : Int => [Value.int .i64 x]))) (r : Bool) (hm : m_law12_RaftNotes p0 p1 p2 = some r) :
    Cn Try.prog 3 #[.agg #[.int .i64 p0.fKind, .int .i64 p0.fFrom, .int .i64 p0.fTo, .int .i64 p0.fTerm, .int .i64 p0.fIndex, .int .i64 p0.fLogTerm, .int .i64 p0.fCommit, .bool p0.fGood, .slice Ap0_0 p0.fEntries.length cp0_0, .slice Ap0_1 p0.fVoters.length cp0_1, .string p0.fSnap], .slice Ap1_0 p1.length cp1_0, .slice Ap2_0 p2.length cp2_0] ⟨w0, M, H, R, φ⟩ (fun x : Unit => .bool r) (fun x => True) (fun x => ⟨w0, M, H, R, φ⟩) := by
 unfold m_law12_RaftNotes at hm
 refine cn_intro (fn := Try.f3) (N := 38) Try.func3 rfl Try.ntmps3 rfl <| c_seq <| c_region ?_
 refine g_e rfl (e_box 100030 rfl) (fun g1 _ => ?_)
 refine g_v rfl r_assign <| g_nil <| d_then <| c_seq <| c_region ?_
 replace hm := bnd hm
 obtain ⟨x2, hx3, hm⟩ := hm
 refine g_cn ⟨w0, M, _, _, φ⟩ (fun _ h => h) Try.call9 rfl rfl (c_law12_awake  _ hx3) (fun _ _ => ?_)
 refine g_v rfl r_assign <| g_nil <| d_then <| c_seq <| c_region <| g_v rfl (r_loadA (tag := 100030) rfl rfl Try.isAgg25 Try.sizeOf25 rfl rfl) ?_
 replace hm := bnd hm
 obtain ⟨x4, hx5, hm⟩ := hm
 refine g_cn ⟨w0, M, _, _, φ⟩ (fun _ h => h) Try.call10 rfl rfl (c_law12_small p0 Ap0_0 cp0_0 hcp0_0 (fun W hS => fp0_0 W (ok_pre (H1 := [_]) (R1 := []) hS (fun W h => h))) Ap0_1 cp0_1 hcp0_1 (fun W h => fp0_1 W h) _ hx5) (fun ⟨A6, c7, A9, c10⟩ ⟨hc7, hc10⟩ => ?_)
 refine g_abs (fun φ12 q12' => ?_)
 have q12 : ∀ W, φ12 W → φ W := fun W h => (q12' W h).1
 have f8 := fun (W : World) (h : φ12 W) => (q12' W h).2.1
 have f11 := fun (W : World) (h : φ12 W) => (q12' W h).2.2
 refine g_storeL (tag := 100030) rfl rfl rfl rfl Try.sizeOf25 rfl rfl <| g_nil <| d_then <| c_seq ?_
 refine c_cut (ι := (List Int) × Option Addr × Nat) [1, 2, 3, 7] (fun ⟨l16, A17, c18⟩ => [(1, .slice A17 l16.length c18)]) (fun ⟨l16, A17, c18⟩ => ⟨w0, M, (100030, g1, .cells #[.int .i64 x4.fKind, .int .i64 x4.fFrom, .int .i64 x4.fTo, .int .i64 x4.fTerm, .int .i64 x4.fIndex, .int .i64 x4.fLogTerm, .int .i64 x4.fCommit, .bool x4.fGood, .slice A6 x4.fEntries.length c7, .slice A9 x4.fVoters.length c10, .string x4.fSnap] 25 (0, 0)) :: H, R, fun W => φ12 W ∧ Cl W A17 (l16.flatMap (fun x : Int => [Value.int .i64 x]))⟩) (fun ⟨l16, A17, c18⟩ => m_law12_RaftNotes_j1 p2 x2 x4 l16 = some r ∧ l16.length ≤ c18) ?_ (fun ⟨l16, A17, c18⟩ u ⟨hm, hc18⟩ => ?_)
 ·
  refine c_seq <| c_region <| g_v rfl r_move <| g_v rfl (r_lenL Try.underlying23 rfl) <| g_v rfl (r_gtr rfl rfl) <| g_nil <| d_then ?_
  refine c_flat [(1, .slice Ap1_0 p1.length cp1_0), (2, .slice Ap2_0 p2.length cp2_0), (3, .pointer (some ⟨g1, 0, none⟩)), (7, .bool x2), (13, .bool (decide (20 < (p1.length : Int))))] ⟨rfl, rfl, rfl, rfl, rfl, trivial⟩ (fun u => ?_)
  refine c_sta ⟨w0, M, (100030, g1, .cells #[.int .i64 x4.fKind, .int .i64 x4.fFrom, .int .i64 x4.fTo, .int .i64 x4.fTerm, .int .i64 x4.fIndex, .int .i64 x4.fLogTerm, .int .i64 x4.fCommit, .bool x4.fGood, .slice A6 x4.fEntries.length c7, .slice A9 x4.fVoters.length c10, .string x4.fSnap] 25 (0, 0)) :: H, R, φ12⟩ (fun _ h => h) ?_
  refine c_cond rfl (fun h62 => ?_) (fun h62 => ?_)
  ·
   replace hm := ite_t hm (of_decide_eq_true h62)
   refine c_region <| g_v rfl r_move ?_
   replace hm := bnd hm
   obtain ⟨l64, hl64, hm⟩ := hm
   have f63 := fun (W : World) (h : φ W) => cl_cutHi (enc := (fun x : Int => [Value.int .i64 x])) (sz := 1) (fun _ => rfl) hl64 (fp1_0 W h)
   refine g_v rfl (r_lcutHi Try.underlying23 Try.sizeOf3 rfl hcp1_0 rfl hl64) <| g_v rfl r_assign <| g_nil ?_
   exact d_round (l64, Ap1_0, cp1_0) ⟨hm, (cutHi_len hcp1_0 hl64)⟩ Nat.zero_lt_one ⟨rfl, rfl, rfl, rfl, trivial⟩ (fun W h => h.phi (fun W hφ => ⟨hφ, (fun W h => f63 W (q12 _ h)) W hφ⟩))
  ·
   replace hm := ite_f hm (of_decide_eq_false h62)
   refine c_skip ?_
   exact d_round (p1, Ap1_0, cp1_0) ⟨hm, hcp1_0⟩ Nat.zero_lt_one ⟨rfl, rfl, rfl, rfl, trivial⟩ (fun W h => h.phi (fun W hφ => ⟨hφ, (fun W h => fp1_0 W (q12 _ h)) W hφ⟩))
 ·
  unfold m_law12_RaftNotes_j1 at hm
  refine d_abs (fun φ20 q20' => ?_)
  have q20 : ∀ W, φ20 W → φ12 W := fun W h => (q20' W h).1
  have f19 := fun (W : World) (h : φ20 W) => (q20' W h).2
  refine d_flat [(1, .slice A17 l16.length c18), (2, .slice Ap2_0 p2.length cp2_0), (3, .pointer (some ⟨g1, 0, none⟩)), (7, .bool x2)] ⟨rfl, rfl, rfl, rfl, trivial⟩ (fun u => ?_)
  refine d_sta ⟨w0, M, (100030, g1, .cells #[.int .i64 x4.fKind, .int .i64 x4.fFrom, .int .i64 x4.fTo, .int .i64 x4.fTerm, .int .i64 x4.fIndex, .int .i64 x4.fLogTerm, .int .i64 x4.fCommit, .bool x4.fGood, .slice A6 x4.fEntries.length c7, .slice A9 x4.fVoters.length c10, .string x4.fSnap] 25 (0, 0)) :: H, R, φ20⟩ (fun _ h => h) <| d_then <| c_seq ?_
  refine c_cut (ι := (List Int) × Option Addr × Nat) [1, 2, 3, 7] (fun ⟨l24, A25, c26⟩ => [(2, .slice A25 l24.length c26)]) (fun ⟨l24, A25, c26⟩ => ⟨w0, M, (100030, g1, .cells #[.int .i64 x4.fKind, .int .i64 x4.fFrom, .int .i64 x4.fTo, .int .i64 x4.fTerm, .int .i64 x4.fIndex, .int .i64 x4.fLogTerm, .int .i64 x4.fCommit, .bool x4.fGood, .slice A6 x4.fEntries.length c7, .slice A9 x4.fVoters.length c10, .string x4.fSnap] 25 (0, 0)) :: H, R, fun W => φ20 W ∧ Cl W A25 (l24.flatMap (fun x : Int => [Value.int .i64 x]))⟩) (fun ⟨l24, A25, c26⟩ => m_law12_RaftNotes_j2 x2 x4 l16 l24 = some r ∧ l24.length ≤ c26) ?_ (fun ⟨l24, A25, c26⟩ u ⟨hm, hc26⟩ => ?_)
  ·
   refine c_seq <| c_region <| g_v rfl r_move <| g_v rfl (r_lenL Try.underlying23 rfl) <| g_v rfl (r_gtr rfl rfl) <| g_nil <| d_then ?_
   refine c_cond rfl (fun h59 => ?_) (fun h59 => ?_)
   ·
    replace hm := ite_t hm (of_decide_eq_true h59)
    refine c_region <| g_v rfl r_move ?_
    replace hm := bnd hm
    obtain ⟨l61, hl61, hm⟩ := hm
    have f60 := fun (W : World) (h : φ W) => cl_cutHi (enc := (fun x : Int => [Value.int .i64 x])) (sz := 1) (fun _ => rfl) hl61 (fp2_0 W h)
    refine g_v rfl (r_lcutHi Try.underlying23 Try.sizeOf3 rfl hcp2_0 rfl hl61) <| g_v rfl r_assign <| g_nil ?_
    exact d_round (l61, Ap2_0, cp2_0) ⟨hm, (cutHi_len hcp2_0 hl61)⟩ Nat.zero_lt_one ⟨rfl, rfl, rfl, rfl, trivial⟩ (fun W h => h.phi (fun W hφ => ⟨hφ, (fun W h => f60 W (q12 _ (q20 _ h))) W hφ⟩))
   ·
    replace hm := ite_f hm (of_decide_eq_false h59)
    refine c_skip ?_
    exact d_round (p2, Ap2_0, cp2_0) ⟨hm, hcp2_0⟩ Nat.zero_lt_one ⟨rfl, rfl, rfl, rfl, trivial⟩ (fun W h => h.phi (fun W hφ => ⟨hφ, (fun W h => fp2_0 W (q12 _ (q20 _ h))) W hφ⟩))
  ·
   unfold m_law12_RaftNotes_j2 at hm
   refine d_abs (fun φ28 q28' => ?_)
   have q28 : ∀ W, φ28 W → φ20 W := fun W h => (q28' W h).1
   have f27 := fun (W : World) (h : φ28 W) => (q28' W h).2
   refine d_flat [(1, .slice A17 l16.length c18), (2, .slice A25 l24.length c26), (3, .pointer (some ⟨g1, 0, none⟩)), (7, .bool x2)] ⟨rfl, rfl, rfl, rfl, trivial⟩ (fun u => ?_)
   refine d_sta ⟨w0, M, (100030, g1, .cells #[.int .i64 x4.fKind, .int .i64 x4.fFrom, .int .i64 x4.fTo, .int .i64 x4.fTerm, .int .i64 x4.fIndex, .int .i64 x4.fLogTerm, .int .i64 x4.fCommit, .bool x4.fGood, .slice A6 x4.fEntries.length c7, .slice A9 x4.fVoters.length c10, .string x4.fSnap] 25 (0, 0)) :: H, R, φ28⟩ (fun _ h => h) <| d_then <| c_seq <| ga_start (n := 18) ⟨w0, M, (100030, g1, .cells #[.int .i64 x4.fKind, .int .i64 x4.fFrom, .int .i64 x4.fTo, .int .i64 x4.fTerm, .int .i64 x4.fIndex, .int .i64 x4.fLogTerm, .int .i64 x4.fCommit, .bool x4.fGood, .slice A6 x4.fEntries.length c7, .slice A9 x4.fVoters.length c10, .string x4.fSnap] 25 (0, 0)) :: H, R, φ28⟩ [] #[false, false, false, false, false, false, false, false, false, false, false, false, false, false, false, false, false, false] (fun W h => h.phi (fun W hφ => hφ)) mixed rfl rfl <| ga_r (i := 0) (bz 18 1) rfl (by kernel_rfl) (by decide) rfl (r_move) <| ga_r (i := 1) (bz 18 3) rfl (by kernel_rfl) (by decide) rfl (r_move) ?_
   refine ga_if (t := 22) rfl (fun h49 => ?_) (fun h49 => ?_)
   ·
    replace hm := ite_t hm h49
    refine ga_do (i := 2) (bz 18 7) rfl (by kernel_rfl) (fun _ _ _ _ h => h) rfl rfl rfl rfl rfl h49 (r_loadA (tag := 100030) rfl rfl Try.isAgg25 Try.sizeOf25 rfl rfl) <| ga_do (i := 4) (bz 18 23) rfl (by kernel_rfl) (fun _ _ _ _ h => h) rfl rfl rfl rfl rfl h49 (r_loadA (tag := 100030) rfl rfl Try.isAgg25 Try.sizeOf25 rfl rfl) ?_
    replace hm := bnd hm
    obtain ⟨x50, hx51, hm⟩ := hm
    refine ga_cnG (first := #[]) (i := 3) (bz 18 31) rfl (by kernel_rfl) (by decide) rfl rfl rfl rfl h49  ⟨w0, M, _, _, φ28⟩ (fun _ h => h) Try.call11 rfl rfl rfl (c_raft_Check x4 A6 c7 hc7 (fun W hS => f8 W (q20 _ (q28 _ hS.now))) A9 c10 hc10 (fun W hS => f11 W (q20 _ (q28 _ hS.now))) _ hx51) (fun _ W _ h => h.phi (fun W hφ => hφ)) (fun _ _ => ?_)
    replace hm := bnd hm
    obtain ⟨x52, hx53, hm⟩ := hm
    refine ga_cnG (first := #[]) (i := 5) (bz 18 63) rfl (by kernel_rfl) (by decide) rfl rfl rfl rfl h49  ⟨w0, M, _, _, φ28⟩ (fun _ h => h) Try.call12 rfl rfl rfl (c_ref12_Check x4 A6 c7 hc7 (fun W hS => f8 W (q20 _ (q28 _ hS.now))) A9 c10 hc10 (fun W hS => f11 W (q20 _ (q28 _ hS.now))) _ hx53) (fun _ W _ h => h.phi (fun W hφ => hφ)) (fun _ _ => ?_)
    refine ga_rG (i := 6) (bz 18 127) rfl (by kernel_rfl) (by decide) rfl rfl rfl rfl rfl h49 (r_eql rfl rfl) <| ga_r (i := 7) (bz 18 255) rfl (by kernel_rfl) (by decide) rfl (r_pick1 rfl h49) <| ga_r (i := 8) (bz 18 511) rfl (by kernel_rfl) (by decide) rfl (r_move) ?_
    refine ga_if (t := 29) rfl (fun h54 => ?_) (fun h54 => ?_)
    ·
     replace hm := ite_t hm (of_decide_eq_true h54)
     refine ga_do (i := 9) (bz 18 1023) rfl (by kernel_rfl) (fun _ _ _ _ h => h) rfl rfl rfl rfl rfl h54 (r_move) <| ga_do (i := 10) (bz 18 2047) rfl (by kernel_rfl) (fun _ _ _ _ h => h) rfl rfl rfl rfl rfl h54 (r_move) <| ga_do (i := 12) (bz 18 6143) rfl (by kernel_rfl) (fun _ _ _ _ h => h) rfl rfl rfl rfl rfl h54 (r_move) <| ga_do (i := 13) (bz 18 14335) rfl (by kernel_rfl) (fun _ _ _ _ h => h) rfl rfl rfl rfl rfl h54 (r_move) ?_
     replace hm := bnd hm
     obtain ⟨x55, hx56, hm⟩ := hm
     refine ga_cnG (first := #[]) (i := 11) (bz 18 16383) rfl (by kernel_rfl) (by decide) rfl rfl rfl rfl h54  ⟨w0, M, _, _, φ28⟩ (fun _ h => h) Try.call13 rfl rfl rfl (c_raft_Majority l16 A17 c18 hc18 (fun W hS => f19 W (q28 _ hS.now)) l24 A25 c26 hc26 (fun W hS => f27 W hS.now) _ hx56) (fun _ W _ h => h.phi (fun W hφ => hφ)) (fun _ _ => ?_)
     replace hm := bnd hm
     obtain ⟨x57, hx58, hm⟩ := hm
     refine ga_cnG (first := #[]) (i := 14) (bz 18 32767) rfl (by kernel_rfl) (by decide) rfl rfl rfl rfl h54  ⟨w0, M, _, _, φ28⟩ (fun _ h => h) Try.call14 rfl rfl rfl (c_ref12_Majority l16 A17 c18 hc18 (fun W hS => f19 W (q28 _ hS.now)) l24 A25 c26 hc26 (fun W hS => f27 W hS.now) _ hx58) (fun _ W _ h => h.phi (fun W hφ => hφ)) (fun _ _ => ?_)
     refine ga_rG (i := 15) (bz 18 65535) rfl (by kernel_rfl) (by decide) rfl rfl rfl rfl rfl h54 (r_eqlBo Try.underlying4 rfl rfl) <| ga_r (i := 16) (bz 18 131071) rfl (by kernel_rfl) (by decide) rfl (r_pick1 rfl h54) <| ga_r (i := 17) (bz 18 262143) rfl (by kernel_rfl) (by decide) rfl (r_assign) <| ga_done (by kernel_rfl) <| d_then ?_
     refine c_flat [(6, .bool (x55 == x57))] ⟨rfl, trivial⟩ (fun u => ?_)
     refine c_ret ?_
     replace hm := Option.some.inj hm
     subst hm
     refine d_retC () Try.results3 ?_ trivial (fun W h => ok_pre (H1 := [_]) (R1 := []) h (fun W hφ => (q12 _ (q20 _ (q28 _ hφ))))) (.inr rfl)
     refine res_tmp <| res_nil ?_
     exact rfl
    ·
     replace hm := ite_f hm (of_decide_eq_false h54)
     refine ga_no (i := 9) (bz 18 1023) rfl (by kernel_rfl) (fun _ _ _ _ h => h) rfl rfl rfl rfl rfl h54 <| ga_no (i := 10) (bz 18 2047) rfl (by kernel_rfl) (fun _ _ _ _ h => h) rfl rfl rfl rfl rfl h54 <| ga_no (i := 11) (bz 18 4095) rfl (by kernel_rfl) (fun _ _ _ _ h => h) rfl rfl rfl rfl rfl h54 <| ga_no (i := 12) (bz 18 8191) rfl (by kernel_rfl) (fun _ _ _ _ h => h) rfl rfl rfl rfl rfl h54 <| ga_no (i := 13) (bz 18 16383) rfl (by kernel_rfl) (fun _ _ _ _ h => h) rfl rfl rfl rfl rfl h54 <| ga_no (i := 14) (bz 18 32767) rfl (by kernel_rfl) (fun _ _ _ _ h => h) rfl rfl rfl rfl rfl h54 <| ga_no (i := 15) (bz 18 65535) rfl (by kernel_rfl) (fun _ _ _ _ h => h) rfl rfl rfl rfl rfl h54 <| ga_r (i := 16) (bz 18 131071) rfl (by kernel_rfl) (by decide) rfl (r_pick0 rfl h54) <| ga_r (i := 17) (bz 18 262143) rfl (by kernel_rfl) (by decide) rfl (r_assign) <| ga_done (by kernel_rfl) ?_
     refine d_then ?_
     refine c_flat [(6, .bool false)] ⟨rfl, trivial⟩ (fun u => ?_)
     refine c_ret ?_
     replace hm := Option.some.inj hm
     subst hm
     refine d_retC () Try.results3 ?_ trivial (fun W h => ok_pre (H1 := [_]) (R1 := []) h (fun W hφ => (q12 _ (q20 _ (q28 _ hφ))))) (.inr rfl)
     refine res_tmp <| res_nil ?_
     exact rfl
   ·
    replace hm := ite_f hm (bool_nt h49)
    refine ga_no (i := 2) (bz 18 7) rfl (by kernel_rfl) (fun _ _ _ _ h => h) rfl rfl rfl rfl rfl h49 <| ga_no (i := 3) (bz 18 15) rfl (by kernel_rfl) (fun _ _ _ _ h => h) rfl rfl rfl rfl rfl h49 <| ga_no (i := 4) (bz 18 31) rfl (by kernel_rfl) (fun _ _ _ _ h => h) rfl rfl rfl rfl rfl h49 <| ga_no (i := 5) (bz 18 63) rfl (by kernel_rfl) (fun _ _ _ _ h => h) rfl rfl rfl rfl rfl h49 <| ga_no (i := 6) (bz 18 127) rfl (by kernel_rfl) (fun _ _ _ _ h => h) rfl rfl rfl rfl rfl h49 <| ga_r (i := 7) (bz 18 255) rfl (by kernel_rfl) (by decide) rfl (r_pick0 rfl h49) <| ga_r (i := 8) (bz 18 511) rfl (by kernel_rfl) (by decide) rfl (r_move) <| ga_no (i := 9) (bz 18 1023) rfl (by kernel_rfl) (fun _ _ _ _ h => h) rfl rfl rfl rfl rfl rfl <| ga_no (i := 10) (bz 18 2047) rfl (by kernel_rfl) (fun _ _ _ _ h => h) rfl rfl rfl rfl rfl rfl <| ga_no (i := 11) (bz 18 4095) rfl (by kernel_rfl) (fun _ _ _ _ h => h) rfl rfl rfl rfl rfl rfl ?_
    refine ga_no (i := 12) (bz 18 8191) rfl (by kernel_rfl) (fun _ _ _ _ h => h) rfl rfl rfl rfl rfl rfl <| ga_no (i := 13) (bz 18 16383) rfl (by kernel_rfl) (fun _ _ _ _ h => h) rfl rfl rfl rfl rfl rfl <| ga_no (i := 14) (bz 18 32767) rfl (by kernel_rfl) (fun _ _ _ _ h => h) rfl rfl rfl rfl rfl rfl <| ga_no (i := 15) (bz 18 65535) rfl (by kernel_rfl) (fun _ _ _ _ h => h) rfl rfl rfl rfl rfl rfl <| ga_r (i := 16) (bz 18 131071) rfl (by kernel_rfl) (by decide) rfl (r_pick0 rfl rfl) <| ga_r (i := 17) (bz 18 262143) rfl (by kernel_rfl) (by decide) rfl (r_assign) <| ga_done (by kernel_rfl) <| d_then <| c_ret ?_
    replace hm := Option.some.inj hm
    subst hm
    refine d_retC () Try.results3 ?_ trivial (fun W h => ok_pre (H1 := [_]) (R1 := []) h (fun W hφ => (q12 _ (q20 _ (q28 _ hφ))))) (.inr rfl)
    refine res_tmp <| res_nil ?_
    exact rfl
end Go.Proofs.Ytoglbdaagfoddaa
