import Derived.Test.YtdcfemndfnfedaaWNHA
set_option maxRecDepth 100000
set_option maxHeartbeats 4000000
set_option linter.unusedVariables false
set_option linter.unusedSimpArgs false
namespace Go.Proofs.Ytdcfemndfnfedaa
open Go.RowKit Go.Proofs.YtdcfemndfnfedaaW.PrintLast
noncomputable def m_ref03_row_j1 (p0 : ByteArray) (l82 : List ByteArray) (i85 : Int) : Option ((List ByteArray) × Bool) :=
  some (l82, decide (i85 = w64 ((p0.size : Int) - 1)))
noncomputable def m_ref03_row_s2 (p0 : ByteArray) (l101 : List ByteArray) (i104 : Int) : Option (((List ByteArray) × Int) ⊕ (((List ByteArray) × Int) ⊕ ((List ByteArray) × Bool))) :=
  if i104 < (p0.size : Int) then
    (sat_ p0 i104).bind fun b122 =>
    if b122 ≠ 0 then
      (sat_ p0 i104).bind fun b124 =>
      if 63 < w64 b124 then
        some (.inr (.inr (([] : List ByteArray), false)))
      else
        if (p0.size : Int) < w64 ((w64 (i104 + 1)) + (w64 b124)) then
          some (.inr (.inr (([] : List ByteArray), false)))
        else
          (scutMid p0 (w64 (i104 + 1)) (w64 ((w64 (i104 + 1)) + (w64 b124)))).bind fun s127 =>
          (app 16 l101 [s127]).bind fun l129 =>
          some (.inl (l129, w64 ((w64 (i104 + 1)) + (w64 b124))))
    else
      some (.inr (.inl (l101, i104)))
  else
    some (.inr (.inl (l101, i104)))
noncomputable def m_ref03_row (p0 : ByteArray) : Option ((List ByteArray) × Bool) :=
  (loop (fun s => m_ref03_row_s2 p0 s.1 s.2) (([] : List ByteArray), 0)).bind fun e => Sum.elim (fun e => m_ref03_row_j1 p0 e.1 e.2) (fun x => some x) e
theorem c_ref03_row {w0 : World} {M : Nat → Prop} {H : List (Nat × Nat × Obj)} {R : List (Nat × Row)} {φ : World → Prop} (p0 : ByteArray) (r : (List ByteArray) × Bool) (hm : m_ref03_row p0 = some r) :
    Cn Try.prog 67 #[.string p0] ⟨w0, M, H, R, φ⟩ (fun x : Option Addr × Nat => .tuple #[.slice x.1 r.1.length x.2, .bool r.2]) (fun x => r.1.length ≤ x.2) (fun x => ⟨w0, M, H, (2000, ⟨.slice x.1 r.1.length x.2, 9, 1, r.1.length, r.1.flatMap (fun x : ByteArray => [Value.string x])⟩) :: R, φ⟩) := by
 unfold m_ref03_row at hm
 refine cn_intro (fn := Try.f67) (N := 53) Try.func67 rfl Try.ntmps67 rfl ?_
 refine c_seq ?_
 refine c_region ?_
 refine g_v rfl r_assign ?_
 refine g_v rfl r_assign ?_
 refine g_nil ?_
 refine d_then ?_
 refine c_seq ?_
 refine c_region ?_
 refine g_v rfl r_assign ?_
 refine g_nil ?_
 refine d_then ?_
 refine c_seq ?_
 refine c_region ?_
 refine g_v rfl r_assign ?_
 refine g_nil ?_
 refine d_then ?_
 refine c_seq ?_
 refine c_sta _ (fun W h => nilR h 19 9 1) ?_
 refine c_cut (ι := (List ByteArray) × Int × Option Addr × Nat) [0, 4, 5] (fun ⟨l82, i85, A83, c84⟩ => [(4, .slice A83 l82.length c84), (5, .int .i64 i85)]) (fun ⟨l82, i85, A83, c84⟩ => ⟨w0, M, H, (19, ⟨.slice A83 l82.length c84, 9, 1, l82.length, l82.flatMap (fun x : ByteArray => [Value.string x])⟩) :: R, φ⟩) (fun ⟨l82, i85, A83, c84⟩ => m_ref03_row_j1 p0 l82 i85 = some r ∧ l82.length ≤ c84) ?_ (fun ⟨l82, i85, A83, c84⟩ u ⟨hm, hc84⟩ => ?_)
 ·
  refine c_block ?_
  replace hm := bnd hm
  obtain ⟨out2, hl2, hr2⟩ := hm
  obtain ⟨n120', hl2⟩ := loop_lp hl2
  refine c_loopU (ι := Nat × (List ByteArray) × Int × Option Addr × Nat) [0, 4, 5] (fun ⟨n120, l101, i104, A102, c103⟩ => [(4, .slice A102 l101.length c103), (5, .int .i64 i104)]) (fun ⟨n120, l101, i104, A102, c103⟩ => ⟨w0, M, H, (19, ⟨.slice A102 l101.length c103, 9, 1, l101.length, l101.flatMap (fun x : ByteArray => [Value.string x])⟩) :: R, φ⟩) (fun ⟨n120, l101, i104, A102, c103⟩ => Lp (fun s => m_ref03_row_s2 p0 s.1 s.2) n120 (l101, i104) out2 ∧ l101.length ≤ c103) (fun ⟨n120, l101, i104, A102, c103⟩ => n120) (n120', ([] : List ByteArray), 0, none, 0) ⟨hl2, (Nat.le_refl 0)⟩ ⟨rfl, rfl, rfl, trivial⟩ (fun W h => h.phi (fun W hφ => hφ)) (fun ⟨n120, l101, i104, A102, c103⟩ u ⟨hlp, hc103⟩ => ?_)
  obtain ⟨o2, hm, hnx2⟩ := lp_step hlp
  clear hlp
  replace hm : m_ref03_row_s2 p0 l101 i104 = some o2 := hm
  unfold m_ref03_row_s2 at hm
  refine c_flat [(0, .string p0), (4, .slice A102 l101.length c103), (5, .int .i64 i104)] ⟨rfl, rfl, rfl, trivial⟩ (fun u => ?_)
  refine c_sta ⟨w0, M, H, (19, ⟨.slice A102 l101.length c103, 9, 1, l101.length, l101.flatMap (fun x : ByteArray => [Value.string x])⟩) :: R, φ⟩ (fun _ h => h) ?_
  refine c_seq ?_
  refine c_seq ?_
  refine c_region ?_
  refine g_v rfl r_move ?_
  refine g_v rfl r_move ?_
  refine g_v rfl (r_len Try.underlying9 rfl) ?_
  refine g_v rfl (r_lss rfl rfl) ?_
  refine g_v rfl r_move ?_
  refine g_if rfl rfl rfl rfl rfl (fun h121 => ?_) (fun h121 => ?_)
  ·
   replace hm := ite_t hm (of_decide_eq_true h121)
   refine g_v rfl r_move ?_
   refine g_do rfl rfl rfl rfl rfl h121 ?_
   refine g_v rfl r_move ?_
   refine g_do rfl rfl rfl rfl rfl h121 ?_
   replace hm := bnd hm
   obtain ⟨b122, hb122, hm⟩ := hm
   refine g_v rfl (r_sat Try.underlying9 rfl rfl hb122) ?_
   refine g_do rfl rfl rfl rfl rfl h121 ?_
   refine g_v rfl (r_neq rfl rfl) ?_
   refine g_v rfl (r_pick1 rfl h121) ?_
   refine g_nil ?_
   refine d_then ?_
   refine c_flat [(0, .string p0), (4, .slice A102 l101.length c103), (5, .int .i64 i104), (16, .bool (decide (b122 ≠ 0)))] ⟨rfl, rfl, rfl, rfl, trivial⟩ (fun u => ?_)
   refine c_sta ⟨w0, M, H, (19, ⟨.slice A102 l101.length c103, 9, 1, l101.length, l101.flatMap (fun x : ByteArray => [Value.string x])⟩) :: R, φ⟩ (fun _ h => h) ?_
   refine c_cond rfl (fun h123 => ?_) (fun h123 => ?_)
   ·
    replace hm := ite_t hm (of_decide_eq_true h123)
    refine c_skip ?_
    refine d_then ?_
    refine c_block ?_
    refine c_seq ?_
    refine c_region ?_
    refine g_v rfl r_move ?_
    refine g_v rfl r_move ?_
    replace hm := bnd hm
    obtain ⟨b124, hb124, hm⟩ := hm
    refine g_v rfl (r_sat Try.underlying9 rfl rfl hb124) ?_
    refine g_v rfl (r_conv Try.underlying5 Try.underlying3 rfl rfl) ?_
    refine g_v rfl r_assign ?_
    refine g_nil ?_
    refine d_then ?_
    refine c_seq ?_
    refine c_seq ?_
    refine c_region ?_
    refine g_v rfl r_move ?_
    refine g_v rfl (r_gtr rfl rfl) ?_
    refine g_v rfl r_move ?_
    refine g_if rfl rfl rfl rfl rfl (fun h125 => ?_) (fun h125 => ?_)
    ·
     replace hm := ite_f hm (of_decide_eq_false h125)
     refine g_v rfl r_move ?_
     refine g_do rfl rfl rfl rfl rfl h125 ?_
     refine g_v rfl (r_add rfl rfl rfl) ?_
     refine g_do rfl rfl rfl rfl rfl h125 ?_
     refine g_v rfl r_move ?_
     refine g_do rfl rfl rfl rfl rfl h125 ?_
     refine g_v rfl (r_add rfl rfl rfl) ?_
     refine g_do rfl rfl rfl rfl rfl h125 ?_
     refine g_v rfl r_move ?_
     refine g_do rfl rfl rfl rfl rfl h125 ?_
     refine g_v rfl (r_len Try.underlying9 rfl) ?_
     refine g_do rfl rfl rfl rfl rfl h125 ?_
     refine g_v rfl (r_gtr rfl rfl) ?_
     refine g_v rfl (r_pick0 rfl h125) ?_
     refine g_nil ?_
     refine d_then ?_
     refine c_flat [(0, .string p0), (4, .slice A102 l101.length c103), (5, .int .i64 i104), (6, .int .i64 (w64 b124)), (31, .bool (decide ((p0.size : Int) < w64 ((w64 (i104 + 1)) + (w64 b124)))))] ⟨rfl, rfl, rfl, rfl, rfl, trivial⟩ (fun u => ?_)
     refine c_sta ⟨w0, M, H, (19, ⟨.slice A102 l101.length c103, 9, 1, l101.length, l101.flatMap (fun x : ByteArray => [Value.string x])⟩) :: R, φ⟩ (fun _ h => h) ?_
     refine c_cond rfl (fun h126 => ?_) (fun h126 => ?_)
     ·
      replace hm := ite_t hm (of_decide_eq_true h126)
      refine c_seq ?_
      refine c_region ?_
      refine g_v rfl r_assign ?_
      refine g_v rfl r_assign ?_
      refine g_nil ?_
      refine d_then ?_
      refine c_ret ?_
      refine d_ret_then ?_
      refine d_ret_block ?_
      refine d_ret_then ?_
      refine d_ret_block ?_
      refine d_ret_then ?_
      refine d_ret_then ?_
      replace hm := nx_out (C := (fun e => Sum.elim (fun e => m_ref03_row_j1 p0 e.1 e.2) (fun x => some x) e = some r)) hm hnx2 hr2
      replace hm : some (([] : List ByteArray), false) = some r := hm
      replace hm := Option.some.inj hm
      subst hm
      refine d_sta _ (fun W h => nilR h 28 9 1) ?_
      refine d_sta _ (fun W h => ok_frontR (t := 28) (t' := 2000) h rfl) ?_
      refine d_retC (none, 0) Try.results67 ?_ (Nat.le_refl 0) (fun W h => (h.dropR (t := 19) rfl).phi (fun W hφ => hφ)) (.inr rfl)
      refine res_tmp ?_
      refine res_tmp ?_
      refine res_nil ?_
      exact rfl
     ·
      replace hm := ite_f hm (of_decide_eq_false h126)
      refine c_skip ?_
      refine d_then ?_
      refine c_seq ?_
      refine c_region ?_
      refine g_v rfl r_move ?_
      refine g_v rfl r_move ?_
      refine g_v rfl r_move ?_
      refine g_v rfl (r_add rfl rfl rfl) ?_
      refine g_v rfl r_move ?_
      refine g_v rfl (r_add rfl rfl rfl) ?_
      refine g_v rfl r_move ?_
      refine g_v rfl (r_add rfl rfl rfl) ?_
      replace hm := bnd hm
      obtain ⟨s127, hs127, hm⟩ := hm
      refine g_v rfl (r_scutMid Try.underlying9 rfl rfl rfl hs127) ?_
      refine g_e rfl (e_lit (tag := 100410) (l := [s127]) (enc := (fun x : ByteArray => [Value.string x])) (sz := 1) rfl Try.underlying44 (lit9_3 _) rfl rfl (fun _ => rfl)) (fun g128 _ => ?_)
      replace hm := bnd hm
      obtain ⟨l129, hl129, hm⟩ := hm
      refine g_e rfl (e_appR (enc := (fun x : ByteArray => [Value.string x])) (l := l101) (l1 := [s127]) (l2 := l129) (tag := 19) Try.underlying44 inf9_4 rfl (by decide) (by decide) (fun _ => rfl) (fun _ => rfl) rfl hc103 rfl rfl (fun W hS => rowCl (tag := 100410) rfl W hS) hl129) (fun ⟨A130, c131⟩ hc131 => ?_)
      refine g_v rfl r_assign ?_
      refine g_nil ?_
      refine d_then ?_
      refine c_flat [(0, .string p0), (4, .slice A130 l129.length c131), (5, .int .i64 i104), (6, .int .i64 (w64 b124))] ⟨rfl, rfl, rfl, rfl, trivial⟩ (fun u => ?_)
      refine c_sta ⟨w0, M, H, (100410, ⟨.slice (some ⟨g128, 0, none⟩) [s127].length 1, 9, 1, [s127].length, [s127].flatMap (fun x : ByteArray => [Value.string x])⟩) :: (19, ⟨.slice A130 l129.length c131, 9, 1, l129.length, l129.flatMap (fun x : ByteArray => [Value.string x])⟩) :: R, φ⟩ (fun _ h => h) ?_
      refine c_region ?_
      refine g_v rfl r_move ?_
      refine g_v rfl (r_add rfl rfl rfl) ?_
      refine g_v rfl r_move ?_
      refine g_v rfl (r_add rfl rfl rfl) ?_
      refine g_v rfl r_assign ?_
      refine g_nil ?_
      refine d_normal_block ?_
      obtain ⟨n132, hn132, hlp⟩ := nx_inl hm hnx2
      exact d_round (n132, l129, w64 ((w64 (i104 + 1)) + (w64 b124)), A130, c131) ⟨hlp, hc131⟩ hn132 ⟨rfl, rfl, rfl, trivial⟩ (fun W h => (h.dropR (t := 100410) rfl).phi (fun W hφ => hφ))
    ·
     replace hm := ite_t hm (of_decide_eq_true h125)
     refine g_no rfl rfl rfl rfl rfl h125 ?_
     refine g_no rfl rfl rfl rfl rfl h125 ?_
     refine g_no rfl rfl rfl rfl rfl h125 ?_
     refine g_no rfl rfl rfl rfl rfl h125 ?_
     refine g_no rfl rfl rfl rfl rfl h125 ?_
     refine g_no rfl rfl rfl rfl rfl h125 ?_
     refine g_v rfl (r_pick1 rfl h125) ?_
     refine g_nil ?_
     refine d_then ?_
     refine c_flat [(0, .string p0), (4, .slice A102 l101.length c103), (5, .int .i64 i104), (6, .int .i64 (w64 b124)), (31, .bool true)] ⟨rfl, rfl, rfl, rfl, rfl, trivial⟩ (fun u => ?_)
     refine c_sta ⟨w0, M, H, (19, ⟨.slice A102 l101.length c103, 9, 1, l101.length, l101.flatMap (fun x : ByteArray => [Value.string x])⟩) :: R, φ⟩ (fun _ h => h) ?_
     refine c_cond1 rfl rfl ?_
     refine c_seq ?_
     refine c_region ?_
     refine g_v rfl r_assign ?_
     refine g_v rfl r_assign ?_
     refine g_nil ?_
     refine d_then ?_
     refine c_ret ?_
     refine d_ret_then ?_
     refine d_ret_block ?_
     refine d_ret_then ?_
     refine d_ret_block ?_
     refine d_ret_then ?_
     refine d_ret_then ?_
     replace hm := nx_out (C := (fun e => Sum.elim (fun e => m_ref03_row_j1 p0 e.1 e.2) (fun x => some x) e = some r)) hm hnx2 hr2
     replace hm : some (([] : List ByteArray), false) = some r := hm
     replace hm := Option.some.inj hm
     subst hm
     refine d_sta _ (fun W h => nilR h 29 9 1) ?_
     refine d_sta _ (fun W h => ok_frontR (t := 29) (t' := 2000) h rfl) ?_
     refine d_retC (none, 0) Try.results67 ?_ (Nat.le_refl 0) (fun W h => (h.dropR (t := 19) rfl).phi (fun W hφ => hφ)) (.inr rfl)
     refine res_tmp ?_
     refine res_tmp ?_
     refine res_nil ?_
     exact rfl
   ·
    replace hm := ite_f hm (of_decide_eq_false h123)
    refine c_exit ?_
    refine d_exit_then ?_
    refine d_exit_then ?_
    refine d_exit_block ?_
    replace hm := nx_out (C := (fun e => Sum.elim (fun e => m_ref03_row_j1 p0 e.1 e.2) (fun x => some x) e = some r)) hm hnx2 hr2
    exact d_round (l101, i104, A102, c103) ⟨hm, hc103⟩ Nat.zero_lt_one ⟨rfl, rfl, rfl, trivial⟩ (fun W h => h.phi (fun W hφ => hφ))
  ·
   replace hm := ite_f hm (of_decide_eq_false h121)
   refine g_no rfl rfl rfl rfl rfl h121 ?_
   refine g_no rfl rfl rfl rfl rfl h121 ?_
   refine g_no rfl rfl rfl rfl rfl h121 ?_
   refine g_v rfl (r_pick0 rfl h121) ?_
   refine g_nil ?_
   refine d_then ?_
   refine c_cond0 rfl rfl ?_
   refine c_exit ?_
   refine d_exit_then ?_
   refine d_exit_then ?_
   refine d_exit_block ?_
   replace hm := nx_out (C := (fun e => Sum.elim (fun e => m_ref03_row_j1 p0 e.1 e.2) (fun x => some x) e = some r)) hm hnx2 hr2
   exact d_round (l101, i104, A102, c103) ⟨hm, hc103⟩ Nat.zero_lt_one ⟨rfl, rfl, rfl, trivial⟩ (fun W h => h.phi (fun W hφ => hφ))
 ·
  unfold m_ref03_row_j1 at hm
  refine d_flat [(0, .string p0), (4, .slice A83 l82.length c84), (5, .int .i64 i85)] ⟨rfl, rfl, rfl, trivial⟩ (fun u => ?_)
  refine d_sta ⟨w0, M, H, (19, ⟨.slice A83 l82.length c84, 9, 1, l82.length, l82.flatMap (fun x : ByteArray => [Value.string x])⟩) :: R, φ⟩ (fun _ h => h) ?_
  refine d_then ?_
  refine c_seq ?_
  refine c_region ?_
  refine g_v rfl r_move ?_
  refine g_v rfl r_move ?_
  refine g_v rfl r_move ?_
  refine g_v rfl (r_len Try.underlying9 rfl) ?_
  refine g_v rfl (r_sub rfl rfl rfl) ?_
  refine g_v rfl (r_eql rfl rfl) ?_
  refine g_v rfl r_assign ?_
  refine g_v rfl r_assign ?_
  refine g_nil ?_
  refine d_then ?_
  refine c_ret ?_
  replace hm := Option.some.inj hm
  subst hm
  refine d_sta _ (fun W h => ok_frontR (t := 19) (t' := 2000) h rfl) ?_
  refine d_retC (A83, c84) Try.results67 ?_ hc84 (fun W h => h.phi (fun W hφ => hφ)) (.inr rfl)
  refine res_tmp ?_
  refine res_tmp ?_
  refine res_nil ?_
  exact rfl

noncomputable def m_ref03_Check (p0 : ByteArray) : Option Int :=
  (m_ref03_row p0).bind fun (z7 : (List ByteArray) × Bool) =>
  if z7.2 = true then
    if 255 < (p0.size : Int) then
      some 11
    else
      some 0
  else
    some 10
theorem c_ref03_Check {w0 : World} {M : Nat → Prop} {H : List (Nat × Nat × Obj)} {R : List (Nat × Row)} {φ : World → Prop} (p0 : ByteArray) (r : Int) (hm : m_ref03_Check p0 = some r) :
    Cn Try.prog 45 #[.string p0] ⟨w0, M, H, R, φ⟩ (fun x : Unit => .int .i64 r) (fun x => True) (fun x => ⟨w0, M, H, R, φ⟩) := by
 unfold m_ref03_Check at hm
 refine cn_intro (fn := Try.f45) (N := 15) Try.func45 rfl Try.ntmps45 rfl ?_
 refine c_seq ?_
 refine c_region ?_
 refine g_v rfl r_assign ?_
 refine g_nil ?_
 refine d_then ?_
 refine c_seq ?_
 refine c_region ?_
 refine g_v rfl r_move ?_
 replace hm := bnd hm
 obtain ⟨⟨x1, x2⟩, hx3, hm⟩ := hm
 refine g_cn ⟨w0, M, _, _, φ⟩ (fun _ h => h) Try.call67 rfl rfl (c_ref03_row p0 _ hx3) (fun ⟨A4, c5⟩ hc5 => ?_)
 refine g_sta _ (fun W h => (ok_frontR (t := 2000) (t' := 100070) h rfl)) ?_
 refine g_v rfl r_move ?_
 refine g_v rfl (r_extract rfl rfl) ?_
 refine g_v rfl (r_extract rfl rfl) ?_
 refine g_v rfl r_assign ?_
 refine g_v rfl r_assign ?_
 refine g_nil ?_
 refine d_then ?_
 refine c_seq ?_
 refine c_seq ?_
 refine c_region ?_
 refine g_v rfl r_move ?_
 refine g_v rfl (r_not rfl) ?_
 refine g_nil ?_
 refine d_then ?_
 refine c_flat [(0, .string p0), (11, .bool (!x2))] ⟨rfl, rfl, trivial⟩ (fun u => ?_)
 refine c_sta ⟨w0, M, H, (100070, ⟨.slice A4 x1.length c5, 9, 1, x1.length, x1.flatMap (fun x : ByteArray => [Value.string x])⟩) :: R, φ⟩ (fun _ h => h) ?_
 refine c_cond rfl (fun h8 => ?_) (fun h8 => ?_)
 ·
  have h8' : x2 = false := by revert h8; cases x2 <;> simp
  replace hm := ite_f hm (bool_nt h8')
  refine c_seq ?_
  refine c_region ?_
  refine g_v rfl r_assign ?_
  refine g_nil ?_
  refine d_then ?_
  refine c_ret ?_
  refine d_ret_then ?_
  replace hm := Option.some.inj hm
  subst hm
  refine d_retC () Try.results45 ?_ trivial (fun W h => ok_pre (H1 := []) (R1 := [_]) h (fun W hφ => hφ)) (.inr rfl)
  refine res_tmp ?_
  refine res_nil ?_
  exact rfl
 ·
  have h8' : x2 = true := by revert h8; cases x2 <;> simp
  replace hm := ite_t hm h8'
  refine c_skip ?_
  refine d_then ?_
  refine c_seq ?_
  refine c_seq ?_
  refine c_region ?_
  refine g_v rfl r_move ?_
  refine g_v rfl (r_len Try.underlying9 rfl) ?_
  refine g_v rfl (r_gtr rfl rfl) ?_
  refine g_nil ?_
  refine d_then ?_
  refine c_cond rfl (fun h9 => ?_) (fun h9 => ?_)
  ·
   replace hm := ite_t hm (of_decide_eq_true h9)
   refine c_seq ?_
   refine c_region ?_
   refine g_v rfl r_assign ?_
   refine g_nil ?_
   refine d_then ?_
   refine c_ret ?_
   refine d_ret_then ?_
   replace hm := Option.some.inj hm
   subst hm
   refine d_retC () Try.results45 ?_ trivial (fun W h => ok_pre (H1 := []) (R1 := [_]) h (fun W hφ => hφ)) (.inr rfl)
   refine res_tmp ?_
   refine res_nil ?_
   exact rfl
  ·
   replace hm := ite_f hm (of_decide_eq_false h9)
   refine c_skip ?_
   refine d_then ?_
   refine c_seq ?_
   refine c_region ?_
   refine g_v rfl r_assign ?_
   refine g_nil ?_
   refine d_then ?_
   refine c_ret ?_
   replace hm := Option.some.inj hm
   subst hm
   refine d_retC () Try.results45 ?_ trivial (fun W h => ok_pre (H1 := []) (R1 := [_]) h (fun W hφ => hφ)) (.inr rfl)
   refine res_tmp ?_
   refine res_nil ?_
   exact rfl

noncomputable def m_ref03_Labels (p0 : ByteArray) : Option ((List ByteArray) × Int) :=
  (m_ref03_Check p0).bind fun x1 =>
  if x1 ≠ 0 then
    some (([] : List ByteArray), x1)
  else
    (m_ref03_row p0).bind fun (z10 : (List ByteArray) × Bool) =>
    some (z10.1, 0)
theorem c_ref03_Labels {w0 : World} {M : Nat → Prop} {H : List (Nat × Nat × Obj)} {R : List (Nat × Row)} {φ : World → Prop} (p0 : ByteArray) (r : (List ByteArray) × Int) (hm : m_ref03_Labels p0 = some r) :
    Cn Try.prog 43 #[.string p0] ⟨w0, M, H, R, φ⟩ (fun x : Option Addr × Nat => .tuple #[.slice x.1 r.1.length x.2, .int .i64 r.2]) (fun x => r.1.length ≤ x.2) (fun x => ⟨w0, M, H, (2000, ⟨.slice x.1 r.1.length x.2, 9, 1, r.1.length, r.1.flatMap (fun x : ByteArray => [Value.string x])⟩) :: R, φ⟩) := by
 unfold m_ref03_Labels at hm
 refine cn_intro (fn := Try.f43) (N := 18) Try.func43 rfl Try.ntmps43 rfl ?_
 refine c_seq ?_
 refine c_region ?_
 refine g_v rfl r_assign ?_
 refine g_v rfl r_assign ?_
 refine g_nil ?_
 refine d_then ?_
 refine c_seq ?_
 refine c_region ?_
 refine g_v rfl r_move ?_
 replace hm := bnd hm
 obtain ⟨x1, hx2, hm⟩ := hm
 refine g_cn ⟨w0, M, _, _, φ⟩ (fun _ h => h) Try.call45 rfl rfl (c_ref03_Check p0 _ hx2) (fun _ _ => ?_)
 refine g_v rfl r_assign ?_
 refine g_nil ?_
 refine d_then ?_
 refine c_seq ?_
 refine c_seq ?_
 refine c_region ?_
 refine g_v rfl r_move ?_
 refine g_v rfl (r_neq rfl rfl) ?_
 refine g_nil ?_
 refine d_then ?_
 refine c_cond rfl (fun h3 => ?_) (fun h3 => ?_)
 ·
  replace hm := ite_t hm (of_decide_eq_true h3)
  refine c_seq ?_
  refine c_region ?_
  refine g_v rfl r_move ?_
  refine g_v rfl r_assign ?_
  refine g_v rfl r_assign ?_
  refine g_nil ?_
  refine d_then ?_
  refine c_flat [(2, .slice none 0 0), (3, .int .i64 x1)] ⟨rfl, rfl, trivial⟩ (fun u => ?_)
  refine c_sta ⟨w0, M, H, R, φ⟩ (fun _ h => h) ?_
  refine c_ret ?_
  refine d_ret_then ?_
  replace hm := Option.some.inj hm
  subst hm
  refine d_sta _ (fun W h => nilR h 11 9 1) ?_
  refine d_sta _ (fun W h => ok_frontR (t := 11) (t' := 2000) h rfl) ?_
  refine d_retC (none, 0) Try.results43 ?_ (Nat.le_refl 0) (fun W h => h.phi (fun W hφ => hφ)) (.inr rfl)
  refine res_tmp ?_
  refine res_tmp ?_
  refine res_nil ?_
  exact rfl
 ·
  replace hm := ite_f hm (of_decide_eq_false h3)
  refine c_skip ?_
  refine d_then ?_
  refine c_seq ?_
  refine c_region ?_
  refine g_v rfl r_move ?_
  replace hm := bnd hm
  obtain ⟨⟨x4, x5⟩, hx6, hm⟩ := hm
  refine g_cn ⟨w0, M, _, _, φ⟩ (fun _ h => h) Try.call67 rfl rfl (c_ref03_row p0 _ hx6) (fun ⟨A7, c8⟩ hc8 => ?_)
  refine g_sta _ (fun W h => (ok_frontR (t := 2000) (t' := 100140) h rfl)) ?_
  refine g_v rfl r_move ?_
  refine g_v rfl (r_extract rfl rfl) ?_
  refine g_v rfl (r_extract rfl rfl) ?_
  refine g_v rfl r_assign ?_
  refine g_v rfl r_assign ?_
  refine g_nil ?_
  refine d_then ?_
  refine c_flat [(5, .slice A7 x4.length c8)] ⟨rfl, trivial⟩ (fun u => ?_)
  refine c_sta ⟨w0, M, H, (100140, ⟨.slice A7 x4.length c8, 9, 1, x4.length, x4.flatMap (fun x : ByteArray => [Value.string x])⟩) :: R, φ⟩ (fun _ h => h) ?_
  refine c_seq ?_
  refine c_region ?_
  refine g_v rfl r_move ?_
  refine g_v rfl r_assign ?_
  refine g_v rfl r_assign ?_
  refine g_nil ?_
  refine d_then ?_
  refine c_ret ?_
  replace hm := Option.some.inj hm
  subst hm
  refine d_sta _ (fun W h => ok_frontR (t := 100140) (t' := 2000) h rfl) ?_
  refine d_retC (A7, c8) Try.results43 ?_ hc8 (fun W h => h.phi (fun W hφ => hφ)) (.inr rfl)
  refine res_tmp ?_
  refine res_tmp ?_
  refine res_nil ?_
  exact rfl

noncomputable def m_ref03_Shared_j1  (i107 : Int) : Option Int :=
  some i107
noncomputable def m_ref03_Shared_s2 (x1 : List ByteArray) (x8 : List ByteArray) (i152 : Int) : Option (Int ⊕ Int) :=
  if i152 < (x1.length : Int) then
    if i152 < (x8.length : Int) then
      (at_ x1 (w64 ((w64 ((x1.length : Int) - 1)) - i152))).bind fun x228 =>
      (at_ x8 (w64 ((w64 ((x8.length : Int) - 1)) - i152))).bind fun x232 =>
      (m_ref03_Lower x228).bind fun x236 =>
      (m_ref03_Lower x232).bind fun x238 =>
      if x236 = x238 then
        some (.inl (w64 (i152 + 1)))
      else
        some (.inr i152)
    else
      some (.inr i152)
  else
    some (.inr i152)
noncomputable def m_ref03_Shared (p0 : ByteArray) (p1 : ByteArray) : Option Int :=
  (m_ref03_Labels p0).bind fun (z7 : (List ByteArray) × Int) =>
  (m_ref03_Labels p1).bind fun (z14 : (List ByteArray) × Int) =>
  if z7.2 ≠ 0 then
    some (-1)
  else
    if z14.2 ≠ 0 then
      some (-1)
    else
      (loop (fun s => m_ref03_Shared_s2 z7.1 z14.1 s) 0).bind fun e => m_ref03_Shared_j1 e
theorem c_ref03_Shared {w0 : World} {M : Nat → Prop} {H : List (Nat × Nat × Obj)} {R : List (Nat × Row)} {φ : World → Prop} (p0 : ByteArray) (p1 : ByteArray) (r : Int) (hm : m_ref03_Shared p0 p1 = some r) :
    Cn Try.prog 59 #[.string p0, .string p1] ⟨w0, M, H, R, φ⟩ (fun x : Unit => .int .i64 r) (fun x => True) (fun x => ⟨w0, M, H, R, φ⟩) := by
 unfold m_ref03_Shared at hm
 refine cn_intro (fn := Try.f59) (N := 60) Try.func59 rfl Try.ntmps59 rfl ?_
 refine c_seq ?_
 refine c_region ?_
 refine g_v rfl r_assign ?_
 refine g_nil ?_
 refine d_then ?_
 refine c_seq ?_
 refine c_region ?_
 refine g_v rfl r_move ?_
 replace hm := bnd hm
 obtain ⟨⟨x1, x2⟩, hx3, hm⟩ := hm
 refine g_cn ⟨w0, M, _, _, φ⟩ (fun _ h => h) Try.call43 rfl rfl (c_ref03_Labels p0 _ hx3) (fun ⟨A4, c5⟩ hc5 => ?_)
 refine g_sta _ (fun W h => (ok_frontR (t := 2000) (t' := 100120) h rfl)) ?_
 refine g_v rfl r_move ?_
 refine g_v rfl (r_extract rfl rfl) ?_
 refine g_v rfl (r_extract rfl rfl) ?_
 refine g_v rfl r_assign ?_
 refine g_v rfl r_assign ?_
 refine g_nil ?_
 refine d_then ?_
 refine c_seq ?_
 refine c_region ?_
 refine g_v rfl r_move ?_
 replace hm := bnd hm
 obtain ⟨⟨x8, x9⟩, hx10, hm⟩ := hm
 refine g_cn ⟨w0, M, _, _, φ⟩ (fun _ h => h) Try.call43 rfl rfl (c_ref03_Labels p1 _ hx10) (fun ⟨A11, c12⟩ hc12 => ?_)
 refine g_sta _ (fun W h => (ok_frontR (t := 2000) (t' := 100170) h rfl)) ?_
 refine g_v rfl r_move ?_
 refine g_v rfl (r_extract rfl rfl) ?_
 refine g_v rfl (r_extract rfl rfl) ?_
 refine g_v rfl r_assign ?_
 refine g_v rfl r_assign ?_
 refine g_nil ?_
 refine d_then ?_
 refine c_flat [(5, .slice A4 x1.length c5), (6, .int .i64 x2), (7, .slice A11 x8.length c12), (8, .int .i64 x9)] ⟨rfl, rfl, rfl, rfl, trivial⟩ (fun u => ?_)
 refine c_sta ⟨w0, M, H, (100170, ⟨.slice A11 x8.length c12, 9, 1, x8.length, x8.flatMap (fun x : ByteArray => [Value.string x])⟩) :: (100120, ⟨.slice A4 x1.length c5, 9, 1, x1.length, x1.flatMap (fun x : ByteArray => [Value.string x])⟩) :: R, φ⟩ (fun _ h => h) ?_
 refine c_seq ?_
 refine c_seq ?_
 refine c_region ?_
 refine g_v rfl r_move ?_
 refine g_v rfl (r_neq rfl rfl) ?_
 refine g_v rfl r_move ?_
 refine g_if rfl rfl rfl rfl rfl (fun h15 => ?_) (fun h15 => ?_)
 ·
  replace hm := ite_f hm (of_decide_eq_false h15)
  refine g_v rfl r_move ?_
  refine g_do rfl rfl rfl rfl rfl h15 ?_
  refine g_v rfl (r_neq rfl rfl) ?_
  refine g_v rfl (r_pick0 rfl h15) ?_
  refine g_nil ?_
  refine d_then ?_
  refine c_cond rfl (fun h16 => ?_) (fun h16 => ?_)
  ·
   replace hm := ite_t hm (of_decide_eq_true h16)
   refine c_seq ?_
   refine c_region ?_
   refine g_v rfl r_assign ?_
   refine g_nil ?_
   refine d_then ?_
   refine c_ret ?_
   refine d_ret_then ?_
   replace hm := Option.some.inj hm
   subst hm
   refine d_retC () Try.results59 ?_ trivial (fun W h => ok_pre (H1 := []) (R1 := [_, _]) h (fun W hφ => hφ)) (.inr rfl)
   refine res_tmp ?_
   refine res_nil ?_
   exact rfl
  ·
   replace hm := ite_f hm (of_decide_eq_false h16)
   refine c_skip ?_
   refine d_then ?_
   refine c_seq ?_
   refine c_region ?_
   refine g_v rfl r_assign ?_
   refine g_nil ?_
   refine d_then ?_
   refine c_seq ?_
   refine c_cut (ι := Int) [9] (fun i107 => [(9, .int .i64 i107)]) (fun i107 => ⟨w0, M, H, R, φ⟩) (fun i107 => m_ref03_Shared_j1 i107 = some r) ?_ (fun i107 u hm => ?_)
   ·
    refine c_block ?_
    replace hm := bnd hm
    obtain ⟨out2, hl2, hr2⟩ := hm
    obtain ⟨n197', hl2⟩ := loop_lp hl2
    refine c_loopU (ι := Nat × Int) [5, 7, 9] (fun ⟨n197, i152⟩ => [(9, .int .i64 i152)]) (fun ⟨n197, i152⟩ => ⟨w0, M, H, (100170, ⟨.slice A11 x8.length c12, 9, 1, x8.length, x8.flatMap (fun x : ByteArray => [Value.string x])⟩) :: (100120, ⟨.slice A4 x1.length c5, 9, 1, x1.length, x1.flatMap (fun x : ByteArray => [Value.string x])⟩) :: R, φ⟩) (fun ⟨n197, i152⟩ => Lp (fun s => m_ref03_Shared_s2 x1 x8 s) n197 i152 out2) (fun ⟨n197, i152⟩ => n197) (n197', 0) hl2 ⟨rfl, rfl, rfl, trivial⟩ (fun W h => h.phi (fun W hφ => hφ)) (fun ⟨n197, i152⟩ u hlp => ?_)
    obtain ⟨o2, hm, hnx2⟩ := lp_step hlp
    clear hlp
    replace hm : m_ref03_Shared_s2 x1 x8 i152 = some o2 := hm
    unfold m_ref03_Shared_s2 at hm
    refine c_flat [(5, .slice A4 x1.length c5), (7, .slice A11 x8.length c12), (9, .int .i64 i152)] ⟨rfl, rfl, rfl, trivial⟩ (fun u => ?_)
    refine c_sta ⟨w0, M, H, (100170, ⟨.slice A11 x8.length c12, 9, 1, x8.length, x8.flatMap (fun x : ByteArray => [Value.string x])⟩) :: (100120, ⟨.slice A4 x1.length c5, 9, 1, x1.length, x1.flatMap (fun x : ByteArray => [Value.string x])⟩) :: R, φ⟩ (fun _ h => h) ?_
    refine c_seq ?_
    refine c_seq ?_
    refine ga_start (n := 31) ⟨w0, M, H, (100170, ⟨.slice A11 x8.length c12, 9, 1, x8.length, x8.flatMap (fun x : ByteArray => [Value.string x])⟩) :: (100120, ⟨.slice A4 x1.length c5, 9, 1, x1.length, x1.flatMap (fun x : ByteArray => [Value.string x])⟩) :: R, φ⟩ [] #[false, false, false, false, false, false, false, false, false, false, false, false, false, false, false, false, false, false, false, false, false, false, false, false, false, false, false, false, false, false, false] (fun W h => h.phi (fun W hφ => hφ)) mixed rfl rfl ?_
    refine ga_v (i := 0) #[true, false, false, false, false, false, false, false, false, false, false, false, false, false, false, false, false, false, false, false, false, false, false, false, false, false, false, false, false, false, false] rfl (by kernel_rfl) (fun _ _ _ _ h => h) rfl (r_move) ?_
    refine ga_r (i := 1) #[true, true, false, false, false, false, false, false, false, false, false, false, false, false, false, false, false, false, false, false, false, false, false, false, false, false, false, false, false, false, false] rfl (by kernel_rfl) (by decide) rfl (r_move) ?_
    refine ga_r (i := 2) #[true, true, true, false, false, false, false, false, false, false, false, false, false, false, false, false, false, false, false, false, false, false, false, false, false, false, false, false, false, false, false] rfl (by kernel_rfl) (by decide) rfl (r_lenL Try.underlying44 rfl) ?_
    refine ga_r (i := 3) #[true, true, true, true, false, false, false, false, false, false, false, false, false, false, false, false, false, false, false, false, false, false, false, false, false, false, false, false, false, false, false] rfl (by kernel_rfl) (by decide) rfl (r_lss rfl rfl) ?_
    refine ga_r (i := 4) #[true, true, true, true, true, false, false, false, false, false, false, false, false, false, false, false, false, false, false, false, false, false, false, false, false, false, false, false, false, false, false] rfl (by kernel_rfl) (by decide) rfl (r_move) ?_
    refine ga_if (t := 30) rfl (fun h226 => ?_) (fun h226 => ?_)
    ·
     replace hm := ite_t hm (of_decide_eq_true h226)
     refine ga_do (i := 5) #[true, true, true, true, true, true, false, false, false, false, false, false, false, false, false, false, false, false, false, false, false, false, false, false, false, false, false, false, false, false, false] rfl (by kernel_rfl) (fun _ _ _ _ h => h) rfl rfl rfl rfl rfl h226 (r_move) ?_
     refine ga_rG (i := 6) #[true, true, true, true, true, true, true, false, false, false, false, false, false, false, false, false, false, false, false, false, false, false, false, false, false, false, false, false, false, false, false] rfl (by kernel_rfl) (by decide) rfl rfl rfl rfl rfl h226 (r_move) ?_
     refine ga_rG (i := 7) #[true, true, true, true, true, true, true, true, false, false, false, false, false, false, false, false, false, false, false, false, false, false, false, false, false, false, false, false, false, false, false] rfl (by kernel_rfl) (by decide) rfl rfl rfl rfl rfl h226 (r_lenL Try.underlying44 rfl) ?_
     refine ga_rG (i := 8) #[true, true, true, true, true, true, true, true, true, false, false, false, false, false, false, false, false, false, false, false, false, false, false, false, false, false, false, false, false, false, false] rfl (by kernel_rfl) (by decide) rfl rfl rfl rfl rfl h226 (r_lss rfl rfl) ?_
     refine ga_r (i := 9) #[true, true, true, true, true, true, true, true, true, true, false, false, false, false, false, false, false, false, false, false, false, false, false, false, false, false, false, false, false, false, false] rfl (by kernel_rfl) (by decide) rfl (r_pick1 rfl h226) ?_
     refine ga_r (i := 10) #[true, true, true, true, true, true, true, true, true, true, true, false, false, false, false, false, false, false, false, false, false, false, false, false, false, false, false, false, false, false, false] rfl (by kernel_rfl) (by decide) rfl (r_move) ?_
     refine ga_if (t := 36) rfl (fun h227 => ?_) (fun h227 => ?_)
     ·
      replace hm := ite_t hm (of_decide_eq_true h227)
      refine ga_do (i := 11) #[true, true, true, true, true, true, true, true, true, true, true, true, false, false, false, false, false, false, false, false, false, false, false, false, false, false, false, false, false, false, false] rfl (by kernel_rfl) (fun _ _ _ _ h => h) rfl rfl rfl rfl rfl h227 (r_move) ?_
      refine ga_do (i := 12) #[true, true, true, true, true, true, true, true, true, true, true, true, true, false, false, false, false, false, false, false, false, false, false, false, false, false, false, false, false, false, false] rfl (by kernel_rfl) (fun _ _ _ _ h => h) rfl rfl rfl rfl rfl h227 (r_move) ?_
      refine ga_do (i := 13) #[true, true, true, true, true, true, true, true, true, true, true, true, true, true, false, false, false, false, false, false, false, false, false, false, false, false, false, false, false, false, false] rfl (by kernel_rfl) (fun _ _ _ _ h => h) rfl rfl rfl rfl rfl h227 (r_lenL Try.underlying44 rfl) ?_
      refine ga_do (i := 14) #[true, true, true, true, true, true, true, true, true, true, true, true, true, true, true, false, false, false, false, false, false, false, false, false, false, false, false, false, false, false, false] rfl (by kernel_rfl) (fun _ _ _ _ h => h) rfl rfl rfl rfl rfl h227 (r_sub rfl rfl rfl) ?_
      refine ga_do (i := 15) #[true, true, true, true, true, true, true, true, true, true, true, true, true, true, true, true, false, false, false, false, false, false, false, false, false, false, false, false, false, false, false] rfl (by kernel_rfl) (fun _ _ _ _ h => h) rfl rfl rfl rfl rfl h227 (r_move) ?_
      refine ga_do (i := 16) #[true, true, true, true, true, true, true, true, true, true, true, true, true, true, true, true, true, false, false, false, false, false, false, false, false, false, false, false, false, false, false] rfl (by kernel_rfl) (fun _ _ _ _ h => h) rfl rfl rfl rfl rfl h227 (r_sub rfl rfl rfl) ?_
      replace hm := bnd hm
      obtain ⟨x228, hx228, hm⟩ := hm
      refine ga_know _ (fun W hS => cl_at (p := (Sta.ok ⟨w0, M, H, (100170, ⟨.slice A11 x8.length c12, 9, 1, x8.length, x8.flatMap (fun x : ByteArray => [Value.string x])⟩) :: (100120, ⟨.slice A4 x1.length c5, 9, 1, x1.length, x1.flatMap (fun x : ByteArray => [Value.string x])⟩) :: R, φ⟩)) (sz := 1) (fun _ => rfl) (by decide) (hS.phi (fun W hφ => hφ)) (fun W hS => rowCl (S := ⟨w0, M, H, (100170, ⟨.slice A11 x8.length c12, 9, 1, x8.length, x8.flatMap (fun x : ByteArray => [Value.string x])⟩) :: (100120, ⟨.slice A4 x1.length c5, 9, 1, x1.length, x1.flatMap (fun x : ByteArray => [Value.string x])⟩) :: R, φ⟩) (tag := 100120) rfl W hS) hx228) ?_
      rintro ⟨ad229, hA231, f230⟩
      refine ga_do (i := 17) #[true, true, true, true, true, true, true, true, true, true, true, true, true, true, true, true, true, true, false, false, false, false, false, false, false, false, false, false, false, false, false] rfl (by kernel_rfl) (fun _ _ _ _ h => h) rfl rfl rfl rfl rfl h227 (r_ix Try.underlying44 Try.sizeOf9 rfl hA231 rfl hx228) ?_
      refine ga_do (i := 18) #[true, true, true, true, true, true, true, true, true, true, true, true, true, true, true, true, true, true, true, false, false, false, false, false, false, false, false, false, false, false, false] rfl (by kernel_rfl) (fun _ _ _ _ h => h) rfl rfl rfl rfl rfl h227 (r_ld rfl Try.isAgg9 (fun W hS => Cl.head (f230 W hS))) ?_
      refine ga_do (i := 20) #[true, true, true, true, true, true, true, true, true, true, true, true, true, true, true, true, true, true, true, false, true, false, false, false, false, false, false, false, false, false, false] rfl (by kernel_rfl) (fun _ _ _ _ h => h) rfl rfl rfl rfl rfl h227 (r_move) ?_
      refine ga_do (i := 21) #[true, true, true, true, true, true, true, true, true, true, true, true, true, true, true, true, true, true, true, false, true, true, false, false, false, false, false, false, false, false, false] rfl (by kernel_rfl) (fun _ _ _ _ h => h) rfl rfl rfl rfl rfl h227 (r_move) ?_
      refine ga_do (i := 22) #[true, true, true, true, true, true, true, true, true, true, true, true, true, true, true, true, true, true, true, false, true, true, true, false, false, false, false, false, false, false, false] rfl (by kernel_rfl) (fun _ _ _ _ h => h) rfl rfl rfl rfl rfl h227 (r_lenL Try.underlying44 rfl) ?_
      refine ga_do (i := 23) #[true, true, true, true, true, true, true, true, true, true, true, true, true, true, true, true, true, true, true, false, true, true, true, true, false, false, false, false, false, false, false] rfl (by kernel_rfl) (fun _ _ _ _ h => h) rfl rfl rfl rfl rfl h227 (r_sub rfl rfl rfl) ?_
      refine ga_do (i := 24) #[true, true, true, true, true, true, true, true, true, true, true, true, true, true, true, true, true, true, true, false, true, true, true, true, true, false, false, false, false, false, false] rfl (by kernel_rfl) (fun _ _ _ _ h => h) rfl rfl rfl rfl rfl h227 (r_move) ?_
      refine ga_do (i := 25) #[true, true, true, true, true, true, true, true, true, true, true, true, true, true, true, true, true, true, true, false, true, true, true, true, true, true, false, false, false, false, false] rfl (by kernel_rfl) (fun _ _ _ _ h => h) rfl rfl rfl rfl rfl h227 (r_sub rfl rfl rfl) ?_
      replace hm := bnd hm
      obtain ⟨x232, hx232, hm⟩ := hm
      refine ga_know _ (fun W hS => cl_at (p := (Sta.ok ⟨w0, M, H, (100170, ⟨.slice A11 x8.length c12, 9, 1, x8.length, x8.flatMap (fun x : ByteArray => [Value.string x])⟩) :: (100120, ⟨.slice A4 x1.length c5, 9, 1, x1.length, x1.flatMap (fun x : ByteArray => [Value.string x])⟩) :: R, φ⟩)) (sz := 1) (fun _ => rfl) (by decide) (hS.phi (fun W hφ => hφ)) (fun W hS => rowCl (S := ⟨w0, M, H, (100170, ⟨.slice A11 x8.length c12, 9, 1, x8.length, x8.flatMap (fun x : ByteArray => [Value.string x])⟩) :: (100120, ⟨.slice A4 x1.length c5, 9, 1, x1.length, x1.flatMap (fun x : ByteArray => [Value.string x])⟩) :: R, φ⟩) (tag := 100170) rfl W hS) hx232) ?_
      rintro ⟨ad233, hA235, f234⟩
      refine ga_do (i := 26) #[true, true, true, true, true, true, true, true, true, true, true, true, true, true, true, true, true, true, true, false, true, true, true, true, true, true, true, false, false, false, false] rfl (by kernel_rfl) (fun _ _ _ _ h => h) rfl rfl rfl rfl rfl h227 (r_ix Try.underlying44 Try.sizeOf9 rfl hA235 rfl hx232) ?_
      refine ga_do (i := 27) #[true, true, true, true, true, true, true, true, true, true, true, true, true, true, true, true, true, true, true, false, true, true, true, true, true, true, true, true, false, false, false] rfl (by kernel_rfl) (fun _ _ _ _ h => h) rfl rfl rfl rfl rfl h227 (r_ld rfl Try.isAgg9 (fun W hS => Cl.head (f234 W hS))) ?_
      replace hm := bnd hm
      obtain ⟨x236, hx237, hm⟩ := hm
      refine ga_cnG (first := #[]) (i := 19) #[true, true, true, true, true, true, true, true, true, true, true, true, true, true, true, true, true, true, true, true, true, true, true, true, true, true, true, true, false, false, false] rfl (by kernel_rfl) (by decide) rfl rfl rfl rfl h227  ⟨w0, M, _, _, φ⟩ (fun _ h => h) Try.call54 rfl rfl rfl (c_ref03_Lower x228 _ hx237) (fun _ W _ h => h.phi (fun W hφ => hφ)) (fun _ _ => ?_)
      replace hm := bnd hm
      obtain ⟨x238, hx239, hm⟩ := hm
      refine ga_cnG (first := #[]) (i := 28) #[true, true, true, true, true, true, true, true, true, true, true, true, true, true, true, true, true, true, true, true, true, true, true, true, true, true, true, true, true, false, false] rfl (by kernel_rfl) (by decide) rfl rfl rfl rfl h227  ⟨w0, M, _, _, φ⟩ (fun _ h => h) Try.call54 rfl rfl rfl (c_ref03_Lower x232 _ hx239) (fun _ W _ h => h.phi (fun W hφ => hφ)) (fun _ _ => ?_)
      refine ga_rG (i := 29) #[true, true, true, true, true, true, true, true, true, true, true, true, true, true, true, true, true, true, true, true, true, true, true, true, true, true, true, true, true, true, false] rfl (by kernel_rfl) (by decide) rfl rfl rfl rfl rfl h227 (r_eqlT rfl rfl) ?_
      refine ga_r (i := 30) #[true, true, true, true, true, true, true, true, true, true, true, true, true, true, true, true, true, true, true, true, true, true, true, true, true, true, true, true, true, true, true] rfl (by kernel_rfl) (by decide) rfl (r_pick1 rfl h227) ?_
      refine ga_done (by kernel_rfl) ?_
      refine d_then ?_
      refine c_flat [(5, .slice A4 x1.length c5), (7, .slice A11 x8.length c12), (9, .int .i64 i152), (56, .bool (decide (x236 = x238)))] ⟨rfl, rfl, rfl, rfl, trivial⟩ (fun u => ?_)
      refine c_sta ⟨w0, M, H, (100170, ⟨.slice A11 x8.length c12, 9, 1, x8.length, x8.flatMap (fun x : ByteArray => [Value.string x])⟩) :: (100120, ⟨.slice A4 x1.length c5, 9, 1, x1.length, x1.flatMap (fun x : ByteArray => [Value.string x])⟩) :: R, φ⟩ (fun _ h => h) ?_
      refine c_cond rfl (fun h240 => ?_) (fun h240 => ?_)
      ·
       replace hm := ite_t hm (of_decide_eq_true h240)
       refine c_skip ?_
       refine d_then ?_
       refine c_block ?_
       refine c_region ?_
       refine g_v rfl r_move ?_
       refine g_v rfl (r_add rfl rfl rfl) ?_
       refine g_v rfl r_assign ?_
       refine g_nil ?_
       refine d_normal_block ?_
       obtain ⟨n241, hn241, hlp⟩ := nx_inl hm hnx2
       exact d_round (n241, w64 (i152 + 1)) hlp hn241 ⟨rfl, rfl, rfl, trivial⟩ (fun W h => h.phi (fun W hφ => hφ))
      ·
       replace hm := ite_f hm (of_decide_eq_false h240)
       refine c_exit ?_
       refine d_exit_then ?_
       refine d_exit_then ?_
       refine d_exit_block ?_
       replace hm := nx_out (C := (fun e => m_ref03_Shared_j1 e = some r)) hm hnx2 hr2
       exact d_round i152 hm Nat.zero_lt_one ⟨rfl, trivial⟩ (fun W h => ((h.dropR (t := 100170) rfl).dropR (t := 100120) rfl).phi (fun W hφ => hφ))
     ·
      replace hm := ite_f hm (of_decide_eq_false h227)
      refine ga_no (i := 11) #[true, true, true, true, true, true, true, true, true, true, true, true, false, false, false, false, false, false, false, false, false, false, false, false, false, false, false, false, false, false, false] rfl (by kernel_rfl) (fun _ _ _ _ h => h) rfl rfl rfl rfl rfl h227 ?_
      refine ga_no (i := 12) #[true, true, true, true, true, true, true, true, true, true, true, true, true, false, false, false, false, false, false, false, false, false, false, false, false, false, false, false, false, false, false] rfl (by kernel_rfl) (fun _ _ _ _ h => h) rfl rfl rfl rfl rfl h227 ?_
      refine ga_no (i := 13) #[true, true, true, true, true, true, true, true, true, true, true, true, true, true, false, false, false, false, false, false, false, false, false, false, false, false, false, false, false, false, false] rfl (by kernel_rfl) (fun _ _ _ _ h => h) rfl rfl rfl rfl rfl h227 ?_
      refine ga_no (i := 14) #[true, true, true, true, true, true, true, true, true, true, true, true, true, true, true, false, false, false, false, false, false, false, false, false, false, false, false, false, false, false, false] rfl (by kernel_rfl) (fun _ _ _ _ h => h) rfl rfl rfl rfl rfl h227 ?_
      refine ga_no (i := 15) #[true, true, true, true, true, true, true, true, true, true, true, true, true, true, true, true, false, false, false, false, false, false, false, false, false, false, false, false, false, false, false] rfl (by kernel_rfl) (fun _ _ _ _ h => h) rfl rfl rfl rfl rfl h227 ?_
      refine ga_no (i := 16) #[true, true, true, true, true, true, true, true, true, true, true, true, true, true, true, true, true, false, false, false, false, false, false, false, false, false, false, false, false, false, false] rfl (by kernel_rfl) (fun _ _ _ _ h => h) rfl rfl rfl rfl rfl h227 ?_
      refine ga_no (i := 17) #[true, true, true, true, true, true, true, true, true, true, true, true, true, true, true, true, true, true, false, false, false, false, false, false, false, false, false, false, false, false, false] rfl (by kernel_rfl) (fun _ _ _ _ h => h) rfl rfl rfl rfl rfl h227 ?_
      refine ga_no (i := 18) #[true, true, true, true, true, true, true, true, true, true, true, true, true, true, true, true, true, true, true, false, false, false, false, false, false, false, false, false, false, false, false] rfl (by kernel_rfl) (fun _ _ _ _ h => h) rfl rfl rfl rfl rfl h227 ?_
      refine ga_no (i := 19) #[true, true, true, true, true, true, true, true, true, true, true, true, true, true, true, true, true, true, true, true, false, false, false, false, false, false, false, false, false, false, false] rfl (by kernel_rfl) (fun _ _ _ _ h => h) rfl rfl rfl rfl rfl h227 ?_
      refine ga_no (i := 20) #[true, true, true, true, true, true, true, true, true, true, true, true, true, true, true, true, true, true, true, true, true, false, false, false, false, false, false, false, false, false, false] rfl (by kernel_rfl) (fun _ _ _ _ h => h) rfl rfl rfl rfl rfl h227 ?_
      refine ga_no (i := 21) #[true, true, true, true, true, true, true, true, true, true, true, true, true, true, true, true, true, true, true, true, true, true, false, false, false, false, false, false, false, false, false] rfl (by kernel_rfl) (fun _ _ _ _ h => h) rfl rfl rfl rfl rfl h227 ?_
      refine ga_no (i := 22) #[true, true, true, true, true, true, true, true, true, true, true, true, true, true, true, true, true, true, true, true, true, true, true, false, false, false, false, false, false, false, false] rfl (by kernel_rfl) (fun _ _ _ _ h => h) rfl rfl rfl rfl rfl h227 ?_
      refine ga_no (i := 23) #[true, true, true, true, true, true, true, true, true, true, true, true, true, true, true, true, true, true, true, true, true, true, true, true, false, false, false, false, false, false, false] rfl (by kernel_rfl) (fun _ _ _ _ h => h) rfl rfl rfl rfl rfl h227 ?_
      refine ga_no (i := 24) #[true, true, true, true, true, true, true, true, true, true, true, true, true, true, true, true, true, true, true, true, true, true, true, true, true, false, false, false, false, false, false] rfl (by kernel_rfl) (fun _ _ _ _ h => h) rfl rfl rfl rfl rfl h227 ?_
      refine ga_no (i := 25) #[true, true, true, true, true, true, true, true, true, true, true, true, true, true, true, true, true, true, true, true, true, true, true, true, true, true, false, false, false, false, false] rfl (by kernel_rfl) (fun _ _ _ _ h => h) rfl rfl rfl rfl rfl h227 ?_
      refine ga_no (i := 26) #[true, true, true, true, true, true, true, true, true, true, true, true, true, true, true, true, true, true, true, true, true, true, true, true, true, true, true, false, false, false, false] rfl (by kernel_rfl) (fun _ _ _ _ h => h) rfl rfl rfl rfl rfl h227 ?_
      refine ga_no (i := 27) #[true, true, true, true, true, true, true, true, true, true, true, true, true, true, true, true, true, true, true, true, true, true, true, true, true, true, true, true, false, false, false] rfl (by kernel_rfl) (fun _ _ _ _ h => h) rfl rfl rfl rfl rfl h227 ?_
      refine ga_no (i := 28) #[true, true, true, true, true, true, true, true, true, true, true, true, true, true, true, true, true, true, true, true, true, true, true, true, true, true, true, true, true, false, false] rfl (by kernel_rfl) (fun _ _ _ _ h => h) rfl rfl rfl rfl rfl h227 ?_
      refine ga_no (i := 29) #[true, true, true, true, true, true, true, true, true, true, true, true, true, true, true, true, true, true, true, true, true, true, true, true, true, true, true, true, true, true, false] rfl (by kernel_rfl) (fun _ _ _ _ h => h) rfl rfl rfl rfl rfl h227 ?_
      refine ga_r (i := 30) #[true, true, true, true, true, true, true, true, true, true, true, true, true, true, true, true, true, true, true, true, true, true, true, true, true, true, true, true, true, true, true] rfl (by kernel_rfl) (by decide) rfl (r_pick0 rfl h227) ?_
      refine ga_done (by kernel_rfl) ?_
      refine d_then ?_
      refine c_flat [(5, .slice A4 x1.length c5), (7, .slice A11 x8.length c12), (9, .int .i64 i152), (56, .bool false)] ⟨rfl, rfl, rfl, rfl, trivial⟩ (fun u => ?_)
      refine c_sta ⟨w0, M, H, (100170, ⟨.slice A11 x8.length c12, 9, 1, x8.length, x8.flatMap (fun x : ByteArray => [Value.string x])⟩) :: (100120, ⟨.slice A4 x1.length c5, 9, 1, x1.length, x1.flatMap (fun x : ByteArray => [Value.string x])⟩) :: R, φ⟩ (fun _ h => h) ?_
      refine c_cond0 rfl rfl ?_
      refine c_exit ?_
      refine d_exit_then ?_
      refine d_exit_then ?_
      refine d_exit_block ?_
      replace hm := nx_out (C := (fun e => m_ref03_Shared_j1 e = some r)) hm hnx2 hr2
      exact d_round i152 hm Nat.zero_lt_one ⟨rfl, trivial⟩ (fun W h => ((h.dropR (t := 100170) rfl).dropR (t := 100120) rfl).phi (fun W hφ => hφ))
    ·
     replace hm := ite_f hm (of_decide_eq_false h226)
     refine ga_no (i := 5) #[true, true, true, true, true, true, false, false, false, false, false, false, false, false, false, false, false, false, false, false, false, false, false, false, false, false, false, false, false, false, false] rfl (by kernel_rfl) (fun _ _ _ _ h => h) rfl rfl rfl rfl rfl h226 ?_
     refine ga_no (i := 6) #[true, true, true, true, true, true, true, false, false, false, false, false, false, false, false, false, false, false, false, false, false, false, false, false, false, false, false, false, false, false, false] rfl (by kernel_rfl) (fun _ _ _ _ h => h) rfl rfl rfl rfl rfl h226 ?_
     refine ga_no (i := 7) #[true, true, true, true, true, true, true, true, false, false, false, false, false, false, false, false, false, false, false, false, false, false, false, false, false, false, false, false, false, false, false] rfl (by kernel_rfl) (fun _ _ _ _ h => h) rfl rfl rfl rfl rfl h226 ?_
     refine ga_no (i := 8) #[true, true, true, true, true, true, true, true, true, false, false, false, false, false, false, false, false, false, false, false, false, false, false, false, false, false, false, false, false, false, false] rfl (by kernel_rfl) (fun _ _ _ _ h => h) rfl rfl rfl rfl rfl h226 ?_
     refine ga_r (i := 9) #[true, true, true, true, true, true, true, true, true, true, false, false, false, false, false, false, false, false, false, false, false, false, false, false, false, false, false, false, false, false, false] rfl (by kernel_rfl) (by decide) rfl (r_pick0 rfl h226) ?_
     refine ga_r (i := 10) #[true, true, true, true, true, true, true, true, true, true, true, false, false, false, false, false, false, false, false, false, false, false, false, false, false, false, false, false, false, false, false] rfl (by kernel_rfl) (by decide) rfl (r_move) ?_
     refine ga_no (i := 11) #[true, true, true, true, true, true, true, true, true, true, true, true, false, false, false, false, false, false, false, false, false, false, false, false, false, false, false, false, false, false, false] rfl (by kernel_rfl) (fun _ _ _ _ h => h) rfl rfl rfl rfl rfl rfl ?_
     refine ga_no (i := 12) #[true, true, true, true, true, true, true, true, true, true, true, true, true, false, false, false, false, false, false, false, false, false, false, false, false, false, false, false, false, false, false] rfl (by kernel_rfl) (fun _ _ _ _ h => h) rfl rfl rfl rfl rfl rfl ?_
     refine ga_no (i := 13) #[true, true, true, true, true, true, true, true, true, true, true, true, true, true, false, false, false, false, false, false, false, false, false, false, false, false, false, false, false, false, false] rfl (by kernel_rfl) (fun _ _ _ _ h => h) rfl rfl rfl rfl rfl rfl ?_
     refine ga_no (i := 14) #[true, true, true, true, true, true, true, true, true, true, true, true, true, true, true, false, false, false, false, false, false, false, false, false, false, false, false, false, false, false, false] rfl (by kernel_rfl) (fun _ _ _ _ h => h) rfl rfl rfl rfl rfl rfl ?_
     refine ga_no (i := 15) #[true, true, true, true, true, true, true, true, true, true, true, true, true, true, true, true, false, false, false, false, false, false, false, false, false, false, false, false, false, false, false] rfl (by kernel_rfl) (fun _ _ _ _ h => h) rfl rfl rfl rfl rfl rfl ?_
     refine ga_no (i := 16) #[true, true, true, true, true, true, true, true, true, true, true, true, true, true, true, true, true, false, false, false, false, false, false, false, false, false, false, false, false, false, false] rfl (by kernel_rfl) (fun _ _ _ _ h => h) rfl rfl rfl rfl rfl rfl ?_
     refine ga_no (i := 17) #[true, true, true, true, true, true, true, true, true, true, true, true, true, true, true, true, true, true, false, false, false, false, false, false, false, false, false, false, false, false, false] rfl (by kernel_rfl) (fun _ _ _ _ h => h) rfl rfl rfl rfl rfl rfl ?_
     refine ga_no (i := 18) #[true, true, true, true, true, true, true, true, true, true, true, true, true, true, true, true, true, true, true, false, false, false, false, false, false, false, false, false, false, false, false] rfl (by kernel_rfl) (fun _ _ _ _ h => h) rfl rfl rfl rfl rfl rfl ?_
     refine ga_no (i := 19) #[true, true, true, true, true, true, true, true, true, true, true, true, true, true, true, true, true, true, true, true, false, false, false, false, false, false, false, false, false, false, false] rfl (by kernel_rfl) (fun _ _ _ _ h => h) rfl rfl rfl rfl rfl rfl ?_
     refine ga_no (i := 20) #[true, true, true, true, true, true, true, true, true, true, true, true, true, true, true, true, true, true, true, true, true, false, false, false, false, false, false, false, false, false, false] rfl (by kernel_rfl) (fun _ _ _ _ h => h) rfl rfl rfl rfl rfl rfl ?_
     refine ga_no (i := 21) #[true, true, true, true, true, true, true, true, true, true, true, true, true, true, true, true, true, true, true, true, true, true, false, false, false, false, false, false, false, false, false] rfl (by kernel_rfl) (fun _ _ _ _ h => h) rfl rfl rfl rfl rfl rfl ?_
     refine ga_no (i := 22) #[true, true, true, true, true, true, true, true, true, true, true, true, true, true, true, true, true, true, true, true, true, true, true, false, false, false, false, false, false, false, false] rfl (by kernel_rfl) (fun _ _ _ _ h => h) rfl rfl rfl rfl rfl rfl ?_
     refine ga_no (i := 23) #[true, true, true, true, true, true, true, true, true, true, true, true, true, true, true, true, true, true, true, true, true, true, true, true, false, false, false, false, false, false, false] rfl (by kernel_rfl) (fun _ _ _ _ h => h) rfl rfl rfl rfl rfl rfl ?_
     refine ga_no (i := 24) #[true, true, true, true, true, true, true, true, true, true, true, true, true, true, true, true, true, true, true, true, true, true, true, true, true, false, false, false, false, false, false] rfl (by kernel_rfl) (fun _ _ _ _ h => h) rfl rfl rfl rfl rfl rfl ?_
     refine ga_no (i := 25) #[true, true, true, true, true, true, true, true, true, true, true, true, true, true, true, true, true, true, true, true, true, true, true, true, true, true, false, false, false, false, false] rfl (by kernel_rfl) (fun _ _ _ _ h => h) rfl rfl rfl rfl rfl rfl ?_
     refine ga_no (i := 26) #[true, true, true, true, true, true, true, true, true, true, true, true, true, true, true, true, true, true, true, true, true, true, true, true, true, true, true, false, false, false, false] rfl (by kernel_rfl) (fun _ _ _ _ h => h) rfl rfl rfl rfl rfl rfl ?_
     refine ga_no (i := 27) #[true, true, true, true, true, true, true, true, true, true, true, true, true, true, true, true, true, true, true, true, true, true, true, true, true, true, true, true, false, false, false] rfl (by kernel_rfl) (fun _ _ _ _ h => h) rfl rfl rfl rfl rfl rfl ?_
     refine ga_no (i := 28) #[true, true, true, true, true, true, true, true, true, true, true, true, true, true, true, true, true, true, true, true, true, true, true, true, true, true, true, true, true, false, false] rfl (by kernel_rfl) (fun _ _ _ _ h => h) rfl rfl rfl rfl rfl rfl ?_
     refine ga_no (i := 29) #[true, true, true, true, true, true, true, true, true, true, true, true, true, true, true, true, true, true, true, true, true, true, true, true, true, true, true, true, true, true, false] rfl (by kernel_rfl) (fun _ _ _ _ h => h) rfl rfl rfl rfl rfl rfl ?_
     refine ga_r (i := 30) #[true, true, true, true, true, true, true, true, true, true, true, true, true, true, true, true, true, true, true, true, true, true, true, true, true, true, true, true, true, true, true] rfl (by kernel_rfl) (by decide) rfl (r_pick0 rfl rfl) ?_
     refine ga_done (by kernel_rfl) ?_
     refine d_then ?_
     refine c_cond0 rfl rfl ?_
     refine c_exit ?_
     refine d_exit_then ?_
     refine d_exit_then ?_
     refine d_exit_block ?_
     replace hm := nx_out (C := (fun e => m_ref03_Shared_j1 e = some r)) hm hnx2 hr2
     exact d_round i152 hm Nat.zero_lt_one ⟨rfl, trivial⟩ (fun W h => ((h.dropR (t := 100170) rfl).dropR (t := 100120) rfl).phi (fun W hφ => hφ))
   ·
    unfold m_ref03_Shared_j1 at hm
    refine d_flat [(9, .int .i64 i107)] ⟨rfl, trivial⟩ (fun u => ?_)
    refine d_sta ⟨w0, M, H, R, φ⟩ (fun _ h => h) ?_
    refine d_then ?_
    refine c_seq ?_
    refine c_region ?_
    refine g_v rfl r_move ?_
    refine g_v rfl r_assign ?_
    refine g_nil ?_
    refine d_then ?_
    refine c_ret ?_
    replace hm := Option.some.inj hm
    subst hm
    refine d_retC () Try.results59 ?_ trivial (fun W h => ok_pre (H1 := []) (R1 := []) h (fun W hφ => hφ)) (.inr rfl)
    refine res_tmp ?_
    refine res_nil ?_
    exact rfl
 ·
  replace hm := ite_t hm (of_decide_eq_true h15)
  refine g_no rfl rfl rfl rfl rfl h15 ?_
  refine g_v rfl (r_pick1 rfl h15) ?_
  refine g_nil ?_
  refine d_then ?_
  refine c_cond1 rfl rfl ?_
  refine c_seq ?_
  refine c_region ?_
  refine g_v rfl r_assign ?_
  refine g_nil ?_
  refine d_then ?_
  refine c_ret ?_
  refine d_ret_then ?_
  replace hm := Option.some.inj hm
  subst hm
  refine d_retC () Try.results59 ?_ trivial (fun W h => ok_pre (H1 := []) (R1 := [_, _]) h (fun W hφ => hφ)) (.inr rfl)
  refine res_tmp ?_
  refine res_nil ?_
  exact rfl

noncomputable def m_ref03_Depth (p0 : ByteArray) : Option Int :=
  (m_ref03_Labels p0).bind fun (z7 : (List ByteArray) × Int) =>
  if z7.2 ≠ 0 then
    some (-1)
  else
    some (z7.1.length : Int)
theorem c_ref03_Depth {w0 : World} {M : Nat → Prop} {H : List (Nat × Nat × Obj)} {R : List (Nat × Row)} {φ : World → Prop} (p0 : ByteArray) (r : Int) (hm : m_ref03_Depth p0 = some r) :
    Cn Try.prog 47 #[.string p0] ⟨w0, M, H, R, φ⟩ (fun x : Unit => .int .i64 r) (fun x => True) (fun x => ⟨w0, M, H, R, φ⟩) := by
 unfold m_ref03_Depth at hm
 refine cn_intro (fn := Try.f47) (N := 14) Try.func47 rfl Try.ntmps47 rfl ?_
 refine c_seq ?_
 refine c_region ?_
 refine g_v rfl r_assign ?_
 refine g_nil ?_
 refine d_then ?_
 refine c_seq ?_
 refine c_region ?_
 refine g_v rfl r_move ?_
 replace hm := bnd hm
 obtain ⟨⟨x1, x2⟩, hx3, hm⟩ := hm
 refine g_cn ⟨w0, M, _, _, φ⟩ (fun _ h => h) Try.call43 rfl rfl (c_ref03_Labels p0 _ hx3) (fun ⟨A4, c5⟩ hc5 => ?_)
 refine g_sta _ (fun W h => (ok_frontR (t := 2000) (t' := 100070) h rfl)) ?_
 refine g_v rfl r_move ?_
 refine g_v rfl (r_extract rfl rfl) ?_
 refine g_v rfl (r_extract rfl rfl) ?_
 refine g_v rfl r_assign ?_
 refine g_v rfl r_assign ?_
 refine g_nil ?_
 refine d_then ?_
 refine c_seq ?_
 refine c_seq ?_
 refine c_region ?_
 refine g_v rfl r_move ?_
 refine g_v rfl (r_neq rfl rfl) ?_
 refine g_nil ?_
 refine d_then ?_
 refine c_flat [(3, .slice A4 x1.length c5), (11, .bool (decide (x2 ≠ 0)))] ⟨rfl, rfl, trivial⟩ (fun u => ?_)
 refine c_sta ⟨w0, M, H, (100070, ⟨.slice A4 x1.length c5, 9, 1, x1.length, x1.flatMap (fun x : ByteArray => [Value.string x])⟩) :: R, φ⟩ (fun _ h => h) ?_
 refine c_cond rfl (fun h8 => ?_) (fun h8 => ?_)
 ·
  replace hm := ite_t hm (of_decide_eq_true h8)
  refine c_seq ?_
  refine c_region ?_
  refine g_v rfl r_assign ?_
  refine g_nil ?_
  refine d_then ?_
  refine c_ret ?_
  refine d_ret_then ?_
  replace hm := Option.some.inj hm
  subst hm
  refine d_retC () Try.results47 ?_ trivial (fun W h => ok_pre (H1 := []) (R1 := [_]) h (fun W hφ => hφ)) (.inr rfl)
  refine res_tmp ?_
  refine res_nil ?_
  exact rfl
 ·
  replace hm := ite_f hm (of_decide_eq_false h8)
  refine c_skip ?_
  refine d_then ?_
  refine c_seq ?_
  refine c_region ?_
  refine g_v rfl r_move ?_
  refine g_v rfl (r_lenL Try.underlying44 rfl) ?_
  refine g_v rfl r_assign ?_
  refine g_nil ?_
  refine d_then ?_
  refine c_ret ?_
  replace hm := Option.some.inj hm
  subst hm
  refine d_retC () Try.results47 ?_ trivial (fun W h => ok_pre (H1 := []) (R1 := [_]) h (fun W hφ => hφ)) (.inr rfl)
  refine res_tmp ?_
  refine res_nil ?_
  exact rfl

noncomputable def m_ref03_Same (p0 : ByteArray) (p1 : ByteArray) : Option Bool :=
  (m_ref03_Shared p0 p1).bind fun x1 =>
  if 0 ≤ x1 then
    (m_ref03_Depth p0).bind fun x4 =>
    if x1 = x4 then
      (m_ref03_Depth p1).bind fun x7 =>
      some (decide (x1 = x7))
    else
      some false
  else
    some false
theorem c_ref03_Same {w0 : World} {M : Nat → Prop} {H : List (Nat × Nat × Obj)} {R : List (Nat × Row)} {φ : World → Prop} (p0 : ByteArray) (p1 : ByteArray) (r : Bool) (hm : m_ref03_Same p0 p1 = some r) :
    Cn Try.prog 56 #[.string p0, .string p1] ⟨w0, M, H, R, φ⟩ (fun x : Unit => .bool r) (fun x => True) (fun x => ⟨w0, M, H, R, φ⟩) := by
 unfold m_ref03_Same at hm
 refine cn_intro (fn := Try.f56) (N := 23) Try.func56 rfl Try.ntmps56 rfl ?_
 refine c_seq ?_
 refine c_region ?_
 refine g_v rfl r_assign ?_
 refine g_nil ?_
 refine d_then ?_
 refine c_seq ?_
 refine c_region ?_
 refine g_v rfl r_move ?_
 refine g_v rfl r_move ?_
 replace hm := bnd hm
 obtain ⟨x1, hx2, hm⟩ := hm
 refine g_cn ⟨w0, M, _, _, φ⟩ (fun _ h => h) Try.call59 rfl rfl (c_ref03_Shared p0 p1 _ hx2) (fun _ _ => ?_)
 refine g_v rfl r_assign ?_
 refine g_nil ?_
 refine d_then ?_
 refine c_seq ?_
 refine c_region ?_
 refine g_v rfl r_move ?_
 refine g_v rfl (r_geq rfl rfl) ?_
 refine g_v rfl r_move ?_
 refine g_if rfl rfl rfl rfl rfl (fun h3 => ?_) (fun h3 => ?_)
 ·
  replace hm := ite_t hm (of_decide_eq_true h3)
  refine g_v rfl r_move ?_
  refine g_do rfl rfl rfl rfl rfl h3 ?_
  refine g_v rfl r_move ?_
  refine g_do rfl rfl rfl rfl rfl h3 ?_
  replace hm := bnd hm
  obtain ⟨x4, hx5, hm⟩ := hm
  refine g_cn ⟨w0, M, _, _, φ⟩ (fun _ h => h) Try.call47 rfl rfl (c_ref03_Depth p0 _ hx5) (fun _ _ => ?_)
  refine g_do rfl rfl rfl rfl rfl h3 ?_
  refine g_v rfl (r_eql rfl rfl) ?_
  refine g_v rfl (r_pick1 rfl h3) ?_
  refine g_v rfl r_move ?_
  refine g_if rfl rfl rfl rfl rfl (fun h6 => ?_) (fun h6 => ?_)
  ·
   replace hm := ite_t hm (of_decide_eq_true h6)
   refine g_v rfl r_move ?_
   refine g_do rfl rfl rfl rfl rfl h6 ?_
   refine g_v rfl r_move ?_
   refine g_do rfl rfl rfl rfl rfl h6 ?_
   replace hm := bnd hm
   obtain ⟨x7, hx8, hm⟩ := hm
   refine g_cn ⟨w0, M, _, _, φ⟩ (fun _ h => h) Try.call47 rfl rfl (c_ref03_Depth p1 _ hx8) (fun _ _ => ?_)
   refine g_do rfl rfl rfl rfl rfl h6 ?_
   refine g_v rfl (r_eql rfl rfl) ?_
   refine g_v rfl (r_pick1 rfl h6) ?_
   refine g_v rfl r_assign ?_
   refine g_nil ?_
   refine d_then ?_
   refine c_flat [(4, .bool (decide (x1 = x7)))] ⟨rfl, trivial⟩ (fun u => ?_)
   refine c_sta ⟨w0, M, H, R, φ⟩ (fun _ h => h) ?_
   refine c_ret ?_
   replace hm := Option.some.inj hm
   subst hm
   refine d_retC () Try.results56 ?_ trivial (fun W h => ok_pre (H1 := []) (R1 := []) h (fun W hφ => hφ)) (.inr rfl)
   refine res_tmp ?_
   refine res_nil ?_
   exact rfl
  ·
   replace hm := ite_f hm (of_decide_eq_false h6)
   refine g_no rfl rfl rfl rfl rfl h6 ?_
   refine g_no rfl rfl rfl rfl rfl h6 ?_
   refine g_no rfl rfl rfl rfl rfl h6 ?_
   refine g_v rfl (r_pick0 rfl h6) ?_
   refine g_v rfl r_assign ?_
   refine g_nil ?_
   refine d_then ?_
   refine c_flat [(4, .bool false)] ⟨rfl, trivial⟩ (fun u => ?_)
   refine c_sta ⟨w0, M, H, R, φ⟩ (fun _ h => h) ?_
   refine c_ret ?_
   replace hm := Option.some.inj hm
   subst hm
   refine d_retC () Try.results56 ?_ trivial (fun W h => ok_pre (H1 := []) (R1 := []) h (fun W hφ => hφ)) (.inr rfl)
   refine res_tmp ?_
   refine res_nil ?_
   exact rfl
 ·
  replace hm := ite_f hm (of_decide_eq_false h3)
  refine g_no rfl rfl rfl rfl rfl h3 ?_
  refine g_no rfl rfl rfl rfl rfl h3 ?_
  refine g_no rfl rfl rfl rfl rfl h3 ?_
  refine g_v rfl (r_pick0 rfl h3) ?_
  refine g_v rfl r_move ?_
  refine g_no rfl rfl rfl rfl rfl rfl ?_
  refine g_no rfl rfl rfl rfl rfl rfl ?_
  refine g_no rfl rfl rfl rfl rfl rfl ?_
  refine g_no rfl rfl rfl rfl rfl rfl ?_
  refine g_v rfl (r_pick0 rfl rfl) ?_
  refine g_v rfl r_assign ?_
  refine g_nil ?_
  refine d_then ?_
  refine c_flat [(4, .bool false)] ⟨rfl, trivial⟩ (fun u => ?_)
  refine c_sta ⟨w0, M, H, R, φ⟩ (fun _ h => h) ?_
  refine c_ret ?_
  replace hm := Option.some.inj hm
  subst hm
  refine d_retC () Try.results56 ?_ trivial (fun W h => ok_pre (H1 := []) (R1 := []) h (fun W hφ => hφ)) (.inr rfl)
  refine res_tmp ?_
  refine res_nil ?_
  exact rfl

noncomputable def m_ref03_Under (p0 : ByteArray) (p1 : ByteArray) : Option Bool :=
  (m_ref03_Shared p0 p1).bind fun x1 =>
  if 0 ≤ x1 then
    (m_ref03_Depth p1).bind fun x4 =>
    some (decide (x1 = x4))
  else
    some false
theorem c_ref03_Under {w0 : World} {M : Nat → Prop} {H : List (Nat × Nat × Obj)} {R : List (Nat × Row)} {φ : World → Prop} (p0 : ByteArray) (p1 : ByteArray) (r : Bool) (hm : m_ref03_Under p0 p1 = some r) :
    Cn Try.prog 57 #[.string p0, .string p1] ⟨w0, M, H, R, φ⟩ (fun x : Unit => .bool r) (fun x => True) (fun x => ⟨w0, M, H, R, φ⟩) := by
 unfold m_ref03_Under at hm
 refine cn_intro (fn := Try.f57) (N := 17) Try.func57 rfl Try.ntmps57 rfl ?_
 refine c_seq ?_
 refine c_region ?_
 refine g_v rfl r_assign ?_
 refine g_nil ?_
 refine d_then ?_
 refine c_seq ?_
 refine c_region ?_
 refine g_v rfl r_move ?_
 refine g_v rfl r_move ?_
 replace hm := bnd hm
 obtain ⟨x1, hx2, hm⟩ := hm
 refine g_cn ⟨w0, M, _, _, φ⟩ (fun _ h => h) Try.call59 rfl rfl (c_ref03_Shared p0 p1 _ hx2) (fun _ _ => ?_)
 refine g_v rfl r_assign ?_
 refine g_nil ?_
 refine d_then ?_
 refine c_seq ?_
 refine c_region ?_
 refine g_v rfl r_move ?_
 refine g_v rfl (r_geq rfl rfl) ?_
 refine g_v rfl r_move ?_
 refine g_if rfl rfl rfl rfl rfl (fun h3 => ?_) (fun h3 => ?_)
 ·
  replace hm := ite_t hm (of_decide_eq_true h3)
  refine g_v rfl r_move ?_
  refine g_do rfl rfl rfl rfl rfl h3 ?_
  refine g_v rfl r_move ?_
  refine g_do rfl rfl rfl rfl rfl h3 ?_
  replace hm := bnd hm
  obtain ⟨x4, hx5, hm⟩ := hm
  refine g_cn ⟨w0, M, _, _, φ⟩ (fun _ h => h) Try.call47 rfl rfl (c_ref03_Depth p1 _ hx5) (fun _ _ => ?_)
  refine g_do rfl rfl rfl rfl rfl h3 ?_
  refine g_v rfl (r_eql rfl rfl) ?_
  refine g_v rfl (r_pick1 rfl h3) ?_
  refine g_v rfl r_assign ?_
  refine g_nil ?_
  refine d_then ?_
  refine c_flat [(4, .bool (decide (x1 = x4)))] ⟨rfl, trivial⟩ (fun u => ?_)
  refine c_sta ⟨w0, M, H, R, φ⟩ (fun _ h => h) ?_
  refine c_ret ?_
  replace hm := Option.some.inj hm
  subst hm
  refine d_retC () Try.results57 ?_ trivial (fun W h => ok_pre (H1 := []) (R1 := []) h (fun W hφ => hφ)) (.inr rfl)
  refine res_tmp ?_
  refine res_nil ?_
  exact rfl
 ·
  replace hm := ite_f hm (of_decide_eq_false h3)
  refine g_no rfl rfl rfl rfl rfl h3 ?_
  refine g_no rfl rfl rfl rfl rfl h3 ?_
  refine g_no rfl rfl rfl rfl rfl h3 ?_
  refine g_v rfl (r_pick0 rfl h3) ?_
  refine g_v rfl r_assign ?_
  refine g_nil ?_
  refine d_then ?_
  refine c_flat [(4, .bool false)] ⟨rfl, trivial⟩ (fun u => ?_)
  refine c_sta ⟨w0, M, H, R, φ⟩ (fun _ h => h) ?_
  refine c_ret ?_
  replace hm := Option.some.inj hm
  subst hm
  refine d_retC () Try.results57 ?_ trivial (fun W h => ok_pre (H1 := []) (R1 := []) h (fun W hφ => hφ)) (.inr rfl)
  refine res_tmp ?_
  refine res_nil ?_
  exact rfl

noncomputable def m_ref03_Make_j1  (s98 : ByteArray) : Option (ByteArray × Int) :=
  if 254 < (s98.size : Int) then
    some ((⟨#[]⟩ : ByteArray), 11)
  else
    (sadd s98 (strOfNums [0])).bind fun s101 =>
    some (s101, 0)
noncomputable def m_ref03_Make_s2 (p0 : List ByteArray) (s149 : ByteArray) (i150 : Int) : Option ((ByteArray × Int) ⊕ (ByteArray ⊕ (ByteArray × Int))) :=
  if i150 < (p0.length : Int) then
    (at_ p0 i150).bind fun x200 =>
    if (x200.size : Int) < 1 then
      some (.inr (.inr ((⟨#[]⟩ : ByteArray), 10)))
    else
      (at_ p0 i150).bind fun x205 =>
      if 63 < (x205.size : Int) then
        some (.inr (.inr ((⟨#[]⟩ : ByteArray), 10)))
      else
        if (s149.size : Int) ≤ 255 then
          (at_ p0 i150).bind fun x233 =>
          (at_ p0 i150).bind fun x237 =>
          (sadd s149 (strOfNums [IntKind.u8.wrap (x233.size : Int)])).bind fun s242 =>
          (sadd s242 x237).bind fun s243 =>
          some (.inl (s243, w64 (i150 + 1)))
        else
          some (.inl (s149, w64 (i150 + 1)))
  else
    some (.inr (.inl s149))
noncomputable def m_ref03_Make (p0 : List ByteArray) : Option (ByteArray × Int) :=
  (loop (fun s => m_ref03_Make_s2 p0 s.1 s.2) ((⟨#[]⟩ : ByteArray), 0)).bind fun e => Sum.elim (fun e => m_ref03_Make_j1 e) (fun x => some x) e
theorem c_ref03_Make {w0 : World} {M : Nat → Prop} {H : List (Nat × Nat × Obj)} {R : List (Nat × Row)} {φ : World → Prop} (p0 : List ByteArray) (Ap0_0 : Option Addr) (cp0_0 : Nat) (hcp0_0 : p0.length ≤ cp0_0) (fp0_0 : ∀ W, (Sta.mk w0 M H R φ).ok W → Cl W Ap0_0 (p0.flatMap (fun x : ByteArray => [Value.string x]))) (r : ByteArray × Int) (hm : m_ref03_Make p0 = some r) :
    Cn Try.prog 41 #[.slice Ap0_0 p0.length cp0_0] ⟨w0, M, H, R, φ⟩ (fun x : Unit => .tuple #[.string r.1, .int .i64 r.2]) (fun x => True) (fun x => ⟨w0, M, H, R, φ⟩) := by
 unfold m_ref03_Make at hm
 refine cn_intro (fn := Try.f41) (N := 51) Try.func41 rfl Try.ntmps41 rfl ?_
 refine c_seq ?_
 refine c_region ?_
 refine g_v rfl r_assign ?_
 refine g_v rfl r_assign ?_
 refine g_nil ?_
 refine d_then ?_
 refine c_seq ?_
 refine c_region ?_
 refine g_v rfl r_assign ?_
 refine g_nil ?_
 refine d_then ?_
 refine c_seq ?_
 refine c_seq ?_
 refine c_region ?_
 refine g_v rfl r_assign ?_
 refine g_nil ?_
 refine d_then ?_
 refine c_cut (ι := ByteArray) [4] (fun s98 => [(4, .string s98)]) (fun s98 => ⟨w0, M, H, R, φ⟩) (fun s98 => m_ref03_Make_j1 s98 = some r) ?_ (fun s98 u hm => ?_)
 ·
  refine c_block ?_
  replace hm := bnd hm
  obtain ⟨out2, hl2, hr2⟩ := hm
  obtain ⟨n198', hl2⟩ := loop_lp hl2
  refine c_loopU (ι := Nat × ByteArray × Int) [0, 4, 5] (fun ⟨n198, s149, i150⟩ => [(4, .string s149), (5, .int .i64 i150)]) (fun ⟨n198, s149, i150⟩ => ⟨w0, M, H, R, φ⟩) (fun ⟨n198, s149, i150⟩ => Lp (fun s => m_ref03_Make_s2 p0 s.1 s.2) n198 (s149, i150) out2) (fun ⟨n198, s149, i150⟩ => n198) (n198', (⟨#[]⟩ : ByteArray), 0) hl2 ⟨rfl, rfl, rfl, trivial⟩ (fun W h => h.phi (fun W hφ => hφ)) (fun ⟨n198, s149, i150⟩ u hlp => ?_)
  obtain ⟨o2, hm, hnx2⟩ := lp_step hlp
  clear hlp
  replace hm : m_ref03_Make_s2 p0 s149 i150 = some o2 := hm
  unfold m_ref03_Make_s2 at hm
  refine c_flat [(0, .slice Ap0_0 p0.length cp0_0), (4, .string s149), (5, .int .i64 i150)] ⟨rfl, rfl, rfl, trivial⟩ (fun u => ?_)
  refine c_sta ⟨w0, M, H, R, φ⟩ (fun _ h => h) ?_
  refine c_seq ?_
  refine c_seq ?_
  refine c_region ?_
  refine g_v rfl r_move ?_
  refine g_v rfl r_move ?_
  refine g_v rfl (r_lenL Try.underlying44 rfl) ?_
  refine g_v rfl (r_lss rfl rfl) ?_
  refine g_nil ?_
  refine d_then ?_
  refine c_cond rfl (fun h199 => ?_) (fun h199 => ?_)
  ·
   replace hm := ite_t hm (of_decide_eq_true h199)
   refine c_skip ?_
   refine d_then ?_
   refine c_seq ?_
   refine c_block ?_
   refine c_seq ?_
   refine c_seq ?_
   refine c_region ?_
   refine g_v rfl r_move ?_
   refine g_v rfl r_move ?_
   replace hm := bnd hm
   obtain ⟨x200, hx200, hm⟩ := hm
   refine g_know _ (fun W hS => cl_at (p := (Sta.mk w0 M H R φ).ok) (sz := 1) (fun _ => rfl) (by decide) (ok_pre (H1 := []) (R1 := []) hS (fun W h => h)) fp0_0 hx200) ?_
   rintro ⟨ad201, hA203, f202⟩
   refine g_v rfl (r_ix Try.underlying44 Try.sizeOf9 rfl hA203 rfl hx200) ?_
   refine g_v rfl (r_ld rfl Try.isAgg9 (fun W hS => Cl.head (f202 W (ok_pre (H1 := []) (R1 := []) hS (fun W h => h))))) ?_
   refine g_v rfl (r_len Try.underlying9 rfl) ?_
   refine g_v rfl (r_lss rfl rfl) ?_
   refine g_v rfl r_move ?_
   refine g_if rfl rfl rfl rfl rfl (fun h204 => ?_) (fun h204 => ?_)
   ·
    replace hm := ite_f hm (of_decide_eq_false h204)
    refine g_v rfl r_move ?_
    refine g_do rfl rfl rfl rfl rfl h204 ?_
    refine g_v rfl r_move ?_
    refine g_do rfl rfl rfl rfl rfl h204 ?_
    replace hm := bnd hm
    obtain ⟨x205, hx205, hm⟩ := hm
    refine g_know _ (fun W hS => cl_at (p := (Sta.mk w0 M H R φ).ok) (sz := 1) (fun _ => rfl) (by decide) (ok_pre (H1 := []) (R1 := []) hS (fun W h => h)) fp0_0 hx205) ?_
    rintro ⟨ad206, hA208, f207⟩
    refine g_v rfl (r_ix Try.underlying44 Try.sizeOf9 rfl hA208 rfl hx205) ?_
    refine g_do rfl rfl rfl rfl rfl h204 ?_
    refine g_v rfl (r_ld rfl Try.isAgg9 (fun W hS => Cl.head (f207 W (ok_pre (H1 := []) (R1 := []) hS (fun W h => h))))) ?_
    refine g_do rfl rfl rfl rfl rfl h204 ?_
    refine g_v rfl (r_len Try.underlying9 rfl) ?_
    refine g_do rfl rfl rfl rfl rfl h204 ?_
    refine g_v rfl (r_gtr rfl rfl) ?_
    refine g_v rfl (r_pick0 rfl h204) ?_
    refine g_nil ?_
    refine d_then ?_
    refine c_flat [(0, .slice Ap0_0 p0.length cp0_0), (4, .string s149), (5, .int .i64 i150), (25, .bool (decide (63 < (x205.size : Int))))] ⟨rfl, rfl, rfl, rfl, trivial⟩ (fun u => ?_)
    refine c_sta ⟨w0, M, H, R, φ⟩ (fun _ h => h) ?_
    refine c_cond rfl (fun h209 => ?_) (fun h209 => ?_)
    ·
     replace hm := ite_t hm (of_decide_eq_true h209)
     refine c_seq ?_
     refine c_region ?_
     refine g_v rfl r_assign ?_
     refine g_v rfl r_assign ?_
     refine g_nil ?_
     refine d_then ?_
     refine c_ret ?_
     refine d_ret_then ?_
     refine d_ret_block ?_
     refine d_ret_then ?_
     refine d_ret_then ?_
     refine d_ret_block ?_
     refine d_ret_then ?_
     refine d_ret_then ?_
     replace hm := nx_out (C := (fun e => Sum.elim (fun e => m_ref03_Make_j1 e) (fun x => some x) e = some r)) hm hnx2 hr2
     replace hm : some ((⟨#[]⟩ : ByteArray), 10) = some r := hm
     replace hm := Option.some.inj hm
     subst hm
     refine d_retC () Try.results41 ?_ trivial (fun W h => ok_pre (H1 := []) (R1 := []) h (fun W hφ => hφ)) (.inr rfl)
     refine res_tmp ?_
     refine res_tmp ?_
     refine res_nil ?_
     exact rfl
    ·
     replace hm := ite_f hm (of_decide_eq_false h209)
     refine c_skip ?_
     refine d_then ?_
     refine c_seq ?_
     refine c_region ?_
     refine g_v rfl r_move ?_
     refine g_v rfl (r_len Try.underlying9 rfl) ?_
     refine g_v rfl (r_leq rfl rfl) ?_
     refine g_nil ?_
     refine d_then ?_
     refine c_cond rfl (fun h210 => ?_) (fun h210 => ?_)
     ·
      replace hm := ite_t hm (of_decide_eq_true h210)
      refine ga_start (n := 16) ⟨w0, M, H, R, φ⟩ [] #[false, false, false, false, false, false, false, false, false, false, false, false, false, false, false, false] (fun W h => h.phi (fun W hφ => hφ)) mixed rfl rfl ?_
      refine ga_v (i := 0) #[true, false, false, false, false, false, false, false, false, false, false, false, false, false, false, false] rfl (by kernel_rfl) (fun _ _ _ _ h => h) rfl (r_move) ?_
      refine ga_v (i := 1) #[true, true, false, false, false, false, false, false, false, false, false, false, false, false, false, false] rfl (by kernel_rfl) (fun _ _ _ _ h => h) rfl (r_move) ?_
      refine ga_v (i := 2) #[true, true, true, false, false, false, false, false, false, false, false, false, false, false, false, false] rfl (by kernel_rfl) (fun _ _ _ _ h => h) rfl (r_move) ?_
      replace hm := bnd hm
      obtain ⟨x233, hx233, hm⟩ := hm
      refine ga_know _ (fun W hS => cl_at (p := (Sta.mk w0 M H R φ).ok) (sz := 1) (fun _ => rfl) (by decide) (ok_pre (H1 := []) (R1 := []) hS (fun W h => h)) fp0_0 hx233) ?_
      rintro ⟨ad234, hA236, f235⟩
      refine ga_v (i := 3) #[true, true, true, true, false, false, false, false, false, false, false, false, false, false, false, false] rfl (by kernel_rfl) (fun _ _ _ _ h => h) rfl (r_ix Try.underlying44 Try.sizeOf9 rfl hA236 rfl hx233) ?_
      refine ga_v (i := 4) #[true, true, true, true, true, false, false, false, false, false, false, false, false, false, false, false] rfl (by kernel_rfl) (fun _ _ _ _ h => h) rfl (r_ld rfl Try.isAgg9 (fun W hS => Cl.head (f235 W (ok_pre (H1 := []) (R1 := []) hS (fun W h => h))))) ?_
      refine ga_v (i := 5) #[true, true, true, true, true, true, false, false, false, false, false, false, false, false, false, false] rfl (by kernel_rfl) (fun _ _ _ _ h => h) rfl (r_len Try.underlying9 rfl) ?_
      refine ga_v (i := 6) #[true, true, true, true, true, true, true, false, false, false, false, false, false, false, false, false] rfl (by kernel_rfl) (fun _ _ _ _ h => h) rfl (r_conv Try.underlying3 Try.underlying5 rfl rfl) ?_
      refine ga_v (i := 10) #[true, true, true, true, true, true, true, false, false, false, true, false, false, false, false, false] rfl (by kernel_rfl) (fun _ _ _ _ h => h) rfl (r_move) ?_
      refine ga_v (i := 11) #[true, true, true, true, true, true, true, false, false, false, true, true, false, false, false, false] rfl (by kernel_rfl) (fun _ _ _ _ h => h) rfl (r_move) ?_
      replace hm := bnd hm
      obtain ⟨x237, hx237, hm⟩ := hm
      refine ga_know _ (fun W hS => cl_at (p := (Sta.mk w0 M H R φ).ok) (sz := 1) (fun _ => rfl) (by decide) (ok_pre (H1 := []) (R1 := []) hS (fun W h => h)) fp0_0 hx237) ?_
      rintro ⟨ad238, hA240, f239⟩
      refine ga_v (i := 12) #[true, true, true, true, true, true, true, false, false, false, true, true, true, false, false, false] rfl (by kernel_rfl) (fun _ _ _ _ h => h) rfl (r_ix Try.underlying44 Try.sizeOf9 rfl hA240 rfl hx237) ?_
      refine ga_v (i := 13) #[true, true, true, true, true, true, true, false, false, false, true, true, true, true, false, false] rfl (by kernel_rfl) (fun _ _ _ _ h => h) rfl (r_ld rfl Try.isAgg9 (fun W hS => Cl.head (f239 W (ok_pre (H1 := []) (R1 := []) hS (fun W h => h))))) ?_
      refine ga_e (i := 7) #[true, true, true, true, true, true, true, true, false, false, true, true, true, true, false, false] rfl (by kernel_rfl) (by decide) rfl  (e_lit (tag := 100360) (l := [IntKind.u8.wrap (x233.size : Int)]) (enc := (fun x : Int => [Value.int .u8 x])) (sz := 1) rfl Try.underlying58 (lit5_1 _) rfl rfl (fun _ => rfl)) (fun g241 W _ h => (h.dropR (t := 100360) rfl).phi (fun W hφ => hφ)) (fun g241 _ => ?_)
      refine ga_r (i := 8) #[true, true, true, true, true, true, true, true, true, false, true, true, true, true, false, false] rfl (by kernel_rfl) (by decide) rfl (r_textE Try.underlying58 Try.underlying5 Try.underlying9 rfl (fun W hS => rowCl (tag := 100360) rfl W hS)) ?_
      replace hm := bnd hm
      obtain ⟨s242, hs242, hm⟩ := hm
      refine ga_r (i := 9) #[true, true, true, true, true, true, true, true, true, true, true, true, true, true, false, false] rfl (by kernel_rfl) (by decide) rfl (r_addT rfl rfl hs242) ?_
      replace hm := bnd hm
      obtain ⟨s243, hs243, hm⟩ := hm
      refine ga_r (i := 14) #[true, true, true, true, true, true, true, true, true, true, true, true, true, true, true, false] rfl (by kernel_rfl) (by decide) rfl (r_addT rfl rfl hs243) ?_
      refine ga_r (i := 15) #[true, true, true, true, true, true, true, true, true, true, true, true, true, true, true, true] rfl (by kernel_rfl) (by decide) rfl (r_assign) ?_
      refine ga_done (by kernel_rfl) ?_
      refine d_normal_block ?_
      refine d_then ?_
      refine c_flat [(0, .slice Ap0_0 p0.length cp0_0), (4, .string s243), (5, .int .i64 i150)] ⟨rfl, rfl, rfl, trivial⟩ (fun u => ?_)
      refine c_sta ⟨w0, M, H, (100360, ⟨.slice (some ⟨g241, 0, none⟩) [IntKind.u8.wrap (x233.size : Int)].length 1, 5, 1, [IntKind.u8.wrap (x233.size : Int)].length, [IntKind.u8.wrap (x233.size : Int)].flatMap (fun x : Int => [Value.int .u8 x])⟩) :: R, φ⟩ (fun _ h => h) ?_
      refine c_region ?_
      refine g_v rfl r_move ?_
      refine g_v rfl (r_add rfl rfl rfl) ?_
      refine g_v rfl r_assign ?_
      refine g_nil ?_
      obtain ⟨n244, hn244, hlp⟩ := nx_inl hm hnx2
      exact d_round (n244, s243, w64 (i150 + 1)) hlp hn244 ⟨rfl, rfl, rfl, trivial⟩ (fun W h => (h.dropR (t := 100360) rfl).phi (fun W hφ => hφ))
     ·
      replace hm := ite_f hm (of_decide_eq_false h210)
      refine c_skip ?_
      refine d_normal_block ?_
      refine d_then ?_
      refine c_region ?_
      refine g_v rfl r_move ?_
      refine g_v rfl (r_add rfl rfl rfl) ?_
      refine g_v rfl r_assign ?_
      refine g_nil ?_
      obtain ⟨n245, hn245, hlp⟩ := nx_inl hm hnx2
      exact d_round (n245, s149, w64 (i150 + 1)) hlp hn245 ⟨rfl, rfl, rfl, trivial⟩ (fun W h => h.phi (fun W hφ => hφ))
   ·
    replace hm := ite_t hm (of_decide_eq_true h204)
    refine g_no rfl rfl rfl rfl rfl h204 ?_
    refine g_no rfl rfl rfl rfl rfl h204 ?_
    refine g_no rfl rfl rfl rfl rfl h204 ?_
    refine g_no rfl rfl rfl rfl rfl h204 ?_
    refine g_no rfl rfl rfl rfl rfl h204 ?_
    refine g_v rfl (r_pick1 rfl h204) ?_
    refine g_nil ?_
    refine d_then ?_
    refine c_flat [(0, .slice Ap0_0 p0.length cp0_0), (4, .string s149), (5, .int .i64 i150), (25, .bool true)] ⟨rfl, rfl, rfl, rfl, trivial⟩ (fun u => ?_)
    refine c_sta ⟨w0, M, H, R, φ⟩ (fun _ h => h) ?_
    refine c_cond1 rfl rfl ?_
    refine c_seq ?_
    refine c_region ?_
    refine g_v rfl r_assign ?_
    refine g_v rfl r_assign ?_
    refine g_nil ?_
    refine d_then ?_
    refine c_ret ?_
    refine d_ret_then ?_
    refine d_ret_block ?_
    refine d_ret_then ?_
    refine d_ret_then ?_
    refine d_ret_block ?_
    refine d_ret_then ?_
    refine d_ret_then ?_
    replace hm := nx_out (C := (fun e => Sum.elim (fun e => m_ref03_Make_j1 e) (fun x => some x) e = some r)) hm hnx2 hr2
    replace hm : some ((⟨#[]⟩ : ByteArray), 10) = some r := hm
    replace hm := Option.some.inj hm
    subst hm
    refine d_retC () Try.results41 ?_ trivial (fun W h => ok_pre (H1 := []) (R1 := []) h (fun W hφ => hφ)) (.inr rfl)
    refine res_tmp ?_
    refine res_tmp ?_
    refine res_nil ?_
    exact rfl
  ·
   replace hm := ite_f hm (of_decide_eq_false h199)
   refine c_exit ?_
   refine d_exit_then ?_
   refine d_exit_then ?_
   refine d_exit_block ?_
   replace hm := nx_out (C := (fun e => Sum.elim (fun e => m_ref03_Make_j1 e) (fun x => some x) e = some r)) hm hnx2 hr2
   exact d_round s149 hm Nat.zero_lt_one ⟨rfl, trivial⟩ (fun W h => h.phi (fun W hφ => hφ))
 ·
  unfold m_ref03_Make_j1 at hm
  refine d_flat [(4, .string s98)] ⟨rfl, trivial⟩ (fun u => ?_)
  refine d_sta ⟨w0, M, H, R, φ⟩ (fun _ h => h) ?_
  refine d_then ?_
  refine c_seq ?_
  refine c_seq ?_
  refine c_region ?_
  refine g_v rfl r_move ?_
  refine g_v rfl (r_len Try.underlying9 rfl) ?_
  refine g_v rfl (r_gtr rfl rfl) ?_
  refine g_nil ?_
  refine d_then ?_
  refine c_cond rfl (fun h99 => ?_) (fun h99 => ?_)
  ·
   replace hm := ite_t hm (of_decide_eq_true h99)
   refine c_seq ?_
   refine c_region ?_
   refine g_v rfl r_assign ?_
   refine g_v rfl r_assign ?_
   refine g_nil ?_
   refine d_then ?_
   refine c_ret ?_
   refine d_ret_then ?_
   replace hm := Option.some.inj hm
   subst hm
   refine d_retC () Try.results41 ?_ trivial (fun W h => ok_pre (H1 := []) (R1 := []) h (fun W hφ => hφ)) (.inr rfl)
   refine res_tmp ?_
   refine res_tmp ?_
   refine res_nil ?_
   exact rfl
  ·
   replace hm := ite_f hm (of_decide_eq_false h99)
   refine c_skip ?_
   refine d_then ?_
   refine c_seq ?_
   refine c_region ?_
   refine g_v rfl r_move ?_
   refine g_e rfl (e_lit (tag := 100480) (l := [0]) (enc := (fun x : Int => [Value.int .u8 x])) (sz := 1) rfl Try.underlying58 (lit5_1 _) rfl rfl (fun _ => rfl)) (fun g100 _ => ?_)
   refine g_v rfl (r_textE Try.underlying58 Try.underlying5 Try.underlying9 rfl (fun W hS => rowCl (tag := 100480) rfl W hS)) ?_
   replace hm := bnd hm
   obtain ⟨s101, hs101, hm⟩ := hm
   refine g_v rfl (r_addT rfl rfl hs101) ?_
   refine g_v rfl r_assign ?_
   refine g_v rfl r_assign ?_
   refine g_nil ?_
   refine d_then ?_
   refine c_flat [(2, .string s101), (3, .int .i64 0)] ⟨rfl, rfl, trivial⟩ (fun u => ?_)
   refine c_sta ⟨w0, M, H, (100480, ⟨.slice (some ⟨g100, 0, none⟩) [0].length 1, 5, 1, [0].length, [0].flatMap (fun x : Int => [Value.int .u8 x])⟩) :: R, φ⟩ (fun _ h => h) ?_
   refine c_ret ?_
   replace hm := Option.some.inj hm
   subst hm
   refine d_retC () Try.results41 ?_ trivial (fun W h => ok_pre (H1 := []) (R1 := [_]) h (fun W hφ => hφ)) (.inr rfl)
   refine res_tmp ?_
   refine res_tmp ?_
   refine res_nil ?_
   exact rfl

noncomputable def m_ref03_Cut_j2  (l16 : List ByteArray) : Option ByteArray :=
  (m_ref03_Make l16).bind fun (z24 : ByteArray × Int) =>
  some z24.1
noncomputable def m_ref03_Cut_j1 (x1 : List ByteArray) (i10 : Int) : Option ByteArray :=
  if i10 < (x1.length : Int) then
    (cutLo x1 (w64 ((x1.length : Int) - i10))).bind fun l29 =>
    m_ref03_Cut_j2 l29
  else
    m_ref03_Cut_j2 x1
noncomputable def m_ref03_Cut (p0 : ByteArray) (p1 : Int) : Option ByteArray :=
  (m_ref03_Labels p0).bind fun (z7 : (List ByteArray) × Int) =>
  if z7.2 ≠ 0 then
    some (⟨#[]⟩ : ByteArray)
  else
    if p1 < 0 then
      m_ref03_Cut_j1 z7.1 0
    else
      m_ref03_Cut_j1 z7.1 p1
theorem c_ref03_Cut {w0 : World} {M : Nat → Prop} {H : List (Nat × Nat × Obj)} {R : List (Nat × Row)} {φ : World → Prop} (p0 : ByteArray) (p1 : Int) (r : ByteArray) (hm : m_ref03_Cut p0 p1 = some r) :
    Cn Try.prog 58 #[.string p0, .int .i64 p1] ⟨w0, M, H, R, φ⟩ (fun x : Unit => .string r) (fun x => True) (fun x => ⟨w0, M, H, R, φ⟩) := by
 unfold m_ref03_Cut at hm
 refine cn_intro (fn := Try.f58) (N := 34) Try.func58 rfl Try.ntmps58 rfl ?_
 refine c_seq ?_
 refine c_region ?_
 refine g_v rfl r_assign ?_
 refine g_nil ?_
 refine d_then ?_
 refine c_seq ?_
 refine c_region ?_
 refine g_v rfl r_move ?_
 replace hm := bnd hm
 obtain ⟨⟨x1, x2⟩, hx3, hm⟩ := hm
 refine g_cn ⟨w0, M, _, _, φ⟩ (fun _ h => h) Try.call43 rfl rfl (c_ref03_Labels p0 _ hx3) (fun ⟨A4, c5⟩ hc5 => ?_)
 refine g_sta _ (fun W h => (ok_frontR (t := 2000) (t' := 100110) h rfl)) ?_
 refine g_v rfl r_move ?_
 refine g_v rfl (r_extract rfl rfl) ?_
 refine g_v rfl (r_extract rfl rfl) ?_
 refine g_v rfl r_assign ?_
 refine g_v rfl r_assign ?_
 refine g_nil ?_
 refine d_then ?_
 refine c_seq ?_
 refine c_seq ?_
 refine c_region ?_
 refine g_v rfl r_move ?_
 refine g_v rfl (r_neq rfl rfl) ?_
 refine g_nil ?_
 refine d_then ?_
 refine c_flat [(1, .int .i64 p1), (5, .slice A4 x1.length c5), (15, .bool (decide (x2 ≠ 0)))] ⟨rfl, rfl, rfl, trivial⟩ (fun u => ?_)
 refine c_sta ⟨w0, M, H, (100110, ⟨.slice A4 x1.length c5, 9, 1, x1.length, x1.flatMap (fun x : ByteArray => [Value.string x])⟩) :: R, φ⟩ (fun _ h => h) ?_
 refine c_cond rfl (fun h8 => ?_) (fun h8 => ?_)
 ·
  replace hm := ite_t hm (of_decide_eq_true h8)
  refine c_seq ?_
  refine c_region ?_
  refine g_v rfl r_assign ?_
  refine g_nil ?_
  refine d_then ?_
  refine c_ret ?_
  refine d_ret_then ?_
  replace hm := Option.some.inj hm
  subst hm
  refine d_retC () Try.results58 ?_ trivial (fun W h => ok_pre (H1 := []) (R1 := [_]) h (fun W hφ => hφ)) (.inr rfl)
  refine res_tmp ?_
  refine res_nil ?_
  exact rfl
 ·
  replace hm := ite_f hm (of_decide_eq_false h8)
  refine c_skip ?_
  refine d_then ?_
  refine c_seq ?_
  refine c_cut (ι := Int) [1, 5] (fun i10 => [(1, .int .i64 i10)]) (fun i10 => ⟨w0, M, H, (100110, ⟨.slice A4 x1.length c5, 9, 1, x1.length, x1.flatMap (fun x : ByteArray => [Value.string x])⟩) :: R, φ⟩) (fun i10 => m_ref03_Cut_j1 x1 i10 = some r) ?_ (fun i10 u hm => ?_)
  ·
   refine c_seq ?_
   refine c_region ?_
   refine g_v rfl r_move ?_
   refine g_v rfl (r_lss rfl rfl) ?_
   refine g_nil ?_
   refine d_then ?_
   refine c_cond rfl (fun h32 => ?_) (fun h32 => ?_)
   ·
    replace hm := ite_t hm (of_decide_eq_true h32)
    refine c_region ?_
    refine g_v rfl r_assign ?_
    refine g_nil ?_
    exact d_round 0 hm Nat.zero_lt_one ⟨rfl, rfl, trivial⟩ (fun W h => h.phi (fun W hφ => hφ))
   ·
    replace hm := ite_f hm (of_decide_eq_false h32)
    refine c_skip ?_
    exact d_round p1 hm Nat.zero_lt_one ⟨rfl, rfl, trivial⟩ (fun W h => h.phi (fun W hφ => hφ))
  ·
   unfold m_ref03_Cut_j1 at hm
   refine d_flat [(1, .int .i64 i10), (5, .slice A4 x1.length c5)] ⟨rfl, rfl, trivial⟩ (fun u => ?_)
   refine d_sta ⟨w0, M, H, (100110, ⟨.slice A4 x1.length c5, 9, 1, x1.length, x1.flatMap (fun x : ByteArray => [Value.string x])⟩) :: R, φ⟩ (fun _ h => h) ?_
   refine d_then ?_
   refine c_seq ?_
   refine c_cut (ι := (List ByteArray) × Option Addr × Nat) [5] (fun ⟨l16, A17, c18⟩ => [(5, .slice A17 l16.length c18)]) (fun ⟨l16, A17, c18⟩ => ⟨w0, M, H, R, fun W => φ W ∧ Cl W A17 (l16.flatMap (fun x : ByteArray => [Value.string x]))⟩) (fun ⟨l16, A17, c18⟩ => m_ref03_Cut_j2 l16 = some r ∧ l16.length ≤ c18) ?_ (fun ⟨l16, A17, c18⟩ u ⟨hm, hc18⟩ => ?_)
   ·
    refine c_seq ?_
    refine c_region ?_
    refine g_v rfl r_move ?_
    refine g_v rfl r_move ?_
    refine g_v rfl (r_lenL Try.underlying44 rfl) ?_
    refine g_v rfl (r_lss rfl rfl) ?_
    refine g_nil ?_
    refine d_then ?_
    refine c_cond rfl (fun h25 => ?_) (fun h25 => ?_)
    ·
     replace hm := ite_t hm (of_decide_eq_true h25)
     refine c_region ?_
     refine g_v rfl r_move ?_
     refine g_v rfl r_move ?_
     refine g_v rfl (r_lenL Try.underlying44 rfl) ?_
     refine g_v rfl r_move ?_
     refine g_v rfl (r_sub rfl rfl rfl) ?_
     refine g_shut (tag := 100110) rfl (fun φ26 q26' => ?_)
     have q26 : ∀ W, φ26 W → φ W := fun W h => (q26' W h).1
     have f27 := fun (W : World) (h : φ26 W) => (q26' W h).2
     replace hm := bnd hm
     obtain ⟨l29, hl29, hm⟩ := hm
     have f28 := fun (W : World) (h : φ26 W) => cl_cutLo (enc := (fun x : ByteArray => [Value.string x])) (sz := 1) (c := c5) (fun _ => rfl) hc5 hl29 (f27 W h)
     refine g_v rfl (r_lcutLo Try.underlying44 Try.sizeOf9 rfl hc5 rfl hl29) ?_
     refine g_v rfl r_assign ?_
     refine g_nil ?_
     exact d_round (l29, if c5 = (w64 ((x1.length : Int) - i10)).toNat then A4 else A4.map (·.add ((w64 ((x1.length : Int) - i10)).toNat * 1)), c5 - (w64 ((x1.length : Int) - i10)).toNat) ⟨hm, (cutLo_len hc5 hl29)⟩ Nat.zero_lt_one ⟨rfl, trivial⟩ (fun W h => h.phi (fun W hφ => ⟨(q26 _ hφ), (fun W h => f28 W h) W hφ⟩))
    ·
     replace hm := ite_f hm (of_decide_eq_false h25)
     refine c_skip ?_
     refine d_shut (tag := 100110) rfl (fun φ30 q30' => ?_)
     have q30 : ∀ W, φ30 W → φ W := fun W h => (q30' W h).1
     have f31 := fun (W : World) (h : φ30 W) => (q30' W h).2
     exact d_round (x1, A4, c5) ⟨hm, hc5⟩ Nat.zero_lt_one ⟨rfl, trivial⟩ (fun W h => h.phi (fun W hφ => ⟨(q30 _ hφ), (fun W h => f31 W h) W hφ⟩))
   ·
    unfold m_ref03_Cut_j2 at hm
    refine d_abs (fun φ20 q20' => ?_)
    have q20 : ∀ W, φ20 W → φ W := fun W h => (q20' W h).1
    have f19 := fun (W : World) (h : φ20 W) => (q20' W h).2
    refine d_flat [(5, .slice A17 l16.length c18)] ⟨rfl, trivial⟩ (fun u => ?_)
    refine d_sta ⟨w0, M, H, R, φ20⟩ (fun _ h => h) ?_
    refine d_then ?_
    refine c_seq ?_
    refine c_region ?_
    refine g_v rfl r_move ?_
    replace hm := bnd hm
    obtain ⟨⟨x21, x22⟩, hx23, hm⟩ := hm
    refine g_cn ⟨w0, M, _, _, φ20⟩ (fun _ h => h) Try.call41 rfl rfl (c_ref03_Make l16 A17 c18 hc18 (fun W hS => f19 W hS.now) _ hx23) (fun _ _ => ?_)
    refine g_v rfl r_move ?_
    refine g_v rfl (r_extract rfl rfl) ?_
    refine g_v rfl (r_extract rfl rfl) ?_
    refine g_v rfl r_assign ?_
    refine g_v rfl r_assign ?_
    refine g_nil ?_
    refine d_then ?_
    refine c_seq ?_
    refine c_region ?_
    refine g_v rfl r_move ?_
    refine g_v rfl r_assign ?_
    refine g_nil ?_
    refine d_then ?_
    refine c_flat [(4, .string x21)] ⟨rfl, trivial⟩ (fun u => ?_)
    refine c_sta ⟨w0, M, H, R, φ20⟩ (fun _ h => h) ?_
    refine c_ret ?_
    replace hm := Option.some.inj hm
    subst hm
    refine d_retC () Try.results58 ?_ trivial (fun W h => ok_pre (H1 := []) (R1 := []) h (fun W hφ => (q20 _ hφ))) (.inr rfl)
    refine res_tmp ?_
    refine res_nil ?_
    exact rfl

noncomputable def m_cmp_isNaN_80 (p0 : ByteArray) : Option Bool :=
  some (!(decide (p0 = p0)))
theorem c_cmp_isNaN_80 {w0 : World} {M : Nat → Prop} {H : List (Nat × Nat × Obj)} {R : List (Nat × Row)} {φ : World → Prop} (p0 : ByteArray) (r : Bool) (hm : m_cmp_isNaN_80 p0 = some r) :
    Cn Try.prog 80 #[.string p0] ⟨w0, M, H, R, φ⟩ (fun x : Unit => .bool r) (fun x => True) (fun x => ⟨w0, M, H, R, φ⟩) := by
 unfold m_cmp_isNaN_80 at hm
 refine cn_intro (fn := Try.f80) (N := 6) Try.func80 rfl Try.ntmps80 rfl ?_
 refine c_seq ?_
 refine c_region ?_
 refine g_v rfl r_assign ?_
 refine g_nil ?_
 refine d_then ?_
 refine c_seq ?_
 refine c_region ?_
 refine g_v rfl r_move ?_
 refine g_v rfl r_move ?_
 refine g_v rfl (r_neqT rfl rfl) ?_
 refine g_v rfl r_assign ?_
 refine g_nil ?_
 refine d_then ?_
 refine c_ret ?_
 replace hm := Option.some.inj hm
 subst hm
 refine d_retC () Try.results80 ?_ trivial (fun W h => ok_pre (H1 := []) (R1 := []) h (fun W hφ => hφ)) (.inr rfl)
 refine res_tmp ?_
 refine res_nil ?_
 exact rfl

noncomputable def m_cmp_Compare_78 (p0 : ByteArray) (p1 : ByteArray) : Option Int :=
  (m_cmp_isNaN_80 p0).bind fun x1 =>
  (m_cmp_isNaN_80 p1).bind fun x3 =>
  if x1 = true then
    if x3 = true then
      some 0
    else
      some (-1)
  else
    if x3 = true then
      some 1
    else
      if (sless p0 p1) = true then
        some (-1)
      else
        if (!(sless p0 p1 || decide (p0 = p1))) = true then
          some 1
        else
          some 0
theorem c_cmp_Compare_78 {w0 : World} {M : Nat → Prop} {H : List (Nat × Nat × Obj)} {R : List (Nat × Row)} {φ : World → Prop} (p0 : ByteArray) (p1 : ByteArray) (r : Int) (hm : m_cmp_Compare_78 p0 p1 = some r) :
    Cn Try.prog 78 #[.string p0, .string p1] ⟨w0, M, H, R, φ⟩ (fun x : Unit => .int .i64 r) (fun x => True) (fun x => ⟨w0, M, H, R, φ⟩) := by
 unfold m_cmp_Compare_78 at hm
 refine cn_intro (fn := Try.f78) (N := 20) Try.func78 rfl Try.ntmps78 rfl ?_
 refine c_seq ?_
 refine c_region ?_
 refine g_v rfl r_assign ?_
 refine g_nil ?_
 refine d_then ?_
 refine c_seq ?_
 refine c_region ?_
 refine g_v rfl r_move ?_
 replace hm := bnd hm
 obtain ⟨x1, hx2, hm⟩ := hm
 refine g_cn ⟨w0, M, _, _, φ⟩ (fun _ h => h) Try.call80 rfl rfl (c_cmp_isNaN_80 p0 _ hx2) (fun _ _ => ?_)
 refine g_v rfl r_assign ?_
 refine g_nil ?_
 refine d_then ?_
 refine c_seq ?_
 refine c_region ?_
 refine g_v rfl r_move ?_
 replace hm := bnd hm
 obtain ⟨x3, hx4, hm⟩ := hm
 refine g_cn ⟨w0, M, _, _, φ⟩ (fun _ h => h) Try.call80 rfl rfl (c_cmp_isNaN_80 p1 _ hx4) (fun _ _ => ?_)
 refine g_v rfl r_assign ?_
 refine g_nil ?_
 refine d_then ?_
 refine c_seq ?_
 refine c_seq ?_
 refine c_region ?_
 refine g_v rfl r_move ?_
 refine g_nil ?_
 refine d_then ?_
 refine c_cond rfl (fun h5 => ?_) (fun h5 => ?_)
 ·
  replace hm := ite_t hm h5
  refine c_seq ?_
  refine c_seq ?_
  refine c_region ?_
  refine g_v rfl r_move ?_
  refine g_nil ?_
  refine d_then ?_
  refine c_flat [(12, .bool x3)] ⟨rfl, trivial⟩ (fun u => ?_)
  refine c_sta ⟨w0, M, H, R, φ⟩ (fun _ h => h) ?_
  refine c_cond rfl (fun h6 => ?_) (fun h6 => ?_)
  ·
   replace hm := ite_t hm h6
   refine c_seq ?_
   refine c_region ?_
   refine g_v rfl r_assign ?_
   refine g_nil ?_
   refine d_then ?_
   refine c_ret ?_
   refine d_ret_then ?_
   refine d_ret_then ?_
   replace hm := Option.some.inj hm
   subst hm
   refine d_retC () Try.results78 ?_ trivial (fun W h => ok_pre (H1 := []) (R1 := []) h (fun W hφ => hφ)) (.inr rfl)
   refine res_tmp ?_
   refine res_nil ?_
   exact rfl
  ·
   replace hm := ite_f hm (bool_nt h6)
   refine c_skip ?_
   refine d_then ?_
   refine c_seq ?_
   refine c_region ?_
   refine g_v rfl r_assign ?_
   refine g_nil ?_
   refine d_then ?_
   refine c_ret ?_
   refine d_ret_then ?_
   replace hm := Option.some.inj hm
   subst hm
   refine d_retC () Try.results78 ?_ trivial (fun W h => ok_pre (H1 := []) (R1 := []) h (fun W hφ => hφ)) (.inr rfl)
   refine res_tmp ?_
   refine res_nil ?_
   exact rfl
 ·
  replace hm := ite_f hm (bool_nt h5)
  refine c_skip ?_
  refine d_then ?_
  refine c_seq ?_
  refine c_seq ?_
  refine c_region ?_
  refine g_v rfl r_move ?_
  refine g_nil ?_
  refine d_then ?_
  refine c_flat [(0, .string p0), (1, .string p1), (13, .bool x3)] ⟨rfl, rfl, rfl, trivial⟩ (fun u => ?_)
  refine c_sta ⟨w0, M, H, R, φ⟩ (fun _ h => h) ?_
  refine c_cond rfl (fun h7 => ?_) (fun h7 => ?_)
  ·
   replace hm := ite_t hm h7
   refine c_seq ?_
   refine c_region ?_
   refine g_v rfl r_assign ?_
   refine g_nil ?_
   refine d_then ?_
   refine c_ret ?_
   refine d_ret_then ?_
   replace hm := Option.some.inj hm
   subst hm
   refine d_retC () Try.results78 ?_ trivial (fun W h => ok_pre (H1 := []) (R1 := []) h (fun W hφ => hφ)) (.inr rfl)
   refine res_tmp ?_
   refine res_nil ?_
   exact rfl
  ·
   replace hm := ite_f hm (bool_nt h7)
   refine c_skip ?_
   refine d_then ?_
   refine c_seq ?_
   refine c_seq ?_
   refine c_region ?_
   refine g_v rfl r_move ?_
   refine g_v rfl r_move ?_
   refine g_v rfl (r_lssT rfl rfl) ?_
   refine g_nil ?_
   refine d_then ?_
   refine c_cond rfl (fun h8 => ?_) (fun h8 => ?_)
   ·
    replace hm := ite_t hm h8
    refine c_seq ?_
    refine c_region ?_
    refine g_v rfl r_assign ?_
    refine g_nil ?_
    refine d_then ?_
    refine c_ret ?_
    refine d_ret_then ?_
    replace hm := Option.some.inj hm
    subst hm
    refine d_retC () Try.results78 ?_ trivial (fun W h => ok_pre (H1 := []) (R1 := []) h (fun W hφ => hφ)) (.inr rfl)
    refine res_tmp ?_
    refine res_nil ?_
    exact rfl
   ·
    replace hm := ite_f hm (bool_nt h8)
    refine c_skip ?_
    refine d_then ?_
    refine c_seq ?_
    refine c_seq ?_
    refine c_region ?_
    refine g_v rfl r_move ?_
    refine g_v rfl r_move ?_
    refine g_v rfl (r_gtrT rfl rfl) ?_
    refine g_nil ?_
    refine d_then ?_
    refine c_cond rfl (fun h9 => ?_) (fun h9 => ?_)
    ·
     replace hm := ite_t hm h9
     refine c_seq ?_
     refine c_region ?_
     refine g_v rfl r_assign ?_
     refine g_nil ?_
     refine d_then ?_
     refine c_ret ?_
     refine d_ret_then ?_
     replace hm := Option.some.inj hm
     subst hm
     refine d_retC () Try.results78 ?_ trivial (fun W h => ok_pre (H1 := []) (R1 := []) h (fun W hφ => hφ)) (.inr rfl)
     refine res_tmp ?_
     refine res_nil ?_
     exact rfl
    ·
     replace hm := ite_f hm (bool_nt h9)
     refine c_skip ?_
     refine d_then ?_
     refine c_seq ?_
     refine c_region ?_
     refine g_v rfl r_assign ?_
     refine g_nil ?_
     refine d_then ?_
     refine c_ret ?_
     replace hm := Option.some.inj hm
     subst hm
     refine d_retC () Try.results78 ?_ trivial (fun W h => ok_pre (H1 := []) (R1 := []) h (fun W hφ => hφ)) (.inr rfl)
     refine res_tmp ?_
     refine res_nil ?_
     exact rfl

noncomputable def m_slices_Compare_73_j1 (p0 : List ByteArray) (p1 : List ByteArray) : Option Int :=
  if (p0.length : Int) < (p1.length : Int) then
    some (-1)
  else
    some 0
noncomputable def m_slices_Compare_73_s2 (p0 : List ByteArray) (p1 : List ByteArray) (i46 : Int) : Option (Int ⊕ (Unit ⊕ Int)) :=
  if i46 < (p0.length : Int) then
    (at_ p0 i46).bind fun x63 =>
    if (p1.length : Int) ≤ i46 then
      some (.inr (.inr 1))
    else
      (at_ p1 i46).bind fun x68 =>
      (m_cmp_Compare_78 x63 x68).bind fun x72 =>
      if x72 ≠ 0 then
        some (.inr (.inr x72))
      else
        some (.inl (w64 (i46 + 1)))
  else
    some (.inr (.inl ()))
noncomputable def m_slices_Compare_73 (p0 : List ByteArray) (p1 : List ByteArray) : Option Int :=
  (loop (fun s => m_slices_Compare_73_s2 p0 p1 s) 0).bind fun e => Sum.elim (fun e => m_slices_Compare_73_j1 p0 p1) (fun x => some x) e
theorem c_slices_Compare_73 {w0 : World} {M : Nat → Prop} {H : List (Nat × Nat × Obj)} {R : List (Nat × Row)} {φ : World → Prop} (p0 : List ByteArray) (Ap0_0 : Option Addr) (cp0_0 : Nat) (hcp0_0 : p0.length ≤ cp0_0) (fp0_0 : ∀ W, (Sta.mk w0 M H R φ).ok W → Cl W Ap0_0 (p0.flatMap (fun x : ByteArray => [Value.string x]))) (p1 : List ByteArray) (Ap1_0 : Option Addr) (cp1_0 : Nat) (hcp1_0 : p1.length ≤ cp1_0) (fp1_0 : ∀ W, (Sta.mk w0 M H R φ).ok W → Cl W Ap1_0 (p1.flatMap (fun x : ByteArray => [Value.string x]))) (r : Int) (hm : m_slices_Compare_73 p0 p1 = some r) :
    Cn Try.prog 73 #[.slice Ap0_0 p0.length cp0_0, .slice Ap1_0 p1.length cp1_0] ⟨w0, M, H, R, φ⟩ (fun x : Unit => .int .i64 r) (fun x => True) (fun x => ⟨w0, M, H, R, φ⟩) := by
 unfold m_slices_Compare_73 at hm
 refine cn_intro (fn := Try.f73) (N := 36) Try.func73 rfl Try.ntmps73 rfl ?_
 refine c_seq ?_
 refine c_region ?_
 refine g_v rfl r_assign ?_
 refine g_nil ?_
 refine d_then ?_
 refine c_seq ?_
 refine c_seq ?_
 refine c_region ?_
 refine g_v rfl r_move ?_
 refine g_v rfl (r_lenL Try.underlying44 rfl) ?_
 refine g_v rfl r_move ?_
 refine g_nil ?_
 refine d_then ?_
 refine c_cut (ι := Unit) [0, 1] (fun _ => []) (fun _ => ⟨w0, M, H, R, φ⟩) (fun _ => m_slices_Compare_73_j1 p0 p1 = some r) ?_ (fun _ u hm => ?_)
 ·
  refine c_block ?_
  replace hm := bnd hm
  obtain ⟨out2, hl2, hr2⟩ := hm
  obtain ⟨n61', hl2⟩ := loop_lp hl2
  refine c_loopU (ι := Nat × Int) [0, 1, 9, 10, 11] (fun ⟨n61, i46⟩ => [(11, .int .i64 i46)]) (fun ⟨n61, i46⟩ => ⟨w0, M, H, R, φ⟩) (fun ⟨n61, i46⟩ => Lp (fun s => m_slices_Compare_73_s2 p0 p1 s) n61 i46 out2) (fun ⟨n61, i46⟩ => n61) (n61', 0) hl2 ⟨rfl, rfl, rfl, rfl, rfl, trivial⟩ (fun W h => h.phi (fun W hφ => hφ)) (fun ⟨n61, i46⟩ u hlp => ?_)
  obtain ⟨o2, hm, hnx2⟩ := lp_step hlp
  clear hlp
  replace hm : m_slices_Compare_73_s2 p0 p1 i46 = some o2 := hm
  unfold m_slices_Compare_73_s2 at hm
  refine c_flat [(0, .slice Ap0_0 p0.length cp0_0), (1, .slice Ap1_0 p1.length cp1_0), (9, .slice Ap0_0 p0.length cp0_0), (10, .int .i64 (p0.length : Int)), (11, .int .i64 i46)] ⟨rfl, rfl, rfl, rfl, rfl, trivial⟩ (fun u => ?_)
  refine c_sta ⟨w0, M, H, R, φ⟩ (fun _ h => h) ?_
  refine c_seq ?_
  refine c_region ?_
  refine g_v rfl (r_lss rfl rfl) ?_
  refine g_nil ?_
  refine d_then ?_
  refine c_seq ?_
  refine c_cond rfl (fun h62 => ?_) (fun h62 => ?_)
  ·
   replace hm := ite_t hm (of_decide_eq_true h62)
   refine c_skip ?_
   refine d_then ?_
   refine c_seq ?_
   refine c_block ?_
   refine c_seq ?_
   refine c_region ?_
   refine g_v rfl r_move ?_
   replace hm := bnd hm
   obtain ⟨x63, hx63, hm⟩ := hm
   refine g_know _ (fun W hS => cl_at (p := (Sta.mk w0 M H R φ).ok) (sz := 1) (fun _ => rfl) (by decide) (ok_pre (H1 := []) (R1 := []) hS (fun W h => h)) fp0_0 hx63) ?_
   rintro ⟨ad64, hA66, f65⟩
   refine g_v rfl (r_ix Try.underlying44 Try.sizeOf9 rfl hA66 rfl hx63) ?_
   refine g_v rfl (r_ld rfl Try.isAgg9 (fun W hS => Cl.head (f65 W (ok_pre (H1 := []) (R1 := []) hS (fun W h => h))))) ?_
   refine g_v rfl r_assign ?_
   refine g_v rfl r_assign ?_
   refine g_nil ?_
   refine d_then ?_
   refine c_seq ?_
   refine c_seq ?_
   refine c_region ?_
   refine g_v rfl r_move ?_
   refine g_v rfl r_move ?_
   refine g_v rfl (r_lenL Try.underlying44 rfl) ?_
   refine g_v rfl (r_geq rfl rfl) ?_
   refine g_nil ?_
   refine d_then ?_
   refine c_flat [(0, .slice Ap0_0 p0.length cp0_0), (1, .slice Ap1_0 p1.length cp1_0), (5, .int .i64 i46), (6, .string x63), (9, .slice Ap0_0 p0.length cp0_0), (10, .int .i64 (p0.length : Int)), (11, .int .i64 i46), (19, .bool (decide ((p1.length : Int) ≤ i46)))] ⟨rfl, rfl, rfl, rfl, rfl, rfl, rfl, rfl, trivial⟩ (fun u => ?_)
   refine c_sta ⟨w0, M, H, R, φ⟩ (fun _ h => h) ?_
   refine c_cond rfl (fun h67 => ?_) (fun h67 => ?_)
   ·
    replace hm := ite_t hm (of_decide_eq_true h67)
    refine c_seq ?_
    refine c_region ?_
    refine g_v rfl r_assign ?_
    refine g_nil ?_
    refine d_then ?_
    refine c_ret ?_
    refine d_ret_then ?_
    refine d_ret_block ?_
    refine d_ret_then ?_
    refine d_ret_then ?_
    refine d_ret_block ?_
    refine d_ret_then ?_
    refine d_ret_then ?_
    replace hm := nx_out (C := (fun e => Sum.elim (fun e => m_slices_Compare_73_j1 p0 p1) (fun x => some x) e = some r)) hm hnx2 hr2
    replace hm : some 1 = some r := hm
    replace hm := Option.some.inj hm
    subst hm
    refine d_retC () Try.results73 ?_ trivial (fun W h => ok_pre (H1 := []) (R1 := []) h (fun W hφ => hφ)) (.inr rfl)
    refine res_tmp ?_
    refine res_nil ?_
    exact rfl
   ·
    replace hm := ite_f hm (of_decide_eq_false h67)
    refine c_skip ?_
    refine d_then ?_
    refine c_seq ?_
    refine c_region ?_
    refine g_v rfl r_move ?_
    refine g_v rfl r_move ?_
    replace hm := bnd hm
    obtain ⟨x68, hx68, hm⟩ := hm
    refine g_know _ (fun W hS => cl_at (p := (Sta.mk w0 M H R φ).ok) (sz := 1) (fun _ => rfl) (by decide) (ok_pre (H1 := []) (R1 := []) hS (fun W h => h)) fp1_0 hx68) ?_
    rintro ⟨ad69, hA71, f70⟩
    refine g_v rfl (r_ix Try.underlying44 Try.sizeOf9 rfl hA71 rfl hx68) ?_
    refine g_v rfl (r_ld rfl Try.isAgg9 (fun W hS => Cl.head (f70 W (ok_pre (H1 := []) (R1 := []) hS (fun W h => h))))) ?_
    refine g_v rfl r_assign ?_
    refine g_nil ?_
    refine d_then ?_
    refine c_seq ?_
    refine c_region ?_
    refine g_v rfl r_move ?_
    refine g_v rfl r_move ?_
    replace hm := bnd hm
    obtain ⟨x72, hx73, hm⟩ := hm
    refine g_cn ⟨w0, M, _, _, φ⟩ (fun _ h => h) Try.call78 rfl rfl (c_cmp_Compare_78 x63 x68 _ hx73) (fun _ _ => ?_)
    refine g_v rfl r_assign ?_
    refine g_nil ?_
    refine d_then ?_
    refine c_flat [(0, .slice Ap0_0 p0.length cp0_0), (1, .slice Ap1_0 p1.length cp1_0), (8, .int .i64 x72), (9, .slice Ap0_0 p0.length cp0_0), (10, .int .i64 (p0.length : Int)), (11, .int .i64 i46)] ⟨rfl, rfl, rfl, rfl, rfl, rfl, trivial⟩ (fun u => ?_)
    refine c_sta ⟨w0, M, H, R, φ⟩ (fun _ h => h) ?_
    refine c_seq ?_
    refine c_region ?_
    refine g_v rfl r_move ?_
    refine g_v rfl (r_neq rfl rfl) ?_
    refine g_nil ?_
    refine d_then ?_
    refine c_cond rfl (fun h74 => ?_) (fun h74 => ?_)
    ·
     replace hm := ite_t hm (of_decide_eq_true h74)
     refine c_seq ?_
     refine c_region ?_
     refine g_v rfl r_move ?_
     refine g_v rfl r_assign ?_
     refine g_nil ?_
     refine d_then ?_
     refine c_ret ?_
     refine d_ret_block ?_
     refine d_ret_then ?_
     refine d_ret_then ?_
     refine d_ret_block ?_
     refine d_ret_then ?_
     refine d_ret_then ?_
     replace hm := nx_out (C := (fun e => Sum.elim (fun e => m_slices_Compare_73_j1 p0 p1) (fun x => some x) e = some r)) hm hnx2 hr2
     replace hm : some x72 = some r := hm
     replace hm := Option.some.inj hm
     subst hm
     refine d_retC () Try.results73 ?_ trivial (fun W h => ok_pre (H1 := []) (R1 := []) h (fun W hφ => hφ)) (.inr rfl)
     refine res_tmp ?_
     refine res_nil ?_
     exact rfl
    ·
     replace hm := ite_f hm (of_decide_eq_false h74)
     refine c_skip ?_
     refine d_normal_block ?_
     refine d_then ?_
     refine c_region ?_
     refine g_v rfl (r_add rfl rfl rfl) ?_
     refine g_v rfl r_move ?_
     refine g_nil ?_
     obtain ⟨n75, hn75, hlp⟩ := nx_inl hm hnx2
     exact d_round (n75, w64 (i46 + 1)) hlp hn75 ⟨rfl, rfl, rfl, rfl, rfl, trivial⟩ (fun W h => h.phi (fun W hφ => hφ))
  ·
   replace hm := ite_f hm (of_decide_eq_false h62)
   refine c_exit ?_
   refine d_exit_then ?_
   refine d_exit_then ?_
   refine d_exit_block ?_
   replace hm := nx_out (C := (fun e => Sum.elim (fun e => m_slices_Compare_73_j1 p0 p1) (fun x => some x) e = some r)) hm hnx2 hr2
   exact d_round () hm Nat.zero_lt_one ⟨rfl, rfl, trivial⟩ (fun W h => h.phi (fun W hφ => hφ))
 ·
  unfold m_slices_Compare_73_j1 at hm
  refine d_flat [(0, .slice Ap0_0 p0.length cp0_0), (1, .slice Ap1_0 p1.length cp1_0)] ⟨rfl, rfl, trivial⟩ (fun u => ?_)
  refine d_sta ⟨w0, M, H, R, φ⟩ (fun _ h => h) ?_
  refine d_then ?_
  refine c_seq ?_
  refine c_seq ?_
  refine c_region ?_
  refine g_v rfl r_move ?_
  refine g_v rfl (r_lenL Try.underlying44 rfl) ?_
  refine g_v rfl r_move ?_
  refine g_v rfl (r_lenL Try.underlying44 rfl) ?_
  refine g_v rfl (r_lss rfl rfl) ?_
  refine g_nil ?_
  refine d_then ?_
  refine c_cond rfl (fun h31 => ?_) (fun h31 => ?_)
  ·
   replace hm := ite_t hm (of_decide_eq_true h31)
   refine c_seq ?_
   refine c_region ?_
   refine g_v rfl r_assign ?_
   refine g_nil ?_
   refine d_then ?_
   refine c_ret ?_
   refine d_ret_then ?_
   replace hm := Option.some.inj hm
   subst hm
   refine d_retC () Try.results73 ?_ trivial (fun W h => ok_pre (H1 := []) (R1 := []) h (fun W hφ => hφ)) (.inr rfl)
   refine res_tmp ?_
   refine res_nil ?_
   exact rfl
  ·
   replace hm := ite_f hm (of_decide_eq_false h31)
   refine c_skip ?_
   refine d_then ?_
   refine c_seq ?_
   refine c_region ?_
   refine g_v rfl r_assign ?_
   refine g_nil ?_
   refine d_then ?_
   refine c_ret ?_
   replace hm := Option.some.inj hm
   subst hm
   refine d_retC () Try.results73 ?_ trivial (fun W h => ok_pre (H1 := []) (R1 := []) h (fun W hφ => hφ)) (.inr rfl)
   refine res_tmp ?_
   refine res_nil ?_
   exact rfl

noncomputable def m_name_Less (p0 : ByteArray) (p1 : ByteArray) : Option Bool :=
  (m_name_two p0 p1).bind fun (z11 : (List ByteArray) × (List ByteArray) × Bool) =>
  if z11.2.2 = true then
    (m_slices_Compare_73 z11.1 z11.2.1).bind fun x13 =>
    some (decide (x13 < 0))
  else
    some false
theorem c_name_Less {w0 : World} {M : Nat → Prop} {H : List (Nat × Nat × Obj)} {R : List (Nat × Row)} {φ : World → Prop} (p0 : ByteArray) (p1 : ByteArray) (r : Bool) (hm : m_name_Less p0 p1 = some r) :
    Cn Try.prog 60 #[.string p0, .string p1] ⟨w0, M, H, R, φ⟩ (fun x : Unit => .bool r) (fun x => True) (fun x => ⟨w0, M, H, R, φ⟩) := by
 unfold m_name_Less at hm
 refine cn_intro (fn := Try.f60) (N := 22) Try.func60 rfl Try.ntmps60 rfl ?_
 refine c_seq ?_
 refine c_region ?_
 refine g_v rfl r_assign ?_
 refine g_nil ?_
 refine d_then ?_
 refine c_seq ?_
 refine c_region ?_
 refine g_v rfl r_move ?_
 refine g_v rfl r_move ?_
 replace hm := bnd hm
 obtain ⟨⟨x1, x2, x3⟩, hx4, hm⟩ := hm
 refine g_cn ⟨w0, M, _, _, φ⟩ (fun _ h => h) Try.call71 rfl rfl (c_name_two p0 p1 _ hx4) (fun ⟨A5, c6, A8, c9⟩ ⟨hc6, hc9⟩ => ?_)
 refine g_sta _ (fun W h => (ok_frontR (t := 2000) (t' := 100110) (ok_frontR (t := 2001) (t' := 100111) h rfl) rfl)) ?_
 refine g_v rfl r_move ?_
 refine g_v rfl (r_extract rfl rfl) ?_
 refine g_v rfl (r_extract rfl rfl) ?_
 refine g_v rfl (r_extract rfl rfl) ?_
 refine g_v rfl r_assign ?_
 refine g_v rfl r_assign ?_
 refine g_v rfl r_assign ?_
 refine g_nil ?_
 refine d_then ?_
 refine c_flat [(5, .slice A5 x1.length c6), (6, .slice A8 x2.length c9), (7, .bool x3)] ⟨rfl, rfl, rfl, trivial⟩ (fun u => ?_)
 refine c_sta ⟨w0, M, H, (100110, ⟨.slice A5 x1.length c6, 9, 1, x1.length, x1.flatMap (fun x : ByteArray => [Value.string x])⟩) :: (100111, ⟨.slice A8 x2.length c9, 9, 1, x2.length, x2.flatMap (fun x : ByteArray => [Value.string x])⟩) :: R, φ⟩ (fun _ h => h) ?_
 refine c_seq ?_
 refine c_region ?_
 refine g_v rfl r_move ?_
 refine g_v rfl r_move ?_
 refine g_if rfl rfl rfl rfl rfl (fun h12 => ?_) (fun h12 => ?_)
 ·
  replace hm := ite_t hm h12
  refine g_v rfl r_move ?_
  refine g_do rfl rfl rfl rfl rfl h12 ?_
  refine g_v rfl r_move ?_
  refine g_do rfl rfl rfl rfl rfl h12 ?_
  replace hm := bnd hm
  obtain ⟨x13, hx14, hm⟩ := hm
  refine g_cn ⟨w0, M, _, _, φ⟩ (fun _ h => h) Try.call73 rfl rfl (c_slices_Compare_73 x1 A5 c6 hc6 (fun W hS => rowCl (tag := 100110) rfl W hS) x2 A8 c9 hc9 (fun W hS => rowCl (tag := 100111) rfl W hS) _ hx14) (fun _ _ => ?_)
  refine g_do rfl rfl rfl rfl rfl h12 ?_
  refine g_v rfl (r_lss rfl rfl) ?_
  refine g_v rfl (r_pick1 rfl h12) ?_
  refine g_v rfl r_assign ?_
  refine g_nil ?_
  refine d_then ?_
  refine c_ret ?_
  replace hm := Option.some.inj hm
  subst hm
  refine d_retC () Try.results60 ?_ trivial (fun W h => ok_pre (H1 := []) (R1 := [_, _]) h (fun W hφ => hφ)) (.inr rfl)
  refine res_tmp ?_
  refine res_nil ?_
  exact rfl
 ·
  replace hm := ite_f hm (bool_nt h12)
  refine g_no rfl rfl rfl rfl rfl h12 ?_
  refine g_no rfl rfl rfl rfl rfl h12 ?_
  refine g_no rfl rfl rfl rfl rfl h12 ?_
  refine g_v rfl (r_pick0 rfl h12) ?_
  refine g_v rfl r_assign ?_
  refine g_nil ?_
  refine d_then ?_
  refine c_ret ?_
  replace hm := Option.some.inj hm
  subst hm
  refine d_retC () Try.results60 ?_ trivial (fun W h => ok_pre (H1 := []) (R1 := [_, _]) h (fun W hφ => hφ)) (.inr rfl)
  refine res_tmp ?_
  refine res_nil ?_
  exact rfl

noncomputable def m_ref03_Less (p0 : ByteArray) (p1 : ByteArray) : Option Bool :=
  (m_ref03_Labels p0).bind fun (z7 : (List ByteArray) × Int) =>
  (m_ref03_Labels p1).bind fun (z14 : (List ByteArray) × Int) =>
  if z7.2 ≠ 0 then
    some false
  else
    if z14.2 ≠ 0 then
      some false
    else
      (m_ref03_Shared p0 p1).bind fun x17 =>
      if x17 = (z7.1.length : Int) then
        some (decide (x17 < (z14.1.length : Int)))
      else
        if x17 = (z14.1.length : Int) then
          some (decide (x17 < (z14.1.length : Int)))
        else
          (at_ z7.1 (w64 ((w64 ((z7.1.length : Int) - 1)) - x17))).bind fun x45 =>
          (at_ z14.1 (w64 ((w64 ((z14.1.length : Int) - 1)) - x17))).bind fun x49 =>
          (m_ref03_Lower x45).bind fun x53 =>
          (m_ref03_Lower x49).bind fun x55 =>
          some (sless x53 x55)
theorem c_ref03_Less {w0 : World} {M : Nat → Prop} {H : List (Nat × Nat × Obj)} {R : List (Nat × Row)} {φ : World → Prop} (p0 : ByteArray) (p1 : ByteArray) (r : Bool) (hm : m_ref03_Less p0 p1 = some r) :
    Cn Try.prog 61 #[.string p0, .string p1] ⟨w0, M, H, R, φ⟩ (fun x : Unit => .bool r) (fun x => True) (fun x => ⟨w0, M, H, R, φ⟩) := by
 unfold m_ref03_Less at hm
 refine cn_intro (fn := Try.f61) (N := 62) Try.func61 rfl Try.ntmps61 rfl ?_
 refine c_seq ?_
 refine c_region ?_
 refine g_v rfl r_assign ?_
 refine g_nil ?_
 refine d_then ?_
 refine c_seq ?_
 refine c_region ?_
 refine g_v rfl r_move ?_
 replace hm := bnd hm
 obtain ⟨⟨x1, x2⟩, hx3, hm⟩ := hm
 refine g_cn ⟨w0, M, _, _, φ⟩ (fun _ h => h) Try.call43 rfl rfl (c_ref03_Labels p0 _ hx3) (fun ⟨A4, c5⟩ hc5 => ?_)
 refine g_sta _ (fun W h => (ok_frontR (t := 2000) (t' := 100120) h rfl)) ?_
 refine g_v rfl r_move ?_
 refine g_v rfl (r_extract rfl rfl) ?_
 refine g_v rfl (r_extract rfl rfl) ?_
 refine g_v rfl r_assign ?_
 refine g_v rfl r_assign ?_
 refine g_nil ?_
 refine d_then ?_
 refine c_seq ?_
 refine c_region ?_
 refine g_v rfl r_move ?_
 replace hm := bnd hm
 obtain ⟨⟨x8, x9⟩, hx10, hm⟩ := hm
 refine g_cn ⟨w0, M, _, _, φ⟩ (fun _ h => h) Try.call43 rfl rfl (c_ref03_Labels p1 _ hx10) (fun ⟨A11, c12⟩ hc12 => ?_)
 refine g_sta _ (fun W h => (ok_frontR (t := 2000) (t' := 100170) h rfl)) ?_
 refine g_v rfl r_move ?_
 refine g_v rfl (r_extract rfl rfl) ?_
 refine g_v rfl (r_extract rfl rfl) ?_
 refine g_v rfl r_assign ?_
 refine g_v rfl r_assign ?_
 refine g_nil ?_
 refine d_then ?_
 refine c_flat [(0, .string p0), (1, .string p1), (5, .slice A4 x1.length c5), (6, .int .i64 x2), (7, .slice A11 x8.length c12), (8, .int .i64 x9)] ⟨rfl, rfl, rfl, rfl, rfl, rfl, trivial⟩ (fun u => ?_)
 refine c_sta ⟨w0, M, H, (100170, ⟨.slice A11 x8.length c12, 9, 1, x8.length, x8.flatMap (fun x : ByteArray => [Value.string x])⟩) :: (100120, ⟨.slice A4 x1.length c5, 9, 1, x1.length, x1.flatMap (fun x : ByteArray => [Value.string x])⟩) :: R, φ⟩ (fun _ h => h) ?_
 refine c_seq ?_
 refine c_seq ?_
 refine c_region ?_
 refine g_v rfl r_move ?_
 refine g_v rfl (r_neq rfl rfl) ?_
 refine g_v rfl r_move ?_
 refine g_if rfl rfl rfl rfl rfl (fun h15 => ?_) (fun h15 => ?_)
 ·
  replace hm := ite_f hm (of_decide_eq_false h15)
  refine g_v rfl r_move ?_
  refine g_do rfl rfl rfl rfl rfl h15 ?_
  refine g_v rfl (r_neq rfl rfl) ?_
  refine g_v rfl (r_pick0 rfl h15) ?_
  refine g_nil ?_
  refine d_then ?_
  refine c_cond rfl (fun h16 => ?_) (fun h16 => ?_)
  ·
   replace hm := ite_t hm (of_decide_eq_true h16)
   refine c_seq ?_
   refine c_region ?_
   refine g_v rfl r_assign ?_
   refine g_nil ?_
   refine d_then ?_
   refine c_ret ?_
   refine d_ret_then ?_
   replace hm := Option.some.inj hm
   subst hm
   refine d_retC () Try.results61 ?_ trivial (fun W h => ok_pre (H1 := []) (R1 := [_, _]) h (fun W hφ => hφ)) (.inr rfl)
   refine res_tmp ?_
   refine res_nil ?_
   exact rfl
  ·
   replace hm := ite_f hm (of_decide_eq_false h16)
   refine c_skip ?_
   refine d_then ?_
   refine c_seq ?_
   refine c_region ?_
   refine g_v rfl r_move ?_
   refine g_v rfl r_move ?_
   replace hm := bnd hm
   obtain ⟨x17, hx18, hm⟩ := hm
   refine g_cn ⟨w0, M, _, _, φ⟩ (fun _ h => h) Try.call59 rfl rfl (c_ref03_Shared p0 p1 _ hx18) (fun _ _ => ?_)
   refine g_v rfl r_assign ?_
   refine g_nil ?_
   refine d_then ?_
   refine c_flat [(5, .slice A4 x1.length c5), (7, .slice A11 x8.length c12), (9, .int .i64 x17)] ⟨rfl, rfl, rfl, trivial⟩ (fun u => ?_)
   refine c_sta ⟨w0, M, H, (100170, ⟨.slice A11 x8.length c12, 9, 1, x8.length, x8.flatMap (fun x : ByteArray => [Value.string x])⟩) :: (100120, ⟨.slice A4 x1.length c5, 9, 1, x1.length, x1.flatMap (fun x : ByteArray => [Value.string x])⟩) :: R, φ⟩ (fun _ h => h) ?_
   refine c_seq ?_
   refine c_seq ?_
   refine c_region ?_
   refine g_v rfl r_move ?_
   refine g_v rfl r_move ?_
   refine g_v rfl (r_lenL Try.underlying44 rfl) ?_
   refine g_v rfl (r_eql rfl rfl) ?_
   refine g_v rfl r_move ?_
   refine g_if rfl rfl rfl rfl rfl (fun h19 => ?_) (fun h19 => ?_)
   ·
    replace hm := ite_f hm (of_decide_eq_false h19)
    refine g_v rfl r_move ?_
    refine g_do rfl rfl rfl rfl rfl h19 ?_
    refine g_v rfl r_move ?_
    refine g_do rfl rfl rfl rfl rfl h19 ?_
    refine g_v rfl (r_lenL Try.underlying44 rfl) ?_
    refine g_do rfl rfl rfl rfl rfl h19 ?_
    refine g_v rfl (r_eql rfl rfl) ?_
    refine g_v rfl (r_pick0 rfl h19) ?_
    refine g_nil ?_
    refine d_then ?_
    refine c_flat [(5, .slice A4 x1.length c5), (7, .slice A11 x8.length c12), (9, .int .i64 x17), (38, .bool (decide (x17 = (x8.length : Int))))] ⟨rfl, rfl, rfl, rfl, trivial⟩ (fun u => ?_)
    refine c_sta ⟨w0, M, H, (100170, ⟨.slice A11 x8.length c12, 9, 1, x8.length, x8.flatMap (fun x : ByteArray => [Value.string x])⟩) :: (100120, ⟨.slice A4 x1.length c5, 9, 1, x1.length, x1.flatMap (fun x : ByteArray => [Value.string x])⟩) :: R, φ⟩ (fun _ h => h) ?_
    refine c_cond rfl (fun h20 => ?_) (fun h20 => ?_)
    ·
     replace hm := ite_t hm (of_decide_eq_true h20)
     refine c_seq ?_
     refine c_region ?_
     refine g_v rfl r_move ?_
     refine g_v rfl r_move ?_
     refine g_v rfl (r_lenL Try.underlying44 rfl) ?_
     refine g_v rfl (r_lss rfl rfl) ?_
     refine g_v rfl r_assign ?_
     refine g_nil ?_
     refine d_then ?_
     refine c_ret ?_
     refine d_ret_then ?_
     replace hm := Option.some.inj hm
     subst hm
     refine d_retC () Try.results61 ?_ trivial (fun W h => ok_pre (H1 := []) (R1 := [_, _]) h (fun W hφ => hφ)) (.inr rfl)
     refine res_tmp ?_
     refine res_nil ?_
     exact rfl
    ·
     replace hm := ite_f hm (of_decide_eq_false h20)
     refine c_skip ?_
     refine d_then ?_
     refine c_seq ?_
     refine ga_start (n := 20) ⟨w0, M, H, (100170, ⟨.slice A11 x8.length c12, 9, 1, x8.length, x8.flatMap (fun x : ByteArray => [Value.string x])⟩) :: (100120, ⟨.slice A4 x1.length c5, 9, 1, x1.length, x1.flatMap (fun x : ByteArray => [Value.string x])⟩) :: R, φ⟩ [] #[false, false, false, false, false, false, false, false, false, false, false, false, false, false, false, false, false, false, false, false] (fun W h => h.phi (fun W hφ => hφ)) mixed rfl rfl ?_
     refine ga_v (i := 0) #[true, false, false, false, false, false, false, false, false, false, false, false, false, false, false, false, false, false, false, false] rfl (by kernel_rfl) (fun _ _ _ _ h => h) rfl (r_move) ?_
     refine ga_v (i := 1) #[true, true, false, false, false, false, false, false, false, false, false, false, false, false, false, false, false, false, false, false] rfl (by kernel_rfl) (fun _ _ _ _ h => h) rfl (r_move) ?_
     refine ga_v (i := 2) #[true, true, true, false, false, false, false, false, false, false, false, false, false, false, false, false, false, false, false, false] rfl (by kernel_rfl) (fun _ _ _ _ h => h) rfl (r_lenL Try.underlying44 rfl) ?_
     refine ga_v (i := 3) #[true, true, true, true, false, false, false, false, false, false, false, false, false, false, false, false, false, false, false, false] rfl (by kernel_rfl) (fun _ _ _ _ h => h) rfl (r_sub rfl rfl rfl) ?_
     refine ga_v (i := 4) #[true, true, true, true, true, false, false, false, false, false, false, false, false, false, false, false, false, false, false, false] rfl (by kernel_rfl) (fun _ _ _ _ h => h) rfl (r_move) ?_
     refine ga_v (i := 5) #[true, true, true, true, true, true, false, false, false, false, false, false, false, false, false, false, false, false, false, false] rfl (by kernel_rfl) (fun _ _ _ _ h => h) rfl (r_sub rfl rfl rfl) ?_
     replace hm := bnd hm
     obtain ⟨x45, hx45, hm⟩ := hm
     refine ga_know _ (fun W hS => cl_at (p := (Sta.ok ⟨w0, M, H, (100170, ⟨.slice A11 x8.length c12, 9, 1, x8.length, x8.flatMap (fun x : ByteArray => [Value.string x])⟩) :: (100120, ⟨.slice A4 x1.length c5, 9, 1, x1.length, x1.flatMap (fun x : ByteArray => [Value.string x])⟩) :: R, φ⟩)) (sz := 1) (fun _ => rfl) (by decide) (hS.phi (fun W hφ => hφ)) (fun W hS => rowCl (S := ⟨w0, M, H, (100170, ⟨.slice A11 x8.length c12, 9, 1, x8.length, x8.flatMap (fun x : ByteArray => [Value.string x])⟩) :: (100120, ⟨.slice A4 x1.length c5, 9, 1, x1.length, x1.flatMap (fun x : ByteArray => [Value.string x])⟩) :: R, φ⟩) (tag := 100120) rfl W hS) hx45) ?_
     rintro ⟨ad46, hA48, f47⟩
     refine ga_v (i := 6) #[true, true, true, true, true, true, true, false, false, false, false, false, false, false, false, false, false, false, false, false] rfl (by kernel_rfl) (fun _ _ _ _ h => h) rfl (r_ix Try.underlying44 Try.sizeOf9 rfl hA48 rfl hx45) ?_
     refine ga_v (i := 7) #[true, true, true, true, true, true, true, true, false, false, false, false, false, false, false, false, false, false, false, false] rfl (by kernel_rfl) (fun _ _ _ _ h => h) rfl (r_ld rfl Try.isAgg9 (fun W hS => Cl.head (f47 W hS))) ?_
     refine ga_v (i := 9) #[true, true, true, true, true, true, true, true, false, true, false, false, false, false, false, false, false, false, false, false] rfl (by kernel_rfl) (fun _ _ _ _ h => h) rfl (r_move) ?_
     refine ga_v (i := 10) #[true, true, true, true, true, true, true, true, false, true, true, false, false, false, false, false, false, false, false, false] rfl (by kernel_rfl) (fun _ _ _ _ h => h) rfl (r_move) ?_
     refine ga_v (i := 11) #[true, true, true, true, true, true, true, true, false, true, true, true, false, false, false, false, false, false, false, false] rfl (by kernel_rfl) (fun _ _ _ _ h => h) rfl (r_lenL Try.underlying44 rfl) ?_
     refine ga_v (i := 12) #[true, true, true, true, true, true, true, true, false, true, true, true, true, false, false, false, false, false, false, false] rfl (by kernel_rfl) (fun _ _ _ _ h => h) rfl (r_sub rfl rfl rfl) ?_
     refine ga_v (i := 13) #[true, true, true, true, true, true, true, true, false, true, true, true, true, true, false, false, false, false, false, false] rfl (by kernel_rfl) (fun _ _ _ _ h => h) rfl (r_move) ?_
     refine ga_v (i := 14) #[true, true, true, true, true, true, true, true, false, true, true, true, true, true, true, false, false, false, false, false] rfl (by kernel_rfl) (fun _ _ _ _ h => h) rfl (r_sub rfl rfl rfl) ?_
     replace hm := bnd hm
     obtain ⟨x49, hx49, hm⟩ := hm
     refine ga_know _ (fun W hS => cl_at (p := (Sta.ok ⟨w0, M, H, (100170, ⟨.slice A11 x8.length c12, 9, 1, x8.length, x8.flatMap (fun x : ByteArray => [Value.string x])⟩) :: (100120, ⟨.slice A4 x1.length c5, 9, 1, x1.length, x1.flatMap (fun x : ByteArray => [Value.string x])⟩) :: R, φ⟩)) (sz := 1) (fun _ => rfl) (by decide) (hS.phi (fun W hφ => hφ)) (fun W hS => rowCl (S := ⟨w0, M, H, (100170, ⟨.slice A11 x8.length c12, 9, 1, x8.length, x8.flatMap (fun x : ByteArray => [Value.string x])⟩) :: (100120, ⟨.slice A4 x1.length c5, 9, 1, x1.length, x1.flatMap (fun x : ByteArray => [Value.string x])⟩) :: R, φ⟩) (tag := 100170) rfl W hS) hx49) ?_
     rintro ⟨ad50, hA52, f51⟩
     refine ga_v (i := 15) #[true, true, true, true, true, true, true, true, false, true, true, true, true, true, true, true, false, false, false, false] rfl (by kernel_rfl) (fun _ _ _ _ h => h) rfl (r_ix Try.underlying44 Try.sizeOf9 rfl hA52 rfl hx49) ?_
     refine ga_v (i := 16) #[true, true, true, true, true, true, true, true, false, true, true, true, true, true, true, true, true, false, false, false] rfl (by kernel_rfl) (fun _ _ _ _ h => h) rfl (r_ld rfl Try.isAgg9 (fun W hS => Cl.head (f51 W hS))) ?_
     replace hm := bnd hm
     obtain ⟨x53, hx54, hm⟩ := hm
     refine ga_cn (first := #[]) (i := 8) #[true, true, true, true, true, true, true, true, true, true, true, true, true, true, true, true, true, false, false, false] rfl (by kernel_rfl) (by decide)  ⟨w0, M, _, _, φ⟩ (fun _ h => h) Try.call54 rfl rfl rfl (c_ref03_Lower x45 _ hx54) (fun _ W _ h => h.phi (fun W hφ => hφ)) (fun _ _ => ?_)
     replace hm := bnd hm
     obtain ⟨x55, hx56, hm⟩ := hm
     refine ga_cn (first := #[]) (i := 17) #[true, true, true, true, true, true, true, true, true, true, true, true, true, true, true, true, true, true, false, false] rfl (by kernel_rfl) (by decide)  ⟨w0, M, _, _, φ⟩ (fun _ h => h) Try.call54 rfl rfl rfl (c_ref03_Lower x49 _ hx56) (fun _ W _ h => h.phi (fun W hφ => hφ)) (fun _ _ => ?_)
     refine ga_r (i := 18) #[true, true, true, true, true, true, true, true, true, true, true, true, true, true, true, true, true, true, true, false] rfl (by kernel_rfl) (by decide) rfl (r_lssT rfl rfl) ?_
     refine ga_r (i := 19) #[true, true, true, true, true, true, true, true, true, true, true, true, true, true, true, true, true, true, true, true] rfl (by kernel_rfl) (by decide) rfl (r_assign) ?_
     refine ga_done (by kernel_rfl) ?_
     refine d_then ?_
     refine c_flat [(4, .bool (sless x53 x55))] ⟨rfl, trivial⟩ (fun u => ?_)
     refine c_sta ⟨w0, M, H, (100170, ⟨.slice A11 x8.length c12, 9, 1, x8.length, x8.flatMap (fun x : ByteArray => [Value.string x])⟩) :: (100120, ⟨.slice A4 x1.length c5, 9, 1, x1.length, x1.flatMap (fun x : ByteArray => [Value.string x])⟩) :: R, φ⟩ (fun _ h => h) ?_
     refine c_ret ?_
     replace hm := Option.some.inj hm
     subst hm
     refine d_retC () Try.results61 ?_ trivial (fun W h => ok_pre (H1 := []) (R1 := [_, _]) h (fun W hφ => hφ)) (.inr rfl)
     refine res_tmp ?_
     refine res_nil ?_
     exact rfl
   ·
    replace hm := ite_t hm (of_decide_eq_true h19)
    refine g_no rfl rfl rfl rfl rfl h19 ?_
    refine g_no rfl rfl rfl rfl rfl h19 ?_
    refine g_no rfl rfl rfl rfl rfl h19 ?_
    refine g_v rfl (r_pick1 rfl h19) ?_
    refine g_nil ?_
    refine d_then ?_
    refine c_cond1 rfl rfl ?_
    refine c_seq ?_
    refine c_region ?_
    refine g_v rfl r_move ?_
    refine g_v rfl r_move ?_
    refine g_v rfl (r_lenL Try.underlying44 rfl) ?_
    refine g_v rfl (r_lss rfl rfl) ?_
    refine g_v rfl r_assign ?_
    refine g_nil ?_
    refine d_then ?_
    refine c_flat [(4, .bool (decide (x17 < (x8.length : Int))))] ⟨rfl, trivial⟩ (fun u => ?_)
    refine c_sta ⟨w0, M, H, (100170, ⟨.slice A11 x8.length c12, 9, 1, x8.length, x8.flatMap (fun x : ByteArray => [Value.string x])⟩) :: (100120, ⟨.slice A4 x1.length c5, 9, 1, x1.length, x1.flatMap (fun x : ByteArray => [Value.string x])⟩) :: R, φ⟩ (fun _ h => h) ?_
    refine c_ret ?_
    refine d_ret_then ?_
    replace hm := Option.some.inj hm
    subst hm
    refine d_retC () Try.results61 ?_ trivial (fun W h => ok_pre (H1 := []) (R1 := [_, _]) h (fun W hφ => hφ)) (.inr rfl)
    refine res_tmp ?_
    refine res_nil ?_
    exact rfl
 ·
  replace hm := ite_t hm (of_decide_eq_true h15)
  refine g_no rfl rfl rfl rfl rfl h15 ?_
  refine g_v rfl (r_pick1 rfl h15) ?_
  refine g_nil ?_
  refine d_then ?_
  refine c_cond1 rfl rfl ?_
  refine c_seq ?_
  refine c_region ?_
  refine g_v rfl r_assign ?_
  refine g_nil ?_
  refine d_then ?_
  refine c_ret ?_
  refine d_ret_then ?_
  replace hm := Option.some.inj hm
  subst hm
  refine d_retC () Try.results61 ?_ trivial (fun W h => ok_pre (H1 := []) (R1 := [_, _]) h (fun W hφ => hφ)) (.inr rfl)
  refine res_tmp ?_
  refine res_nil ?_
  exact rfl

noncomputable def m_law03_NameHolds (p0 : ByteArray) (p1 : ByteArray) (p2 : Int) : Option Bool :=
  (m_law03_awake).bind fun x1 =>
  (m_law03_short p0 300).bind fun x3 =>
  (m_law03_short p1 300).bind fun x5 =>
  if x1 = true then
    (m_name_Lower x3).bind fun x8 =>
    (m_ref03_Lower x3).bind fun x10 =>
    if x8 = x10 then
      (m_name_Same x3 x5).bind fun x13 =>
      (m_ref03_Same x3 x5).bind fun x15 =>
      if (x13 == x15) = true then
        (m_name_Under x3 x5).bind fun x18 =>
        (m_ref03_Under x3 x5).bind fun x20 =>
        if (x18 == x20) = true then
          (m_name_Cut x3 p2).bind fun x23 =>
          (m_ref03_Cut x3 p2).bind fun x25 =>
          if x23 = x25 then
            (m_name_Shared x3 x5).bind fun x28 =>
            (m_ref03_Shared x3 x5).bind fun x30 =>
            if x28 = x30 then
              (m_name_Less x3 x5).bind fun x33 =>
              (m_ref03_Less x3 x5).bind fun x35 =>
              some (x33 == x35)
            else
              some false
          else
            some false
        else
          some false
      else
        some false
    else
      some false
  else
    some false
theorem c_law03_NameHolds {w0 : World} {M : Nat → Prop} {H : List (Nat × Nat × Obj)} {R : List (Nat × Row)} {φ : World → Prop} (p0 : ByteArray) (p1 : ByteArray) (p2 : Int) (r : Bool) (hm : m_law03_NameHolds p0 p1 p2 = some r) :
    Cn Try.prog 12 #[.string p0, .string p1, .int .i64 p2] ⟨w0, M, H, R, φ⟩ (fun x : Unit => .bool r) (fun x => True) (fun x => ⟨w0, M, H, R, φ⟩) := by
 unfold m_law03_NameHolds at hm
 refine cn_intro (fn := Try.f12) (N := 66) Try.func12 rfl Try.ntmps12 rfl ?_
 refine c_seq ?_
 refine c_region ?_
 refine g_v rfl r_assign ?_
 refine g_nil ?_
 refine d_then ?_
 refine c_seq ?_
 refine c_region ?_
 replace hm := bnd hm
 obtain ⟨x1, hx2, hm⟩ := hm
 refine g_cn ⟨w0, M, _, _, φ⟩ (fun _ h => h) Try.call37 rfl rfl (c_law03_awake  _ hx2) (fun _ _ => ?_)
 refine g_v rfl r_assign ?_
 refine g_nil ?_
 refine d_then ?_
 refine c_seq ?_
 refine c_region ?_
 refine g_v rfl r_move ?_
 replace hm := bnd hm
 obtain ⟨x3, hx4, hm⟩ := hm
 refine g_cn ⟨w0, M, _, _, φ⟩ (fun _ h => h) Try.call38 rfl rfl (c_law03_short p0 300 _ hx4) (fun _ _ => ?_)
 refine g_v rfl r_assign ?_
 refine g_nil ?_
 refine d_then ?_
 refine c_seq ?_
 refine c_region ?_
 refine g_v rfl r_move ?_
 replace hm := bnd hm
 obtain ⟨x5, hx6, hm⟩ := hm
 refine g_cn ⟨w0, M, _, _, φ⟩ (fun _ h => h) Try.call38 rfl rfl (c_law03_short p1 300 _ hx6) (fun _ _ => ?_)
 refine g_v rfl r_assign ?_
 refine g_nil ?_
 refine d_then ?_
 refine c_flat [(0, .string x3), (1, .string x5), (2, .int .i64 p2), (7, .bool x1)] ⟨rfl, rfl, rfl, rfl, trivial⟩ (fun u => ?_)
 refine c_sta ⟨w0, M, H, R, φ⟩ (fun _ h => h) ?_
 refine c_seq ?_
 refine c_region ?_
 refine g_v rfl r_move ?_
 refine g_v rfl r_move ?_
 refine g_if rfl rfl rfl rfl rfl (fun h7 => ?_) (fun h7 => ?_)
 ·
  replace hm := ite_t hm h7
  refine g_v rfl r_move ?_
  refine g_do rfl rfl rfl rfl rfl h7 ?_
  replace hm := bnd hm
  obtain ⟨x8, hx9, hm⟩ := hm
  refine g_cn ⟨w0, M, _, _, φ⟩ (fun _ h => h) Try.call53 rfl rfl (c_name_Lower x3 _ hx9) (fun _ _ => ?_)
  refine g_do rfl rfl rfl rfl rfl h7 ?_
  refine g_v rfl r_move ?_
  refine g_do rfl rfl rfl rfl rfl h7 ?_
  replace hm := bnd hm
  obtain ⟨x10, hx11, hm⟩ := hm
  refine g_cn ⟨w0, M, _, _, φ⟩ (fun _ h => h) Try.call54 rfl rfl (c_ref03_Lower x3 _ hx11) (fun _ _ => ?_)
  refine g_do rfl rfl rfl rfl rfl h7 ?_
  refine g_v rfl (r_eqlT rfl rfl) ?_
  refine g_v rfl (r_pick1 rfl h7) ?_
  refine g_v rfl r_move ?_
  refine g_if rfl rfl rfl rfl rfl (fun h12 => ?_) (fun h12 => ?_)
  ·
   replace hm := ite_t hm (of_decide_eq_true h12)
   refine g_v rfl r_move ?_
   refine g_do rfl rfl rfl rfl rfl h12 ?_
   refine g_v rfl r_move ?_
   refine g_do rfl rfl rfl rfl rfl h12 ?_
   replace hm := bnd hm
   obtain ⟨x13, hx14, hm⟩ := hm
   refine g_cn ⟨w0, M, _, _, φ⟩ (fun _ h => h) Try.call55 rfl rfl (c_name_Same x3 x5 _ hx14) (fun _ _ => ?_)
   refine g_do rfl rfl rfl rfl rfl h12 ?_
   refine g_v rfl r_move ?_
   refine g_do rfl rfl rfl rfl rfl h12 ?_
   refine g_v rfl r_move ?_
   refine g_do rfl rfl rfl rfl rfl h12 ?_
   replace hm := bnd hm
   obtain ⟨x15, hx16, hm⟩ := hm
   refine g_cn ⟨w0, M, _, _, φ⟩ (fun _ h => h) Try.call56 rfl rfl (c_ref03_Same x3 x5 _ hx16) (fun _ _ => ?_)
   refine g_do rfl rfl rfl rfl rfl h12 ?_
   refine g_v rfl (r_eqlBo Try.underlying4 rfl rfl) ?_
   refine g_v rfl (r_pick1 rfl h12) ?_
   refine g_v rfl r_move ?_
   refine g_if rfl rfl rfl rfl rfl (fun h17 => ?_) (fun h17 => ?_)
   ·
    replace hm := ite_t hm h17
    refine g_v rfl r_move ?_
    refine g_do rfl rfl rfl rfl rfl h17 ?_
    refine g_v rfl r_move ?_
    refine g_do rfl rfl rfl rfl rfl h17 ?_
    replace hm := bnd hm
    obtain ⟨x18, hx19, hm⟩ := hm
    refine g_cn ⟨w0, M, _, _, φ⟩ (fun _ h => h) Try.call51 rfl rfl (c_name_Under x3 x5 _ hx19) (fun _ _ => ?_)
    refine g_do rfl rfl rfl rfl rfl h17 ?_
    refine g_v rfl r_move ?_
    refine g_do rfl rfl rfl rfl rfl h17 ?_
    refine g_v rfl r_move ?_
    refine g_do rfl rfl rfl rfl rfl h17 ?_
    replace hm := bnd hm
    obtain ⟨x20, hx21, hm⟩ := hm
    refine g_cn ⟨w0, M, _, _, φ⟩ (fun _ h => h) Try.call57 rfl rfl (c_ref03_Under x3 x5 _ hx21) (fun _ _ => ?_)
    refine g_do rfl rfl rfl rfl rfl h17 ?_
    refine g_v rfl (r_eqlBo Try.underlying4 rfl rfl) ?_
    refine g_v rfl (r_pick1 rfl h17) ?_
    refine g_v rfl r_move ?_
    refine g_if rfl rfl rfl rfl rfl (fun h22 => ?_) (fun h22 => ?_)
    ·
     replace hm := ite_t hm h22
     refine g_v rfl r_move ?_
     refine g_do rfl rfl rfl rfl rfl h22 ?_
     refine g_v rfl r_move ?_
     refine g_do rfl rfl rfl rfl rfl h22 ?_
     replace hm := bnd hm
     obtain ⟨x23, hx24, hm⟩ := hm
     refine g_cn ⟨w0, M, _, _, φ⟩ (fun _ h => h) Try.call50 rfl rfl (c_name_Cut x3 p2 _ hx24) (fun _ _ => ?_)
     refine g_do rfl rfl rfl rfl rfl h22 ?_
     refine g_v rfl r_move ?_
     refine g_do rfl rfl rfl rfl rfl h22 ?_
     refine g_v rfl r_move ?_
     refine g_do rfl rfl rfl rfl rfl h22 ?_
     replace hm := bnd hm
     obtain ⟨x25, hx26, hm⟩ := hm
     refine g_cn ⟨w0, M, _, _, φ⟩ (fun _ h => h) Try.call58 rfl rfl (c_ref03_Cut x3 p2 _ hx26) (fun _ _ => ?_)
     refine g_do rfl rfl rfl rfl rfl h22 ?_
     refine g_v rfl (r_eqlT rfl rfl) ?_
     refine g_v rfl (r_pick1 rfl h22) ?_
     refine g_v rfl r_move ?_
     refine g_if rfl rfl rfl rfl rfl (fun h27 => ?_) (fun h27 => ?_)
     ·
      replace hm := ite_t hm (of_decide_eq_true h27)
      refine g_v rfl r_move ?_
      refine g_do rfl rfl rfl rfl rfl h27 ?_
      refine g_v rfl r_move ?_
      refine g_do rfl rfl rfl rfl rfl h27 ?_
      replace hm := bnd hm
      obtain ⟨x28, hx29, hm⟩ := hm
      refine g_cn ⟨w0, M, _, _, φ⟩ (fun _ h => h) Try.call52 rfl rfl (c_name_Shared x3 x5 _ hx29) (fun _ _ => ?_)
      refine g_do rfl rfl rfl rfl rfl h27 ?_
      refine g_v rfl r_move ?_
      refine g_do rfl rfl rfl rfl rfl h27 ?_
      refine g_v rfl r_move ?_
      refine g_do rfl rfl rfl rfl rfl h27 ?_
      replace hm := bnd hm
      obtain ⟨x30, hx31, hm⟩ := hm
      refine g_cn ⟨w0, M, _, _, φ⟩ (fun _ h => h) Try.call59 rfl rfl (c_ref03_Shared x3 x5 _ hx31) (fun _ _ => ?_)
      refine g_do rfl rfl rfl rfl rfl h27 ?_
      refine g_v rfl (r_eql rfl rfl) ?_
      refine g_v rfl (r_pick1 rfl h27) ?_
      refine g_v rfl r_move ?_
      refine g_if rfl rfl rfl rfl rfl (fun h32 => ?_) (fun h32 => ?_)
      ·
       replace hm := ite_t hm (of_decide_eq_true h32)
       refine g_v rfl r_move ?_
       refine g_do rfl rfl rfl rfl rfl h32 ?_
       refine g_v rfl r_move ?_
       refine g_do rfl rfl rfl rfl rfl h32 ?_
       replace hm := bnd hm
       obtain ⟨x33, hx34, hm⟩ := hm
       refine g_cn ⟨w0, M, _, _, φ⟩ (fun _ h => h) Try.call60 rfl rfl (c_name_Less x3 x5 _ hx34) (fun _ _ => ?_)
       refine g_do rfl rfl rfl rfl rfl h32 ?_
       refine g_v rfl r_move ?_
       refine g_do rfl rfl rfl rfl rfl h32 ?_
       refine g_v rfl r_move ?_
       refine g_do rfl rfl rfl rfl rfl h32 ?_
       replace hm := bnd hm
       obtain ⟨x35, hx36, hm⟩ := hm
       refine g_cn ⟨w0, M, _, _, φ⟩ (fun _ h => h) Try.call61 rfl rfl (c_ref03_Less x3 x5 _ hx36) (fun _ _ => ?_)
       refine g_do rfl rfl rfl rfl rfl h32 ?_
       refine g_v rfl (r_eqlBo Try.underlying4 rfl rfl) ?_
       refine g_v rfl (r_pick1 rfl h32) ?_
       refine g_v rfl r_assign ?_
       refine g_nil ?_
       refine d_then ?_
       refine c_flat [(6, .bool (x33 == x35))] ⟨rfl, trivial⟩ (fun u => ?_)
       refine c_sta ⟨w0, M, H, R, φ⟩ (fun _ h => h) ?_
       refine c_ret ?_
       replace hm := Option.some.inj hm
       subst hm
       refine d_retC () Try.results12 ?_ trivial (fun W h => ok_pre (H1 := []) (R1 := []) h (fun W hφ => hφ)) (.inr rfl)
       refine res_tmp ?_
       refine res_nil ?_
       exact rfl
      ·
       replace hm := ite_f hm (of_decide_eq_false h32)
       refine g_no rfl rfl rfl rfl rfl h32 ?_
       refine g_no rfl rfl rfl rfl rfl h32 ?_
       refine g_no rfl rfl rfl rfl rfl h32 ?_
       refine g_no rfl rfl rfl rfl rfl h32 ?_
       refine g_no rfl rfl rfl rfl rfl h32 ?_
       refine g_no rfl rfl rfl rfl rfl h32 ?_
       refine g_v rfl (r_pick0 rfl h32) ?_
       refine g_v rfl r_assign ?_
       refine g_nil ?_
       refine d_then ?_
       refine c_flat [(6, .bool false)] ⟨rfl, trivial⟩ (fun u => ?_)
       refine c_sta ⟨w0, M, H, R, φ⟩ (fun _ h => h) ?_
       refine c_ret ?_
       replace hm := Option.some.inj hm
       subst hm
       refine d_retC () Try.results12 ?_ trivial (fun W h => ok_pre (H1 := []) (R1 := []) h (fun W hφ => hφ)) (.inr rfl)
       refine res_tmp ?_
       refine res_nil ?_
       exact rfl
     ·
      replace hm := ite_f hm (of_decide_eq_false h27)
      refine g_no rfl rfl rfl rfl rfl h27 ?_
      refine g_no rfl rfl rfl rfl rfl h27 ?_
      refine g_no rfl rfl rfl rfl rfl h27 ?_
      refine g_no rfl rfl rfl rfl rfl h27 ?_
      refine g_no rfl rfl rfl rfl rfl h27 ?_
      refine g_no rfl rfl rfl rfl rfl h27 ?_
      refine g_v rfl (r_pick0 rfl h27) ?_
      refine g_v rfl r_move ?_
      refine g_no rfl rfl rfl rfl rfl rfl ?_
      refine g_no rfl rfl rfl rfl rfl rfl ?_
      refine g_no rfl rfl rfl rfl rfl rfl ?_
      refine g_no rfl rfl rfl rfl rfl rfl ?_
      refine g_no rfl rfl rfl rfl rfl rfl ?_
      refine g_no rfl rfl rfl rfl rfl rfl ?_
      refine g_no rfl rfl rfl rfl rfl rfl ?_
      refine g_v rfl (r_pick0 rfl rfl) ?_
      refine g_v rfl r_assign ?_
      refine g_nil ?_
      refine d_then ?_
      refine c_flat [(6, .bool false)] ⟨rfl, trivial⟩ (fun u => ?_)
      refine c_sta ⟨w0, M, H, R, φ⟩ (fun _ h => h) ?_
      refine c_ret ?_
      replace hm := Option.some.inj hm
      subst hm
      refine d_retC () Try.results12 ?_ trivial (fun W h => ok_pre (H1 := []) (R1 := []) h (fun W hφ => hφ)) (.inr rfl)
      refine res_tmp ?_
      refine res_nil ?_
      exact rfl
    ·
     replace hm := ite_f hm (bool_nt h22)
     refine g_no rfl rfl rfl rfl rfl h22 ?_
     refine g_no rfl rfl rfl rfl rfl h22 ?_
     refine g_no rfl rfl rfl rfl rfl h22 ?_
     refine g_no rfl rfl rfl rfl rfl h22 ?_
     refine g_no rfl rfl rfl rfl rfl h22 ?_
     refine g_no rfl rfl rfl rfl rfl h22 ?_
     refine g_v rfl (r_pick0 rfl h22) ?_
     refine g_v rfl r_move ?_
     refine g_no rfl rfl rfl rfl rfl rfl ?_
     refine g_no rfl rfl rfl rfl rfl rfl ?_
     refine g_no rfl rfl rfl rfl rfl rfl ?_
     refine g_no rfl rfl rfl rfl rfl rfl ?_
     refine g_no rfl rfl rfl rfl rfl rfl ?_
     refine g_no rfl rfl rfl rfl rfl rfl ?_
     refine g_no rfl rfl rfl rfl rfl rfl ?_
     refine g_v rfl (r_pick0 rfl rfl) ?_
     refine g_v rfl r_move ?_
     refine g_no rfl rfl rfl rfl rfl rfl ?_
     refine g_no rfl rfl rfl rfl rfl rfl ?_
     refine g_no rfl rfl rfl rfl rfl rfl ?_
     refine g_no rfl rfl rfl rfl rfl rfl ?_
     refine g_no rfl rfl rfl rfl rfl rfl ?_
     refine g_no rfl rfl rfl rfl rfl rfl ?_
     refine g_no rfl rfl rfl rfl rfl rfl ?_
     refine g_v rfl (r_pick0 rfl rfl) ?_
     refine g_v rfl r_assign ?_
     refine g_nil ?_
     refine d_then ?_
     refine c_flat [(6, .bool false)] ⟨rfl, trivial⟩ (fun u => ?_)
     refine c_sta ⟨w0, M, H, R, φ⟩ (fun _ h => h) ?_
     refine c_ret ?_
     replace hm := Option.some.inj hm
     subst hm
     refine d_retC () Try.results12 ?_ trivial (fun W h => ok_pre (H1 := []) (R1 := []) h (fun W hφ => hφ)) (.inr rfl)
     refine res_tmp ?_
     refine res_nil ?_
     exact rfl
   ·
    replace hm := ite_f hm (bool_nt h17)
    refine g_no rfl rfl rfl rfl rfl h17 ?_
    refine g_no rfl rfl rfl rfl rfl h17 ?_
    refine g_no rfl rfl rfl rfl rfl h17 ?_
    refine g_no rfl rfl rfl rfl rfl h17 ?_
    refine g_no rfl rfl rfl rfl rfl h17 ?_
    refine g_no rfl rfl rfl rfl rfl h17 ?_
    refine g_v rfl (r_pick0 rfl h17) ?_
    refine g_v rfl r_move ?_
    refine g_no rfl rfl rfl rfl rfl rfl ?_
    refine g_no rfl rfl rfl rfl rfl rfl ?_
    refine g_no rfl rfl rfl rfl rfl rfl ?_
    refine g_no rfl rfl rfl rfl rfl rfl ?_
    refine g_no rfl rfl rfl rfl rfl rfl ?_
    refine g_no rfl rfl rfl rfl rfl rfl ?_
    refine g_no rfl rfl rfl rfl rfl rfl ?_
    refine g_v rfl (r_pick0 rfl rfl) ?_
    refine g_v rfl r_move ?_
    refine g_no rfl rfl rfl rfl rfl rfl ?_
    refine g_no rfl rfl rfl rfl rfl rfl ?_
    refine g_no rfl rfl rfl rfl rfl rfl ?_
    refine g_no rfl rfl rfl rfl rfl rfl ?_
    refine g_no rfl rfl rfl rfl rfl rfl ?_
    refine g_no rfl rfl rfl rfl rfl rfl ?_
    refine g_no rfl rfl rfl rfl rfl rfl ?_
    refine g_v rfl (r_pick0 rfl rfl) ?_
    refine g_v rfl r_move ?_
    refine g_no rfl rfl rfl rfl rfl rfl ?_
    refine g_no rfl rfl rfl rfl rfl rfl ?_
    refine g_no rfl rfl rfl rfl rfl rfl ?_
    refine g_no rfl rfl rfl rfl rfl rfl ?_
    refine g_no rfl rfl rfl rfl rfl rfl ?_
    refine g_no rfl rfl rfl rfl rfl rfl ?_
    refine g_no rfl rfl rfl rfl rfl rfl ?_
    refine g_v rfl (r_pick0 rfl rfl) ?_
    refine g_v rfl r_assign ?_
    refine g_nil ?_
    refine d_then ?_
    refine c_flat [(6, .bool false)] ⟨rfl, trivial⟩ (fun u => ?_)
    refine c_sta ⟨w0, M, H, R, φ⟩ (fun _ h => h) ?_
    refine c_ret ?_
    replace hm := Option.some.inj hm
    subst hm
    refine d_retC () Try.results12 ?_ trivial (fun W h => ok_pre (H1 := []) (R1 := []) h (fun W hφ => hφ)) (.inr rfl)
    refine res_tmp ?_
    refine res_nil ?_
    exact rfl
  ·
   replace hm := ite_f hm (of_decide_eq_false h12)
   refine g_no rfl rfl rfl rfl rfl h12 ?_
   refine g_no rfl rfl rfl rfl rfl h12 ?_
   refine g_no rfl rfl rfl rfl rfl h12 ?_
   refine g_no rfl rfl rfl rfl rfl h12 ?_
   refine g_no rfl rfl rfl rfl rfl h12 ?_
   refine g_no rfl rfl rfl rfl rfl h12 ?_
   refine g_v rfl (r_pick0 rfl h12) ?_
   refine g_v rfl r_move ?_
   refine g_no rfl rfl rfl rfl rfl rfl ?_
   refine g_no rfl rfl rfl rfl rfl rfl ?_
   refine g_no rfl rfl rfl rfl rfl rfl ?_
   refine g_no rfl rfl rfl rfl rfl rfl ?_
   refine g_no rfl rfl rfl rfl rfl rfl ?_
   refine g_no rfl rfl rfl rfl rfl rfl ?_
   refine g_no rfl rfl rfl rfl rfl rfl ?_
   refine g_v rfl (r_pick0 rfl rfl) ?_
   refine g_v rfl r_move ?_
   refine g_no rfl rfl rfl rfl rfl rfl ?_
   refine g_no rfl rfl rfl rfl rfl rfl ?_
   refine g_no rfl rfl rfl rfl rfl rfl ?_
   refine g_no rfl rfl rfl rfl rfl rfl ?_
   refine g_no rfl rfl rfl rfl rfl rfl ?_
   refine g_no rfl rfl rfl rfl rfl rfl ?_
   refine g_no rfl rfl rfl rfl rfl rfl ?_
   refine g_v rfl (r_pick0 rfl rfl) ?_
   refine g_v rfl r_move ?_
   refine g_no rfl rfl rfl rfl rfl rfl ?_
   refine g_no rfl rfl rfl rfl rfl rfl ?_
   refine g_no rfl rfl rfl rfl rfl rfl ?_
   refine g_no rfl rfl rfl rfl rfl rfl ?_
   refine g_no rfl rfl rfl rfl rfl rfl ?_
   refine g_no rfl rfl rfl rfl rfl rfl ?_
   refine g_no rfl rfl rfl rfl rfl rfl ?_
   refine g_v rfl (r_pick0 rfl rfl) ?_
   refine g_v rfl r_move ?_
   refine g_no rfl rfl rfl rfl rfl rfl ?_
   refine g_no rfl rfl rfl rfl rfl rfl ?_
   refine g_no rfl rfl rfl rfl rfl rfl ?_
   refine g_no rfl rfl rfl rfl rfl rfl ?_
   refine g_no rfl rfl rfl rfl rfl rfl ?_
   refine g_no rfl rfl rfl rfl rfl rfl ?_
   refine g_no rfl rfl rfl rfl rfl rfl ?_
   refine g_v rfl (r_pick0 rfl rfl) ?_
   refine g_v rfl r_assign ?_
   refine g_nil ?_
   refine d_then ?_
   refine c_flat [(6, .bool false)] ⟨rfl, trivial⟩ (fun u => ?_)
   refine c_sta ⟨w0, M, H, R, φ⟩ (fun _ h => h) ?_
   refine c_ret ?_
   replace hm := Option.some.inj hm
   subst hm
   refine d_retC () Try.results12 ?_ trivial (fun W h => ok_pre (H1 := []) (R1 := []) h (fun W hφ => hφ)) (.inr rfl)
   refine res_tmp ?_
   refine res_nil ?_
   exact rfl
 ·
  replace hm := ite_f hm (bool_nt h7)
  refine g_no rfl rfl rfl rfl rfl h7 ?_
  refine g_no rfl rfl rfl rfl rfl h7 ?_
  refine g_no rfl rfl rfl rfl rfl h7 ?_
  refine g_no rfl rfl rfl rfl rfl h7 ?_
  refine g_v rfl (r_pick0 rfl h7) ?_
  refine g_v rfl r_move ?_
  refine g_no rfl rfl rfl rfl rfl rfl ?_
  refine g_no rfl rfl rfl rfl rfl rfl ?_
  refine g_no rfl rfl rfl rfl rfl rfl ?_
  refine g_no rfl rfl rfl rfl rfl rfl ?_
  refine g_no rfl rfl rfl rfl rfl rfl ?_
  refine g_no rfl rfl rfl rfl rfl rfl ?_
  refine g_no rfl rfl rfl rfl rfl rfl ?_
  refine g_v rfl (r_pick0 rfl rfl) ?_
  refine g_v rfl r_move ?_
  refine g_no rfl rfl rfl rfl rfl rfl ?_
  refine g_no rfl rfl rfl rfl rfl rfl ?_
  refine g_no rfl rfl rfl rfl rfl rfl ?_
  refine g_no rfl rfl rfl rfl rfl rfl ?_
  refine g_no rfl rfl rfl rfl rfl rfl ?_
  refine g_no rfl rfl rfl rfl rfl rfl ?_
  refine g_no rfl rfl rfl rfl rfl rfl ?_
  refine g_v rfl (r_pick0 rfl rfl) ?_
  refine g_v rfl r_move ?_
  refine g_no rfl rfl rfl rfl rfl rfl ?_
  refine g_no rfl rfl rfl rfl rfl rfl ?_
  refine g_no rfl rfl rfl rfl rfl rfl ?_
  refine g_no rfl rfl rfl rfl rfl rfl ?_
  refine g_no rfl rfl rfl rfl rfl rfl ?_
  refine g_no rfl rfl rfl rfl rfl rfl ?_
  refine g_no rfl rfl rfl rfl rfl rfl ?_
  refine g_v rfl (r_pick0 rfl rfl) ?_
  refine g_v rfl r_move ?_
  refine g_no rfl rfl rfl rfl rfl rfl ?_
  refine g_no rfl rfl rfl rfl rfl rfl ?_
  refine g_no rfl rfl rfl rfl rfl rfl ?_
  refine g_no rfl rfl rfl rfl rfl rfl ?_
  refine g_no rfl rfl rfl rfl rfl rfl ?_
  refine g_no rfl rfl rfl rfl rfl rfl ?_
  refine g_no rfl rfl rfl rfl rfl rfl ?_
  refine g_v rfl (r_pick0 rfl rfl) ?_
  refine g_v rfl r_move ?_
  refine g_no rfl rfl rfl rfl rfl rfl ?_
  refine g_no rfl rfl rfl rfl rfl rfl ?_
  refine g_no rfl rfl rfl rfl rfl rfl ?_
  refine g_no rfl rfl rfl rfl rfl rfl ?_
  refine g_no rfl rfl rfl rfl rfl rfl ?_
  refine g_no rfl rfl rfl rfl rfl rfl ?_
  refine g_no rfl rfl rfl rfl rfl rfl ?_
  refine g_v rfl (r_pick0 rfl rfl) ?_
  refine g_v rfl r_assign ?_
  refine g_nil ?_
  refine d_then ?_
  refine c_flat [(6, .bool false)] ⟨rfl, trivial⟩ (fun u => ?_)
  refine c_sta ⟨w0, M, H, R, φ⟩ (fun _ h => h) ?_
  refine c_ret ?_
  replace hm := Option.some.inj hm
  subst hm
  refine d_retC () Try.results12 ?_ trivial (fun W h => ok_pre (H1 := []) (R1 := []) h (fun W hφ => hφ)) (.inr rfl)
  refine res_tmp ?_
  refine res_nil ?_
  exact rfl

end Go.Proofs.Ytdcfemndfnfedaa
