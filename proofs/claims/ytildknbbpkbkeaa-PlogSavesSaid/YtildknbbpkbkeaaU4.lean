import Derived.Test.YtildknbbpkbkeaaU3
set_option maxRecDepth 16384
set_option maxHeartbeats 4000000
set_option linter.unusedVariables false
set_option linter.unusedSimpArgs false
namespace Go.Proofs.Ytildknbbpkbkeaa
open Go.RowKit Go.Proofs.YtildknbbpkbkeaaW.PrintLast
noncomputable def m_law11_PlogSaves (p0 : GHard) (p1 : GHard) : Option Bool :=
  (m_law11_awake).bind fun x3 =>
  (m_law11_tame p0).bind fun x5 =>
  (m_law11_tame p1).bind fun x14 =>
  (m_law11_sound x5.fLog).bind fun x23 =>
  (m_law11_sound x14.fLog).bind fun x25 =>
  if x23 = true then
    if x25 = true then
      (m_plog_Save x5 x14).bind fun (z35 : (List ByteArray) × Bool) =>
      (m_ref11_Save x5 x14).bind fun (z42 : (List ByteArray) × Bool) =>
      (m_law11_sameTexts z35.1 z42.1).bind fun x43 =>
      if x3 = true then
        if x43 = true then
          some (z35.2 == z42.2)
        else
          some false
      else
        some false
    else
      some x3
  else
    some x3
theorem c_law11_PlogSaves {w0 : World} {M : Nat → Prop} {H : List (Nat × Nat × Obj)} {R : List (Nat × Row)} {φ : World → Prop} (p0 : GHard) (Ap0_0 : Option Addr) (cp0_0 : Nat) (hcp0_0 : p0.fVoters.length ≤ cp0_0) (fp0_0 : ∀ W, φ W → Cl W Ap0_0 (p0.fVoters.flatMap (fun x : Int => [Value.int .i64 x]))) (Ap0_1 : Option Addr) (cp0_1 : Nat) (hcp0_1 : p0.fLog.fEntries.length ≤ cp0_1) (fp0_1 : ∀ W, (Sta.mk w0 M H R φ).ok W → Cl W Ap0_1 (p0.fLog.fEntries.flatMap GEntry.enc)) (p1 : GHard) (Ap1_0 : Option Addr) (cp1_0 : Nat) (hcp1_0 : p1.fVoters.length ≤ cp1_0) (fp1_0 : ∀ W, φ W → Cl W Ap1_0 (p1.fVoters.flatMap (fun x : Int => [Value.int .i64 x]))) (Ap1_1 : Option Addr) (cp1_1 : Nat) (hcp1_1 : p1.fLog.fEntries.length ≤ cp1_1) (fp1_1 : ∀ W, (Sta.mk w0 M H R φ).ok W → Cl W Ap1_1 (p1.fLog.fEntries.flatMap GEntry.enc)) (r : Bool) (hm : m_law11_PlogSaves p0 p1 = some r) :
    Cn Try.prog 7 #[.agg #[.int .i64 p0.fTerm, .int .i64 p0.fVote, .slice Ap0_0 p0.fVoters.length cp0_0, .string p0.fSnap, .int .i64 p0.fLog.fBase, .int .i64 p0.fLog.fBaseTerm, .slice Ap0_1 p0.fLog.fEntries.length cp0_1], .agg #[.int .i64 p1.fTerm, .int .i64 p1.fVote, .slice Ap1_0 p1.fVoters.length cp1_0, .string p1.fSnap, .int .i64 p1.fLog.fBase, .int .i64 p1.fLog.fBaseTerm, .slice Ap1_1 p1.fLog.fEntries.length cp1_1]] ⟨w0, M, H, R, φ⟩ (fun x : Unit => .bool r) (fun x => True) (fun x => ⟨w0, M, H, R, φ⟩) := by
 unfold m_law11_PlogSaves at hm
 refine cn_intro (fn := Try.f7) (N := 55) Try.func7 rfl Try.ntmps7 rfl ?_
 refine c_seq ?_
 refine c_region ?_
 refine g_e rfl (e_box 100020 rfl) (fun g1 _ => ?_)
 refine g_e rfl (e_box 100030 rfl) (fun g2 _ => ?_)
 refine g_v rfl r_assign ?_
 refine g_nil ?_
 refine d_then ?_
 refine c_seq ?_
 refine c_region ?_
 replace hm := bnd hm
 obtain ⟨x3, hx4, hm⟩ := hm
 refine g_cn ⟨w0, M, _, _, φ⟩ (fun _ h => h) Try.call15 rfl rfl (c_law11_awake  _ hx4) (fun _ _ => ?_)
 refine g_v rfl r_assign ?_
 refine g_nil ?_
 refine d_then ?_
 refine c_seq ?_
 refine c_region ?_
 refine g_v rfl (r_loadA (tag := 100020) rfl rfl Try.isAgg44 Try.sizeOf44 rfl rfl) ?_
 replace hm := bnd hm
 obtain ⟨x5, hx6, hm⟩ := hm
 refine g_cn ⟨w0, M, _, _, φ⟩ (fun _ h => h) Try.call40 rfl rfl (c_law11_tame p0 Ap0_0 cp0_0 hcp0_0 (fun W h => fp0_0 W h) Ap0_1 cp0_1 hcp0_1 (fun W hS => fp0_1 W (ok_pre (H1 := [_, _]) (R1 := []) hS (fun W h => h))) _ hx6) (fun ⟨A7, c8, A10, c11⟩ ⟨hc8, hc11⟩ => ?_)
 refine g_abs (fun φ13 q13' => ?_)
 have q13 : ∀ W, φ13 W → φ W := fun W h => (q13' W h).1
 have f9 := fun (W : World) (h : φ13 W) => (q13' W h).2.1
 have f12 := fun (W : World) (h : φ13 W) => (q13' W h).2.2
 refine g_storeL (tag := 100020) rfl rfl rfl rfl Try.sizeOf44 rfl rfl ?_
 refine g_nil ?_
 refine d_then ?_
 refine c_seq ?_
 refine c_region ?_
 refine g_v rfl (r_loadA (tag := 100030) rfl rfl Try.isAgg44 Try.sizeOf44 rfl rfl) ?_
 replace hm := bnd hm
 obtain ⟨x14, hx15, hm⟩ := hm
 refine g_cn ⟨w0, M, _, _, φ13⟩ (fun _ h => h) Try.call40 rfl rfl (c_law11_tame p1 Ap1_0 cp1_0 hcp1_0 (fun W h => fp1_0 W (q13 _ h)) Ap1_1 cp1_1 hcp1_1 (fun W hS => fp1_1 W (ok_pre (H1 := [_, _]) (R1 := []) hS (fun W h => (q13 _ h)))) _ hx15) (fun ⟨A16, c17, A19, c20⟩ ⟨hc17, hc20⟩ => ?_)
 refine g_abs (fun φ22 q22' => ?_)
 have q22 : ∀ W, φ22 W → φ13 W := fun W h => (q22' W h).1
 have f18 := fun (W : World) (h : φ22 W) => (q22' W h).2.1
 have f21 := fun (W : World) (h : φ22 W) => (q22' W h).2.2
 refine g_storeL (tag := 100030) rfl rfl rfl rfl Try.sizeOf44 rfl rfl ?_
 refine g_nil ?_
 refine d_then ?_
 refine c_flat [(2, .pointer (some ⟨g1, 0, none⟩)), (3, .pointer (some ⟨g2, 0, none⟩)), (5, .bool x3)] ⟨rfl, rfl, rfl, trivial⟩ (fun u => ?_)
 refine c_sta ⟨w0, M, (100030, g2, .cells #[.int .i64 x14.fTerm, .int .i64 x14.fVote, .slice A16 x14.fVoters.length c17, .string x14.fSnap, .int .i64 x14.fLog.fBase, .int .i64 x14.fLog.fBaseTerm, .slice A19 x14.fLog.fEntries.length c20] 44 (0, 0)) :: (100020, g1, .cells #[.int .i64 x5.fTerm, .int .i64 x5.fVote, .slice A7 x5.fVoters.length c8, .string x5.fSnap, .int .i64 x5.fLog.fBase, .int .i64 x5.fLog.fBaseTerm, .slice A10 x5.fLog.fEntries.length c11] 44 (0, 0)) :: H, R, φ22⟩ (fun _ h => h) ?_
 refine c_seq ?_
 refine c_region ?_
 refine g_v rfl (r_field (n := 4) Try.underlying44 rfl Try.sizeOf26 rfl rfl) ?_
 refine g_v rfl (r_loadA (tag := 100020) rfl rfl Try.isAgg26 Try.sizeOf26 rfl rfl) ?_
 replace hm := bnd hm
 obtain ⟨x23, hx24, hm⟩ := hm
 refine g_cn ⟨w0, M, _, _, φ22⟩ (fun _ h => h) Try.call30 rfl rfl (c_law11_sound x5.fLog A10 c11 hc11 (fun W hS => f12 W (q22 _ hS.now)) _ hx24) (fun _ _ => ?_)
 refine g_v rfl r_assign ?_
 refine g_nil ?_
 refine d_then ?_
 refine c_seq ?_
 refine c_region ?_
 refine g_v rfl (r_field (n := 4) Try.underlying44 rfl Try.sizeOf26 rfl rfl) ?_
 refine g_v rfl (r_loadA (tag := 100030) rfl rfl Try.isAgg26 Try.sizeOf26 rfl rfl) ?_
 replace hm := bnd hm
 obtain ⟨x25, hx26, hm⟩ := hm
 refine g_cn ⟨w0, M, _, _, φ22⟩ (fun _ h => h) Try.call30 rfl rfl (c_law11_sound x14.fLog A19 c20 hc20 (fun W hS => f21 W hS.now) _ hx26) (fun _ _ => ?_)
 refine g_v rfl r_assign ?_
 refine g_nil ?_
 refine d_then ?_
 refine c_seq ?_
 refine c_seq ?_
 refine c_region ?_
 refine g_v rfl r_move ?_
 refine g_v rfl (r_not rfl) ?_
 refine g_v rfl r_move ?_
 refine g_if rfl rfl rfl rfl rfl (fun h27 => ?_) (fun h27 => ?_)
 ·
  have h27' : x23 = true := by revert h27; cases x23 <;> simp
  replace hm := ite_t hm h27'
  refine g_v rfl r_move ?_
  refine g_do rfl rfl rfl rfl rfl h27 ?_
  refine g_v rfl (r_not rfl) ?_
  refine g_v rfl (r_pick0 rfl h27) ?_
  refine g_nil ?_
  refine d_then ?_
  refine c_flat [(2, .pointer (some ⟨g1, 0, none⟩)), (3, .pointer (some ⟨g2, 0, none⟩)), (5, .bool x3), (29, .bool (!x25))] ⟨rfl, rfl, rfl, rfl, trivial⟩ (fun u => ?_)
  refine c_sta ⟨w0, M, (100030, g2, .cells #[.int .i64 x14.fTerm, .int .i64 x14.fVote, .slice A16 x14.fVoters.length c17, .string x14.fSnap, .int .i64 x14.fLog.fBase, .int .i64 x14.fLog.fBaseTerm, .slice A19 x14.fLog.fEntries.length c20] 44 (0, 0)) :: (100020, g1, .cells #[.int .i64 x5.fTerm, .int .i64 x5.fVote, .slice A7 x5.fVoters.length c8, .string x5.fSnap, .int .i64 x5.fLog.fBase, .int .i64 x5.fLog.fBaseTerm, .slice A10 x5.fLog.fEntries.length c11] 44 (0, 0)) :: H, R, φ22⟩ (fun _ h => h) ?_
  refine c_cond rfl (fun h28 => ?_) (fun h28 => ?_)
  ·
   have h28' : x25 = false := by revert h28; cases x25 <;> simp
   replace hm := ite_f hm (bool_nt h28')
   refine c_seq ?_
   refine c_region ?_
   refine g_v rfl r_move ?_
   refine g_v rfl r_assign ?_
   refine g_nil ?_
   refine d_then ?_
   refine c_ret ?_
   refine d_ret_then ?_
   replace hm := Option.some.inj hm
   subst hm
   refine d_retC () Try.results7 ?_ trivial (fun W h => ok_pre (H1 := [_, _]) (R1 := []) h (fun W hφ => (q13 _ (q22 _ hφ)))) (.inr rfl)
   refine res_tmp ?_
   refine res_nil ?_
   exact rfl
  ·
   have h28' : x25 = true := by revert h28; cases x25 <;> simp
   replace hm := ite_t hm h28'
   refine c_skip ?_
   refine d_then ?_
   refine c_seq ?_
   refine c_region ?_
   refine g_v rfl (r_loadA (tag := 100020) rfl rfl Try.isAgg44 Try.sizeOf44 rfl rfl) ?_
   refine g_v rfl (r_loadA (tag := 100030) rfl rfl Try.isAgg44 Try.sizeOf44 rfl rfl) ?_
   replace hm := bnd hm
   obtain ⟨⟨x29, x30⟩, hx31, hm⟩ := hm
   refine g_cn ⟨w0, M, _, _, φ22⟩ (fun _ h => h) Try.call41 rfl rfl (c_plog_Save x5 A7 c8 hc8 (fun W hS => f9 W (q22 _ hS.now)) A10 c11 hc11 (fun W hS => f12 W (q22 _ hS.now)) x14 A16 c17 hc17 (fun W hS => f18 W hS.now) A19 c20 hc20 (fun W hS => f21 W hS.now) _ hx31) (fun ⟨A32, c33⟩ hc33 => ?_)
   refine g_sta _ (fun W h => ok_frontR (t := 2000) (t' := 100340) h rfl) ?_
   refine g_v rfl r_move ?_
   refine g_v rfl (r_extract rfl rfl) ?_
   refine g_v rfl (r_extract rfl rfl) ?_
   refine g_v rfl r_assign ?_
   refine g_v rfl r_assign ?_
   refine g_nil ?_
   refine d_then ?_
   refine c_seq ?_
   refine c_region ?_
   refine g_v rfl (r_loadA (tag := 100020) rfl rfl Try.isAgg44 Try.sizeOf44 rfl rfl) ?_
   refine g_v rfl (r_loadA (tag := 100030) rfl rfl Try.isAgg44 Try.sizeOf44 rfl rfl) ?_
   replace hm := bnd hm
   obtain ⟨⟨x36, x37⟩, hx38, hm⟩ := hm
   refine g_cn ⟨w0, M, _, _, φ22⟩ (fun _ h => h) Try.call42 rfl rfl (c_ref11_Save x5 A7 c8 hc8 (fun W hS => f9 W (q22 _ hS.now)) A10 c11 hc11 (fun W hS => f12 W (q22 _ hS.now)) x14 A16 c17 hc17 (fun W hS => f18 W hS.now) A19 c20 hc20 (fun W hS => f21 W hS.now) _ hx38) (fun ⟨A39, c40⟩ hc40 => ?_)
   refine g_sta _ (fun W h => ok_frontR (t := 2000) (t' := 100400) h rfl) ?_
   refine g_v rfl r_move ?_
   refine g_v rfl (r_extract rfl rfl) ?_
   refine g_v rfl (r_extract rfl rfl) ?_
   refine g_v rfl r_assign ?_
   refine g_v rfl r_assign ?_
   refine g_nil ?_
   refine d_then ?_
   refine c_flat [(5, .bool x3), (8, .slice A32 x29.length c33), (9, .bool x30), (10, .slice A39 x36.length c40), (11, .bool x37)] ⟨rfl, rfl, rfl, rfl, rfl, trivial⟩ (fun u => ?_)
   refine c_sta ⟨w0, M, (100030, g2, .cells #[.int .i64 x14.fTerm, .int .i64 x14.fVote, .slice A16 x14.fVoters.length c17, .string x14.fSnap, .int .i64 x14.fLog.fBase, .int .i64 x14.fLog.fBaseTerm, .slice A19 x14.fLog.fEntries.length c20] 44 (0, 0)) :: (100020, g1, .cells #[.int .i64 x5.fTerm, .int .i64 x5.fVote, .slice A7 x5.fVoters.length c8, .string x5.fSnap, .int .i64 x5.fLog.fBase, .int .i64 x5.fLog.fBaseTerm, .slice A10 x5.fLog.fEntries.length c11] 44 (0, 0)) :: H, (100400, ⟨.slice A39 x36.length c40, 9, 1, x36.length, x36.flatMap (fun x : ByteArray => [Value.string x])⟩) :: (100340, ⟨.slice A32 x29.length c33, 9, 1, x29.length, x29.flatMap (fun x : ByteArray => [Value.string x])⟩) :: R, φ22⟩ (fun _ h => h) ?_
   refine c_seq ?_
   refine c_region ?_
   refine g_v rfl r_move ?_
   refine g_v rfl r_move ?_
   replace hm := bnd hm
   obtain ⟨x43, hx44, hm⟩ := hm
   refine g_cn ⟨w0, M, _, _, φ22⟩ (fun _ h => h) Try.call43 rfl rfl (c_law11_sameTexts x29 A32 c33 hc33 (fun W hS => rowCl (tag := 100340) rfl W hS) x36 A39 c40 hc40 (fun W hS => rowCl (tag := 100400) rfl W hS) _ hx44) (fun _ _ => ?_)
   refine g_v rfl r_assign ?_
   refine g_nil ?_
   refine d_then ?_
   refine c_seq ?_
   refine c_region ?_
   refine g_v rfl r_move ?_
   refine g_v rfl r_move ?_
   refine g_if rfl rfl rfl rfl rfl (fun h45 => ?_) (fun h45 => ?_)
   ·
    replace hm := ite_t hm h45
    refine g_v rfl r_move ?_
    refine g_v rfl (r_pick1 rfl h45) ?_
    refine g_v rfl r_move ?_
    refine g_if rfl rfl rfl rfl rfl (fun h46 => ?_) (fun h46 => ?_)
    ·
     replace hm := ite_t hm h46
     refine g_v rfl r_move ?_
     refine g_do rfl rfl rfl rfl rfl h46 ?_
     refine g_v rfl r_move ?_
     refine g_do rfl rfl rfl rfl rfl h46 ?_
     refine g_v rfl (r_eqlBo Try.underlying4 rfl rfl) ?_
     refine g_v rfl (r_pick1 rfl h46) ?_
     refine g_v rfl r_assign ?_
     refine g_nil ?_
     refine d_then ?_
     refine c_flat [(4, .bool (x30 == x37))] ⟨rfl, trivial⟩ (fun u => ?_)
     refine c_sta ⟨w0, M, (100030, g2, .cells #[.int .i64 x14.fTerm, .int .i64 x14.fVote, .slice A16 x14.fVoters.length c17, .string x14.fSnap, .int .i64 x14.fLog.fBase, .int .i64 x14.fLog.fBaseTerm, .slice A19 x14.fLog.fEntries.length c20] 44 (0, 0)) :: (100020, g1, .cells #[.int .i64 x5.fTerm, .int .i64 x5.fVote, .slice A7 x5.fVoters.length c8, .string x5.fSnap, .int .i64 x5.fLog.fBase, .int .i64 x5.fLog.fBaseTerm, .slice A10 x5.fLog.fEntries.length c11] 44 (0, 0)) :: H, (100400, ⟨.slice A39 x36.length c40, 9, 1, x36.length, x36.flatMap (fun x : ByteArray => [Value.string x])⟩) :: (100340, ⟨.slice A32 x29.length c33, 9, 1, x29.length, x29.flatMap (fun x : ByteArray => [Value.string x])⟩) :: R, φ22⟩ (fun _ h => h) ?_
     refine c_ret ?_
     replace hm := Option.some.inj hm
     subst hm
     refine d_retC () Try.results7 ?_ trivial (fun W h => ok_pre (H1 := [_, _]) (R1 := [_, _]) h (fun W hφ => (q13 _ (q22 _ hφ)))) (.inr rfl)
     refine res_tmp ?_
     refine res_nil ?_
     exact rfl
    ·
     replace hm := ite_f hm (bool_nt h46)
     refine g_no rfl rfl rfl rfl rfl h46 ?_
     refine g_no rfl rfl rfl rfl rfl h46 ?_
     refine g_v rfl (r_pick0 rfl h46) ?_
     refine g_v rfl r_assign ?_
     refine g_nil ?_
     refine d_then ?_
     refine c_flat [(4, .bool false)] ⟨rfl, trivial⟩ (fun u => ?_)
     refine c_sta ⟨w0, M, (100030, g2, .cells #[.int .i64 x14.fTerm, .int .i64 x14.fVote, .slice A16 x14.fVoters.length c17, .string x14.fSnap, .int .i64 x14.fLog.fBase, .int .i64 x14.fLog.fBaseTerm, .slice A19 x14.fLog.fEntries.length c20] 44 (0, 0)) :: (100020, g1, .cells #[.int .i64 x5.fTerm, .int .i64 x5.fVote, .slice A7 x5.fVoters.length c8, .string x5.fSnap, .int .i64 x5.fLog.fBase, .int .i64 x5.fLog.fBaseTerm, .slice A10 x5.fLog.fEntries.length c11] 44 (0, 0)) :: H, (100400, ⟨.slice A39 x36.length c40, 9, 1, x36.length, x36.flatMap (fun x : ByteArray => [Value.string x])⟩) :: (100340, ⟨.slice A32 x29.length c33, 9, 1, x29.length, x29.flatMap (fun x : ByteArray => [Value.string x])⟩) :: R, φ22⟩ (fun _ h => h) ?_
     refine c_ret ?_
     replace hm := Option.some.inj hm
     subst hm
     refine d_retC () Try.results7 ?_ trivial (fun W h => ok_pre (H1 := [_, _]) (R1 := [_, _]) h (fun W hφ => (q13 _ (q22 _ hφ)))) (.inr rfl)
     refine res_tmp ?_
     refine res_nil ?_
     exact rfl
   ·
    replace hm := ite_f hm (bool_nt h45)
    refine g_v rfl (r_pick0 rfl h45) ?_
    refine g_v rfl r_move ?_
    refine g_no rfl rfl rfl rfl rfl rfl ?_
    refine g_no rfl rfl rfl rfl rfl rfl ?_
    refine g_no rfl rfl rfl rfl rfl rfl ?_
    refine g_v rfl (r_pick0 rfl rfl) ?_
    refine g_v rfl r_assign ?_
    refine g_nil ?_
    refine d_then ?_
    refine c_flat [(4, .bool false)] ⟨rfl, trivial⟩ (fun u => ?_)
    refine c_sta ⟨w0, M, (100030, g2, .cells #[.int .i64 x14.fTerm, .int .i64 x14.fVote, .slice A16 x14.fVoters.length c17, .string x14.fSnap, .int .i64 x14.fLog.fBase, .int .i64 x14.fLog.fBaseTerm, .slice A19 x14.fLog.fEntries.length c20] 44 (0, 0)) :: (100020, g1, .cells #[.int .i64 x5.fTerm, .int .i64 x5.fVote, .slice A7 x5.fVoters.length c8, .string x5.fSnap, .int .i64 x5.fLog.fBase, .int .i64 x5.fLog.fBaseTerm, .slice A10 x5.fLog.fEntries.length c11] 44 (0, 0)) :: H, (100400, ⟨.slice A39 x36.length c40, 9, 1, x36.length, x36.flatMap (fun x : ByteArray => [Value.string x])⟩) :: (100340, ⟨.slice A32 x29.length c33, 9, 1, x29.length, x29.flatMap (fun x : ByteArray => [Value.string x])⟩) :: R, φ22⟩ (fun _ h => h) ?_
    refine c_ret ?_
    replace hm := Option.some.inj hm
    subst hm
    refine d_retC () Try.results7 ?_ trivial (fun W h => ok_pre (H1 := [_, _]) (R1 := [_, _]) h (fun W hφ => (q13 _ (q22 _ hφ)))) (.inr rfl)
    refine res_tmp ?_
    refine res_nil ?_
    exact rfl
 ·
  have h27' : x23 = false := by revert h27; cases x23 <;> simp
  replace hm := ite_f hm (bool_nt h27')
  refine g_no rfl rfl rfl rfl rfl h27 ?_
  refine g_v rfl (r_pick1 rfl h27) ?_
  refine g_nil ?_
  refine d_then ?_
  refine c_flat [(2, .pointer (some ⟨g1, 0, none⟩)), (3, .pointer (some ⟨g2, 0, none⟩)), (5, .bool x3), (29, .bool true)] ⟨rfl, rfl, rfl, rfl, trivial⟩ (fun u => ?_)
  refine c_sta ⟨w0, M, (100030, g2, .cells #[.int .i64 x14.fTerm, .int .i64 x14.fVote, .slice A16 x14.fVoters.length c17, .string x14.fSnap, .int .i64 x14.fLog.fBase, .int .i64 x14.fLog.fBaseTerm, .slice A19 x14.fLog.fEntries.length c20] 44 (0, 0)) :: (100020, g1, .cells #[.int .i64 x5.fTerm, .int .i64 x5.fVote, .slice A7 x5.fVoters.length c8, .string x5.fSnap, .int .i64 x5.fLog.fBase, .int .i64 x5.fLog.fBaseTerm, .slice A10 x5.fLog.fEntries.length c11] 44 (0, 0)) :: H, R, φ22⟩ (fun _ h => h) ?_
  refine c_cond1 rfl rfl ?_
  refine c_seq ?_
  refine c_region ?_
  refine g_v rfl r_move ?_
  refine g_v rfl r_assign ?_
  refine g_nil ?_
  refine d_then ?_
  refine c_ret ?_
  refine d_ret_then ?_
  replace hm := Option.some.inj hm
  subst hm
  refine d_retC () Try.results7 ?_ trivial (fun W h => ok_pre (H1 := [_, _]) (R1 := []) h (fun W hφ => (q13 _ (q22 _ hφ)))) (.inr rfl)
  refine res_tmp ?_
  refine res_nil ?_
  exact rfl
end Go.Proofs.Ytildknbbpkbkeaa
