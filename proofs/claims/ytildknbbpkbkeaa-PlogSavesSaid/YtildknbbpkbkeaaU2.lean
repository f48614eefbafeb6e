import Derived.Test.YtildknbbpkbkeaaU1
set_option maxRecDepth 16384
set_option maxHeartbeats 4000000
set_option linter.unusedVariables false
set_option linter.unusedSimpArgs false
namespace Go.Proofs.Ytildknbbpkbkeaa
open Go.RowKit Go.Proofs.YtildknbbpkbkeaaW.PrintLast
theorem inf35_3  : (Try.prog.info? 35).map (fun i => (i.zero, i.size, i.bytes)) = some (some (.agg #[.int .i64 0, .int .i64 0, .string (⟨#[]⟩ : ByteArray)]), 3, 32) := by kernel_rfl
noncomputable def m_plog_Add (p0 : GLog) (p1 : List GEntry) : Option GLog :=
  (cutHi p0.fEntries (p0.fEntries.length : Int)).bind fun l4 =>
  (app 32 l4 p1).bind fun l5 =>
  some (⟨p0.fBase, p0.fBaseTerm, l5⟩ : GLog)
theorem c_plog_Add {w0 : World} {M : Nat → Prop} {H : List (Nat × Nat × Obj)} {R : List (Nat × Row)} {φ : World → Prop} (p0 : GLog) (Ap0_0 : Option Addr) (cp0_0 : Nat) (hcp0_0 : p0.fEntries.length ≤ cp0_0) (fp0_0 : ∀ W, φ W → Cl W Ap0_0 (p0.fEntries.flatMap GEntry.enc)) (p1 : List GEntry) (Ap1_0 : Option Addr) (cp1_0 : Nat) (hcp1_0 : p1.length ≤ cp1_0) (fp1_0 : ∀ W, φ W → Cl W Ap1_0 (p1.flatMap GEntry.enc)) (r : GLog) (hm : m_plog_Add p0 p1 = some r) :
    Cn Try.prog 72 #[.agg #[.int .i64 p0.fBase, .int .i64 p0.fBaseTerm, .slice Ap0_0 p0.fEntries.length cp0_0], .slice Ap1_0 p1.length cp1_0] ⟨w0, M, H, R, φ⟩ (fun x : Option Addr × Nat => .agg #[.int .i64 r.fBase, .int .i64 r.fBaseTerm, .slice x.1 r.fEntries.length x.2]) (fun x => r.fEntries.length ≤ x.2) (fun x => ⟨w0, M, H, R, fun W => φ W ∧ Cl W x.1 (r.fEntries.flatMap GEntry.enc)⟩) := by
 unfold m_plog_Add at hm
 refine cn_intro (fn := Try.f72) (N := 18) Try.func72 rfl Try.ntmps72 rfl ?_
 refine c_seq ?_
 refine c_region ?_
 refine g_e rfl (e_box 100020 rfl) (fun g1 _ => ?_)
 refine g_e rfl (e_alloc 100040 Try.zeroValue26) (fun g2 _ => ?_)
 refine g_nil ?_
 refine d_then ?_
 refine c_seq ?_
 refine c_region ?_
 refine g_v rfl (r_field (n := 2) Try.underlying26 rfl Try.sizeOf24 rfl rfl) ?_
 refine g_v rfl (r_load (tag := 100020) rfl rfl rfl Try.isAgg24) ?_
 refine g_v rfl (r_field (n := 2) Try.underlying26 rfl Try.sizeOf24 rfl rfl) ?_
 refine g_v rfl (r_load (tag := 100020) rfl rfl rfl Try.isAgg24) ?_
 refine g_v rfl (r_lenL Try.underlying24 rfl) ?_
 refine g_v rfl (r_field (n := 2) Try.underlying26 rfl Try.sizeOf24 rfl rfl) ?_
 refine g_v rfl (r_load (tag := 100020) rfl rfl rfl Try.isAgg24) ?_
 refine g_v rfl (r_lenL Try.underlying24 rfl) ?_
 replace hm := bnd hm
 obtain ⟨l4, hl4, hm⟩ := hm
 have f3 := fun (W : World) (h : φ W) => cl_cutHi (enc := GEntry.enc) (sz := 3) (fun _ => rfl) hl4 (fp0_0 W h)
 refine g_v rfl (r_lcutFull Try.underlying24 Try.sizeOf35 rfl hcp0_0 rfl rfl hl4) ?_
 refine g_v rfl r_move ?_
 replace hm := bnd hm
 obtain ⟨l5, hl5, hm⟩ := hm
 refine g_e rfl (e_appF (enc := GEntry.enc) (l := l4) (l1 := p1) (l2 := l5) Try.underlying24 inf35_3 rfl (by decide) (by decide) (fun _ => rfl) (fun _ => rfl) rfl (fun W h => f3 W h) rfl (fun W h => fp1_0 W h) hl5) (fun ⟨A6, c7⟩ hc7 => ?_)
 refine g_abs (fun φ9 q9' => ?_)
 have q9 : ∀ W, φ9 W → φ W := fun W h => (q9' W h).1
 have f8 := fun (W : World) (h : φ9 W) => (q9' W h).2
 refine g_v rfl (r_field (n := 2) Try.underlying26 rfl Try.sizeOf24 rfl rfl) ?_
 refine g_storeL (tag := 100020) rfl rfl rfl rfl Try.sizeOf24 rfl rfl ?_
 refine g_nil ?_
 refine d_then ?_
 refine c_flat [(2, .pointer (some ⟨g1, 0, none⟩)), (4, .pointer (some ⟨g2, 0, none⟩))] ⟨rfl, rfl, trivial⟩ (fun u => ?_)
 refine c_sta ⟨w0, M, (100040, g2, .cells #[.int .i64 0, .int .i64 0, .slice none 0 0] 26 (0, 0)) :: (100020, g1, .cells #[.int .i64 p0.fBase, .int .i64 p0.fBaseTerm, .slice A6 l5.length c7] 26 (0, 0)) :: H, R, φ9⟩ (fun _ h => h) ?_
 refine c_seq ?_
 refine c_region ?_
 refine g_v rfl (r_loadA (tag := 100020) rfl rfl Try.isAgg26 Try.sizeOf26 rfl rfl) ?_
 refine g_storeL (tag := 100040) rfl rfl rfl rfl Try.sizeOf26 rfl rfl ?_
 refine g_nil ?_
 refine d_then ?_
 refine c_ret ?_
 replace hm := Option.some.inj hm
 subst hm
 refine d_retC (A6, c7) Try.results72 ?_ hc7 (fun W h => ok_pre (H1 := [_, _]) (R1 := []) h (fun W hφ => ⟨(q9 _ hφ), (fun W h => f8 W h) W hφ⟩)) (.inr rfl)
 refine res_agg (tag := 100040) rfl rfl Try.isAgg26 Try.sizeOf26 ?_
 refine res_nil ?_
 exact rfl

noncomputable def m_plog_upto (p0 : GLog) (p1 : Int) : Option GLog :=
  (cutHi p0.fEntries (w64 (p1 - p0.fBase))).bind fun l4 =>
  some (⟨p0.fBase, p0.fBaseTerm, l4⟩ : GLog)
theorem c_plog_upto {w0 : World} {M : Nat → Prop} {H : List (Nat × Nat × Obj)} {R : List (Nat × Row)} {φ : World → Prop} (p0 : GLog) (Ap0_0 : Option Addr) (cp0_0 : Nat) (hcp0_0 : p0.fEntries.length ≤ cp0_0) (fp0_0 : ∀ W, φ W → Cl W Ap0_0 (p0.fEntries.flatMap GEntry.enc)) (p1 : Int) (r : GLog) (hm : m_plog_upto p0 p1 = some r) :
    Cn Try.prog 73 #[.agg #[.int .i64 p0.fBase, .int .i64 p0.fBaseTerm, .slice Ap0_0 p0.fEntries.length cp0_0], .int .i64 p1] ⟨w0, M, H, R, φ⟩ (fun x : Option Addr × Nat => .agg #[.int .i64 r.fBase, .int .i64 r.fBaseTerm, .slice x.1 r.fEntries.length x.2]) (fun x => r.fEntries.length ≤ x.2) (fun x => ⟨w0, M, H, R, fun W => φ W ∧ Cl W x.1 (r.fEntries.flatMap GEntry.enc)⟩) := by
 unfold m_plog_upto at hm
 refine cn_intro (fn := Try.f73) (N := 17) Try.func73 rfl Try.ntmps73 rfl ?_
 refine c_seq ?_
 refine c_region ?_
 refine g_e rfl (e_box 100020 rfl) (fun g1 _ => ?_)
 refine g_e rfl (e_alloc 100040 Try.zeroValue26) (fun g2 _ => ?_)
 refine g_nil ?_
 refine d_then ?_
 refine c_seq ?_
 refine c_region ?_
 refine g_v rfl r_move ?_
 refine g_v rfl (r_field (n := 0) Try.underlying26 rfl Try.sizeOf3 rfl rfl) ?_
 refine g_v rfl (r_load (tag := 100020) rfl rfl rfl Try.isAgg3) ?_
 refine g_v rfl (r_sub rfl rfl rfl) ?_
 refine g_v rfl r_assign ?_
 refine g_nil ?_
 refine d_then ?_
 refine c_seq ?_
 refine c_region ?_
 refine g_v rfl (r_field (n := 2) Try.underlying26 rfl Try.sizeOf24 rfl rfl) ?_
 refine g_v rfl (r_load (tag := 100020) rfl rfl rfl Try.isAgg24) ?_
 refine g_v rfl r_move ?_
 refine g_v rfl r_move ?_
 replace hm := bnd hm
 obtain ⟨l4, hl4, hm⟩ := hm
 have f3 := fun (W : World) (h : φ W) => cl_cutHi (enc := GEntry.enc) (sz := 3) (fun _ => rfl) hl4 (fp0_0 W h)
 refine g_v rfl (r_lcutFull Try.underlying24 Try.sizeOf35 rfl hcp0_0 rfl rfl hl4) ?_
 refine g_v rfl (r_field (n := 2) Try.underlying26 rfl Try.sizeOf24 rfl rfl) ?_
 refine g_storeL (tag := 100020) rfl rfl rfl rfl Try.sizeOf24 rfl rfl ?_
 refine g_nil ?_
 refine d_then ?_
 refine c_flat [(2, .pointer (some ⟨g1, 0, none⟩)), (4, .pointer (some ⟨g2, 0, none⟩))] ⟨rfl, rfl, trivial⟩ (fun u => ?_)
 refine c_sta ⟨w0, M, (100040, g2, .cells #[.int .i64 0, .int .i64 0, .slice none 0 0] 26 (0, 0)) :: (100020, g1, .cells #[.int .i64 p0.fBase, .int .i64 p0.fBaseTerm, .slice Ap0_0 l4.length l4.length] 26 (0, 0)) :: H, R, φ⟩ (fun _ h => h) ?_
 refine c_seq ?_
 refine c_region ?_
 refine g_v rfl (r_loadA (tag := 100020) rfl rfl Try.isAgg26 Try.sizeOf26 rfl rfl) ?_
 refine g_storeL (tag := 100040) rfl rfl rfl rfl Try.sizeOf26 rfl rfl ?_
 refine g_nil ?_
 refine d_then ?_
 refine c_ret ?_
 replace hm := Option.some.inj hm
 subst hm
 refine d_retC (Ap0_0, l4.length) Try.results73 ?_ (Nat.le_refl _) (fun W h => ok_pre (H1 := [_, _]) (R1 := []) h (fun W hφ => ⟨hφ, (fun W h => f3 W h) W hφ⟩)) (.inr rfl)
 refine res_agg (tag := 100040) rfl rfl Try.isAgg26 Try.sizeOf26 ?_
 refine res_nil ?_
 exact rfl

noncomputable def m_plog_Put_s2 (p2 : List GEntry) (p0 : GLog) (p1 : Int) (i501 : Int) : Option (Int ⊕ (Unit ⊕ (GLog × Int))) :=
  if i501 < (p2.length : Int) then
    (at_ p2 i501).bind fun x701 =>
    (m_plog_Term p0 (w64 ((w64 (p1 + 1)) + i501))).bind fun (z709 : Int × Bool) =>
    if p0.fBase < w64 ((w64 (p1 + 1)) + i501) then
      if z709.2 = true then
        if z709.1 ≠ x701.fTerm then
          (cutLo p2 i501).bind fun l742 =>
          (m_plog_upto p0 (w64 ((w64 ((w64 (p1 + 1)) + i501)) - 1))).bind fun x743 =>
          (m_plog_Add x743 l742).bind fun x749 =>
          some (.inr (.inr (x749, w64 ((w64 (p1 + 1)) + i501))))
        else
          some (.inl (w64 (i501 + 1)))
      else
        (cutLo p2 i501).bind fun l785 =>
        (m_plog_upto p0 (w64 ((w64 ((w64 (p1 + 1)) + i501)) - 1))).bind fun x786 =>
        (m_plog_Add x786 l785).bind fun x792 =>
        some (.inr (.inr (x792, w64 ((w64 (p1 + 1)) + i501))))
    else
      some (.inl (w64 (i501 + 1)))
  else
    some (.inr (.inl ()))
noncomputable def m_plog_Put_j1 (p0 : GLog) : Option (GLog × Int) :=
  some (p0, 0)
noncomputable def m_plog_Put (p0 : GLog) (p1 : Int) (p2 : List GEntry) : Option (GLog × Int) :=
  if p1 < 0 then
    some (p0, 0)
  else
    (m_plog_Last p0).bind fun x4 =>
    if x4 < p1 then
      some (p0, 0)
    else
      (loop (fun s => m_plog_Put_s2 p2 p0 p1 s) 0).bind fun e => Sum.elim (fun e => m_plog_Put_j1 p0) (fun x => some x) e
theorem c_plog_Put {w0 : World} {M : Nat → Prop} {H : List (Nat × Nat × Obj)} {R : List (Nat × Row)} {φ : World → Prop} (p0 : GLog) (Ap0_0 : Option Addr) (cp0_0 : Nat) (hcp0_0 : p0.fEntries.length ≤ cp0_0) (fp0_0 : ∀ W, φ W → Cl W Ap0_0 (p0.fEntries.flatMap GEntry.enc)) (p1 : Int) (p2 : List GEntry) (Ap2_0 : Option Addr) (cp2_0 : Nat) (hcp2_0 : p2.length ≤ cp2_0) (fp2_0 : ∀ W, φ W → Cl W Ap2_0 (p2.flatMap GEntry.enc)) (r : GLog × Int) (hm : m_plog_Put p0 p1 p2 = some r) :
    Cn Try.prog 20 #[.agg #[.int .i64 p0.fBase, .int .i64 p0.fBaseTerm, .slice Ap0_0 p0.fEntries.length cp0_0], .int .i64 p1, .slice Ap2_0 p2.length cp2_0] ⟨w0, M, H, R, φ⟩ (fun x : Option Addr × Nat => .tuple #[.agg #[.int .i64 r.1.fBase, .int .i64 r.1.fBaseTerm, .slice x.1 r.1.fEntries.length x.2], .int .i64 r.2]) (fun x => r.1.fEntries.length ≤ x.2) (fun x => ⟨w0, M, H, R, fun W => φ W ∧ Cl W x.1 (r.1.fEntries.flatMap GEntry.enc)⟩) := by
 unfold m_plog_Put at hm
 refine cn_intro (fn := Try.f20) (N := 64) Try.func20 rfl Try.ntmps20 rfl ?_
 refine c_seq ?_
 refine c_region ?_
 refine g_e rfl (e_box 100030 rfl) (fun g1 _ => ?_)
 refine g_e rfl (e_alloc 100060 Try.zeroValue26) (fun g2 _ => ?_)
 refine g_v rfl r_assign ?_
 refine g_nil ?_
 refine d_then ?_
 refine c_seq ?_
 refine c_seq ?_
 refine c_region ?_
 refine g_v rfl r_move ?_
 refine g_v rfl (r_lss rfl rfl) ?_
 refine g_v rfl r_move ?_
 refine g_if rfl rfl rfl rfl rfl (fun h3 => ?_) (fun h3 => ?_)
 ·
  replace hm := ite_f hm (of_decide_eq_false h3)
  refine g_v rfl r_move ?_
  refine g_do rfl rfl rfl rfl rfl h3 ?_
  refine g_v rfl (r_loadA (tag := 100030) rfl rfl Try.isAgg26 Try.sizeOf26 rfl rfl) ?_
  refine g_do rfl rfl rfl rfl rfl h3 ?_
  replace hm := bnd hm
  obtain ⟨x4, hx5, hm⟩ := hm
  refine g_cn ⟨w0, M, _, _, φ⟩ (fun _ h => h) Try.call38 rfl rfl (c_plog_Last p0 Ap0_0 cp0_0 hcp0_0 (fun W hS => fp0_0 W hS.now) _ hx5) (fun _ _ => ?_)
  refine g_do rfl rfl rfl rfl rfl h3 ?_
  refine g_v rfl (r_gtr rfl rfl) ?_
  refine g_v rfl (r_pick0 rfl h3) ?_
  refine g_nil ?_
  refine d_then ?_
  refine c_flat [(1, .int .i64 p1), (2, .slice Ap2_0 p2.length cp2_0), (3, .pointer (some ⟨g1, 0, none⟩)), (6, .pointer (some ⟨g2, 0, none⟩)), (20, .bool (decide (x4 < p1)))] ⟨rfl, rfl, rfl, rfl, rfl, trivial⟩ (fun u => ?_)
  refine c_sta ⟨w0, M, (100060, g2, .cells #[.int .i64 0, .int .i64 0, .slice none 0 0] 26 (0, 0)) :: (100030, g1, .cells #[.int .i64 p0.fBase, .int .i64 p0.fBaseTerm, .slice Ap0_0 p0.fEntries.length cp0_0] 26 (0, 0)) :: H, R, φ⟩ (fun _ h => h) ?_
  refine c_cond rfl (fun h6 => ?_) (fun h6 => ?_)
  ·
   replace hm := ite_t hm (of_decide_eq_true h6)
   refine c_seq ?_
   refine c_region ?_
   refine g_v rfl (r_loadA (tag := 100030) rfl rfl Try.isAgg26 Try.sizeOf26 rfl rfl) ?_
   refine g_storeL (tag := 100060) rfl rfl rfl rfl Try.sizeOf26 rfl rfl ?_
   refine g_v rfl r_assign ?_
   refine g_nil ?_
   refine d_then ?_
   refine c_ret ?_
   refine d_ret_then ?_
   replace hm := Option.some.inj hm
   subst hm
   refine d_retC (Ap0_0, cp0_0) Try.results20 ?_ hcp0_0 (fun W h => ok_pre (H1 := [_, _]) (R1 := []) h (fun W hφ => ⟨hφ, (fun W h => fp0_0 W h) W hφ⟩)) (.inr rfl)
   refine res_agg (tag := 100060) rfl rfl Try.isAgg26 Try.sizeOf26 ?_
   refine res_tmp ?_
   refine res_nil ?_
   exact rfl
  ·
   replace hm := ite_f hm (of_decide_eq_false h6)
   refine c_skip ?_
   refine d_then ?_
   refine c_seq ?_
   refine c_seq ?_
   refine c_region ?_
   refine g_v rfl r_move ?_
   refine g_v rfl (r_lenL Try.underlying24 rfl) ?_
   refine g_v rfl r_move ?_
   refine g_nil ?_
   refine d_then ?_
   refine c_cut (ι := Unit) [3, 6] (fun _ => []) (fun _ => ⟨w0, M, (100060, g2, .cells #[.int .i64 0, .int .i64 0, .slice none 0 0] 26 (0, 0)) :: (100030, g1, .cells #[.int .i64 p0.fBase, .int .i64 p0.fBaseTerm, .slice Ap0_0 p0.fEntries.length cp0_0] 26 (0, 0)) :: H, R, φ⟩) (fun _ => m_plog_Put_j1 p0 = some r) ?_ (fun _ u hm => ?_)
   ·
    refine c_block ?_
    replace hm := bnd hm
    obtain ⟨out2, hl2, hr2⟩ := hm
    obtain ⟨n600', hl2⟩ := loop_lp hl2
    refine c_loopU (ι := Nat × Int) [1, 2, 3, 6, 22, 23, 24] (fun ⟨n600, i501⟩ => [(24, .int .i64 i501)]) (fun ⟨n600, i501⟩ => ⟨w0, M, (100060, g2, .cells #[.int .i64 0, .int .i64 0, .slice none 0 0] 26 (0, 0)) :: (100030, g1, .cells #[.int .i64 p0.fBase, .int .i64 p0.fBaseTerm, .slice Ap0_0 p0.fEntries.length cp0_0] 26 (0, 0)) :: H, R, φ⟩) (fun ⟨n600, i501⟩ => Lp (fun s => m_plog_Put_s2 p2 p0 p1 s) n600 i501 out2) (fun ⟨n600, i501⟩ => n600) (n600', 0) hl2 ⟨rfl, rfl, rfl, rfl, rfl, rfl, rfl, trivial⟩ (fun W h => h.phi (fun W hφ => hφ)) (fun ⟨n600, i501⟩ u hlp => ?_)
    obtain ⟨o2, hm, hnx2⟩ := lp_step hlp
    clear hlp
    replace hm : m_plog_Put_s2 p2 p0 p1 i501 = some o2 := hm
    unfold m_plog_Put_s2 at hm
    refine c_flat [(1, .int .i64 p1), (2, .slice Ap2_0 p2.length cp2_0), (3, .pointer (some ⟨g1, 0, none⟩)), (6, .pointer (some ⟨g2, 0, none⟩)), (22, .slice Ap2_0 p2.length cp2_0), (23, .int .i64 (p2.length : Int)), (24, .int .i64 i501)] ⟨rfl, rfl, rfl, rfl, rfl, rfl, rfl, trivial⟩ (fun u => ?_)
    refine c_sta ⟨w0, M, (100060, g2, .cells #[.int .i64 0, .int .i64 0, .slice none 0 0] 26 (0, 0)) :: (100030, g1, .cells #[.int .i64 p0.fBase, .int .i64 p0.fBaseTerm, .slice Ap0_0 p0.fEntries.length cp0_0] 26 (0, 0)) :: H, R, φ⟩ (fun _ h => h) ?_
    refine c_seq ?_
    refine c_region ?_
    refine g_v rfl (r_lss rfl rfl) ?_
    refine g_nil ?_
    refine d_then ?_
    refine c_seq ?_
    refine c_cond rfl (fun h700 => ?_) (fun h700 => ?_)
    ·
     replace hm := ite_t hm (of_decide_eq_true h700)
     refine c_skip ?_
     refine d_then ?_
     refine c_seq ?_
     refine c_block ?_
     refine c_seq ?_
     refine c_region ?_
     refine g_v rfl r_move ?_
     replace hm := bnd hm
     obtain ⟨x701, hx701, hm⟩ := hm
     refine g_know _ (fun W hS => cl_at (p := φ) (sz := 3) (fun _ => rfl) (by decide) hS.now fp2_0 hx701) ?_
     rintro ⟨ad702, hA704, f703⟩
     refine g_v rfl (r_ix Try.underlying24 Try.sizeOf35 rfl hA704 rfl hx701) ?_
     refine g_v rfl (r_ldA rfl Try.isAgg35 Try.sizeOf35 (fun W hS => (f703 W hS.now).take 3) rfl) ?_
     refine g_e rfl (e_alloc 100090 Try.zeroValue35) (fun g705 _ => ?_)
     refine g_v rfl r_assign ?_
     refine g_storeL (tag := 100090) rfl rfl rfl rfl Try.sizeOf35 rfl rfl ?_
     refine g_nil ?_
     refine d_then ?_
     refine c_seq ?_
     refine c_region ?_
     refine g_v rfl r_move ?_
     refine g_v rfl (r_add rfl rfl rfl) ?_
     refine g_v rfl r_move ?_
     refine g_v rfl (r_add rfl rfl rfl) ?_
     refine g_v rfl r_assign ?_
     refine g_nil ?_
     refine d_then ?_
     refine c_flat [(1, .int .i64 p1), (2, .slice Ap2_0 p2.length cp2_0), (3, .pointer (some ⟨g1, 0, none⟩)), (6, .pointer (some ⟨g2, 0, none⟩)), (8, .int .i64 i501), (9, .pointer (some ⟨g705, 0, none⟩)), (10, .int .i64 (w64 ((w64 (p1 + 1)) + i501))), (22, .slice Ap2_0 p2.length cp2_0), (23, .int .i64 (p2.length : Int)), (24, .int .i64 i501)] ⟨rfl, rfl, rfl, rfl, rfl, rfl, rfl, rfl, rfl, rfl, trivial⟩ (fun u => ?_)
     refine c_sta ⟨w0, M, (100090, g705, .cells #[.int .i64 x701.fTerm, .int .i64 x701.fKind, .string x701.fData] 35 (0, 0)) :: (100060, g2, .cells #[.int .i64 0, .int .i64 0, .slice none 0 0] 26 (0, 0)) :: (100030, g1, .cells #[.int .i64 p0.fBase, .int .i64 p0.fBaseTerm, .slice Ap0_0 p0.fEntries.length cp0_0] 26 (0, 0)) :: H, R, φ⟩ (fun _ h => h) ?_
     refine c_seq ?_
     refine c_region ?_
     refine g_v rfl (r_loadA (tag := 100030) rfl rfl Try.isAgg26 Try.sizeOf26 rfl rfl) ?_
     refine g_v rfl r_move ?_
     replace hm := bnd hm
     obtain ⟨⟨x706, x707⟩, hx708, hm⟩ := hm
     refine g_cn ⟨w0, M, _, _, φ⟩ (fun _ h => h) Try.call31 rfl rfl (c_plog_Term p0 Ap0_0 cp0_0 hcp0_0 (fun W hS => fp0_0 W hS.now) (w64 ((w64 (p1 + 1)) + i501)) _ hx708) (fun _ _ => ?_)
     refine g_v rfl r_move ?_
     refine g_v rfl (r_extract rfl rfl) ?_
     refine g_v rfl (r_extract rfl rfl) ?_
     refine g_v rfl r_assign ?_
     refine g_v rfl r_assign ?_
     refine g_nil ?_
     refine d_then ?_
     refine c_seq ?_
     refine c_region ?_
     refine g_v rfl r_move ?_
     refine g_v rfl (r_field (n := 0) Try.underlying26 rfl Try.sizeOf3 rfl rfl) ?_
     refine g_v rfl (r_load (tag := 100030) rfl rfl rfl Try.isAgg3) ?_
     refine g_v rfl (r_gtr rfl rfl) ?_
     refine g_v rfl r_move ?_
     refine g_if rfl rfl rfl rfl rfl (fun h710 => ?_) (fun h710 => ?_)
     ·
      replace hm := ite_t hm (of_decide_eq_true h710)
      refine g_v rfl r_move ?_
      refine g_do rfl rfl rfl rfl rfl h710 ?_
      refine g_v rfl (r_not rfl) ?_
      refine g_do rfl rfl rfl rfl rfl h710 ?_
      refine g_v rfl r_move ?_
      refine g_if rfl rfl rfl rfl rfl (fun h711 => ?_) (fun h711 => ?_)
      ·
       have h711' : x707 = true := by revert h711; cases x707 <;> simp
       replace hm := ite_t hm h711'
       refine g_v rfl r_move ?_
       refine g_do rfl rfl rfl rfl rfl h711 ?_
       refine g_v rfl (r_field (n := 0) Try.underlying35 rfl Try.sizeOf3 rfl rfl) ?_
       refine g_do rfl rfl rfl rfl rfl h711 ?_
       refine g_v rfl (r_load (tag := 100090) rfl rfl rfl Try.isAgg3) ?_
       refine g_do rfl rfl rfl rfl rfl h711 ?_
       refine g_v rfl (r_neq rfl rfl) ?_
       refine g_do rfl rfl rfl rfl rfl h710 ?_
       refine g_v rfl (r_pick0 rfl h711) ?_
       refine g_v rfl (r_pick1 rfl h710) ?_
       refine g_nil ?_
       refine d_then ?_
       refine c_flat [(1, .int .i64 p1), (2, .slice Ap2_0 p2.length cp2_0), (3, .pointer (some ⟨g1, 0, none⟩)), (6, .pointer (some ⟨g2, 0, none⟩)), (8, .int .i64 i501), (10, .int .i64 (w64 ((w64 (p1 + 1)) + i501))), (22, .slice Ap2_0 p2.length cp2_0), (23, .int .i64 (p2.length : Int)), (24, .int .i64 i501), (52, .bool (decide (x706 ≠ x701.fTerm)))] ⟨rfl, rfl, rfl, rfl, rfl, rfl, rfl, rfl, rfl, rfl, trivial⟩ (fun u => ?_)
       refine c_sta ⟨w0, M, (100090, g705, .cells #[.int .i64 x701.fTerm, .int .i64 x701.fKind, .string x701.fData] 35 (0, 0)) :: (100060, g2, .cells #[.int .i64 0, .int .i64 0, .slice none 0 0] 26 (0, 0)) :: (100030, g1, .cells #[.int .i64 p0.fBase, .int .i64 p0.fBaseTerm, .slice Ap0_0 p0.fEntries.length cp0_0] 26 (0, 0)) :: H, R, φ⟩ (fun _ h => h) ?_
       refine c_cond rfl (fun h712 => ?_) (fun h712 => ?_)
       ·
        replace hm := ite_t hm (of_decide_eq_true h712)
        refine c_seq ?_
        refine ga_start (n := 11) ⟨w0, M, (100090, g705, .cells #[.int .i64 x701.fTerm, .int .i64 x701.fKind, .string x701.fData] 35 (0, 0)) :: (100060, g2, .cells #[.int .i64 0, .int .i64 0, .slice none 0 0] 26 (0, 0)) :: (100030, g1, .cells #[.int .i64 p0.fBase, .int .i64 p0.fBaseTerm, .slice Ap0_0 p0.fEntries.length cp0_0] 26 (0, 0)) :: H, R, φ⟩ [9] #[false, false, false, false, false, false, false, false, false, false, false] (fun W h => h.phi (fun W hφ => hφ)) mixed rfl rfl ?_
        refine ga_v (i := 0) #[true, false, false, false, false, false, false, false, false, false, false] rfl (by kernel_rfl) (fun _ _ _ _ h => h) rfl (r_loadA (tag := 100030) rfl rfl Try.isAgg26 Try.sizeOf26 rfl rfl) ?_
        refine ga_v (i := 1) #[true, true, false, false, false, false, false, false, false, false, false] rfl (by kernel_rfl) (fun _ _ _ _ h => h) rfl (r_move) ?_
        refine ga_v (i := 2) #[true, true, true, false, false, false, false, false, false, false, false] rfl (by kernel_rfl) (fun _ _ _ _ h => h) rfl (r_sub rfl rfl rfl) ?_
        refine ga_v (i := 4) #[true, true, true, false, true, false, false, false, false, false, false] rfl (by kernel_rfl) (fun _ _ _ _ h => h) rfl (r_move) ?_
        refine ga_v (i := 5) #[true, true, true, false, true, true, false, false, false, false, false] rfl (by kernel_rfl) (fun _ _ _ _ h => h) rfl (r_move) ?_
        replace hm := bnd hm
        obtain ⟨l742, hl742, hm⟩ := hm
        have f741 := fun (W : World) (h : φ W) => cl_cutLo (enc := GEntry.enc) (sz := 3) (c := cp2_0) (fun _ => rfl) hcp2_0 hl742 (fp2_0 W h)
        refine ga_v (i := 6) #[true, true, true, false, true, true, true, false, false, false, false] rfl (by kernel_rfl) (fun _ _ _ _ h => h) rfl (r_lcutLo Try.underlying24 Try.sizeOf35 rfl hcp2_0 rfl hl742) ?_
        refine ga_p (i := 8) #[true, true, true, false, true, true, true, false, true, false, false] rfl (.inl rfl) (by kernel_rfl) (fun _ _ _ _ h => h) rfl ?_
        replace hm := bnd hm
        obtain ⟨x743, hx744, hm⟩ := hm
        refine ga_cn (first := #[]) (i := 3) #[true, true, true, true, true, true, true, false, true, false, false] rfl (by kernel_rfl) (by decide)  ⟨w0, M, _, _, φ⟩ (fun _ h => h) Try.call73 rfl rfl rfl (c_plog_upto p0 Ap0_0 cp0_0 hcp0_0 (fun W h => fp0_0 W h) (w64 ((w64 ((w64 (p1 + 1)) + i501)) - 1)) _ hx744) (fun ⟨A745, c746⟩ W hc746 h => (h.phi (fun _ hh => hh.1)).phi (fun W hφ => hφ)) (fun ⟨A745, c746⟩ hc746 => ?_)
        refine ga_abs (fun φ748 q748' => ?_)
        have q748 : ∀ W, φ748 W → φ W := fun W h => (q748' W h).1
        have f747 := fun (W : World) (h : φ748 W) => (q748' W h).2
        replace hm := bnd hm
        obtain ⟨x749, hx750, hm⟩ := hm
        refine ga_cn (first := #[]) (i := 7) #[true, true, true, true, true, true, true, true, true, false, false] rfl (by kernel_rfl) (by decide)  ⟨w0, M, _, _, φ748⟩ (fun _ h => h) Try.call72 rfl rfl rfl (c_plog_Add x743 A745 c746 hc746 (fun W h => f747 W h) l742 (if cp2_0 = (i501).toNat then Ap2_0 else Ap2_0.map (·.add ((i501).toNat * 3))) (cp2_0 - (i501).toNat) (cutLo_len hcp2_0 hl742) (fun W h => f741 W (q748 _ h)) _ hx750) (fun ⟨A751, c752⟩ W hc752 h => (h.phi (fun _ hh => hh.1)).phi (fun W hφ => (q748 _ hφ))) (fun ⟨A751, c752⟩ hc752 => ?_)
        refine ga_abs (fun φ754 q754' => ?_)
        have q754 : ∀ W, φ754 W → φ748 W := fun W h => (q754' W h).1
        have f753 := fun (W : World) (h : φ754 W) => (q754' W h).2
        refine ga_lastL (i := 9) (tag := 100060) #[true, true, true, true, true, true, true, true, true, true, false] rfl (by kernel_rfl) (by decide) rfl rfl rfl rfl Try.sizeOf26 rfl rfl ?_
        refine gz_p (i := 10) #[true, true, true, true, true, true, true, true, true, true, true] rfl (.inr rfl) (by kernel_rfl) (fun _ _ _ _ h => h) rfl ?_
        refine gz_done (by kernel_rfl) ?_
        refine d_then ?_
        refine c_flat [(6, .pointer (some ⟨g2, 0, none⟩)), (7, .int .i64 (w64 ((w64 (p1 + 1)) + i501)))] ⟨rfl, rfl, trivial⟩ (fun u => ?_)
        refine c_sta ⟨w0, M, (100090, g705, .cells #[.int .i64 x701.fTerm, .int .i64 x701.fKind, .string x701.fData] 35 (0, 0)) :: (100060, g2, .cells #[.int .i64 x749.fBase, .int .i64 x749.fBaseTerm, .slice A751 x749.fEntries.length c752] 26 (0, 0)) :: (100030, g1, .cells #[.int .i64 p0.fBase, .int .i64 p0.fBaseTerm, .slice Ap0_0 p0.fEntries.length cp0_0] 26 (0, 0)) :: H, R, φ754⟩ (fun _ h => h) ?_
        refine c_ret ?_
        refine d_ret_block ?_
        refine d_ret_then ?_
        refine d_ret_then ?_
        refine d_ret_block ?_
        refine d_ret_then ?_
        refine d_ret_then ?_
        replace hm := nx_out (C := (fun e => Sum.elim (fun e => m_plog_Put_j1 p0) (fun x => some x) e = some r)) hm hnx2 hr2
        replace hm : some (x749, w64 ((w64 (p1 + 1)) + i501)) = some r := hm
        replace hm := Option.some.inj hm
        subst hm
        refine d_retC (A751, c752) Try.results20 ?_ hc752 (fun W h => ok_pre (H1 := [_, _, _]) (R1 := []) h (fun W hφ => ⟨(q748 _ (q754 _ hφ)), (fun W h => f753 W h) W hφ⟩)) (.inr rfl)
        refine res_agg (tag := 100060) rfl rfl Try.isAgg26 Try.sizeOf26 ?_
        refine res_tmp ?_
        refine res_nil ?_
        exact rfl
       ·
        replace hm := ite_f hm (of_decide_eq_false h712)
        refine c_skip ?_
        refine d_normal_block ?_
        refine d_then ?_
        refine c_region ?_
        refine g_v rfl (r_add rfl rfl rfl) ?_
        refine g_v rfl r_move ?_
        refine g_nil ?_
        obtain ⟨n755, hn755, hlp⟩ := nx_inl hm hnx2
        exact d_round (n755, w64 (i501 + 1)) hlp hn755 ⟨rfl, rfl, rfl, rfl, rfl, rfl, rfl, trivial⟩ (fun W h => (h.dropH (t := 100090) rfl).phi (fun W hφ => hφ))
      ·
       have h711' : x707 = false := by revert h711; cases x707 <;> simp
       replace hm := ite_f hm (bool_nt h711')
       refine g_no rfl rfl rfl rfl rfl h711 ?_
       refine g_no rfl rfl rfl rfl rfl h711 ?_
       refine g_no rfl rfl rfl rfl rfl h711 ?_
       refine g_do rfl rfl rfl rfl rfl h710 ?_
       refine g_v rfl (r_pick1 rfl h711) ?_
       refine g_v rfl (r_pick1 rfl h710) ?_
       refine g_nil ?_
       refine d_then ?_
       refine c_flat [(1, .int .i64 p1), (2, .slice Ap2_0 p2.length cp2_0), (3, .pointer (some ⟨g1, 0, none⟩)), (6, .pointer (some ⟨g2, 0, none⟩)), (8, .int .i64 i501), (10, .int .i64 (w64 ((w64 (p1 + 1)) + i501))), (22, .slice Ap2_0 p2.length cp2_0), (23, .int .i64 (p2.length : Int)), (24, .int .i64 i501), (52, .bool true)] ⟨rfl, rfl, rfl, rfl, rfl, rfl, rfl, rfl, rfl, rfl, trivial⟩ (fun u => ?_)
       refine c_sta ⟨w0, M, (100090, g705, .cells #[.int .i64 x701.fTerm, .int .i64 x701.fKind, .string x701.fData] 35 (0, 0)) :: (100060, g2, .cells #[.int .i64 0, .int .i64 0, .slice none 0 0] 26 (0, 0)) :: (100030, g1, .cells #[.int .i64 p0.fBase, .int .i64 p0.fBaseTerm, .slice Ap0_0 p0.fEntries.length cp0_0] 26 (0, 0)) :: H, R, φ⟩ (fun _ h => h) ?_
       refine c_cond1 rfl rfl ?_
       refine c_seq ?_
       refine ga_start (n := 11) ⟨w0, M, (100090, g705, .cells #[.int .i64 x701.fTerm, .int .i64 x701.fKind, .string x701.fData] 35 (0, 0)) :: (100060, g2, .cells #[.int .i64 0, .int .i64 0, .slice none 0 0] 26 (0, 0)) :: (100030, g1, .cells #[.int .i64 p0.fBase, .int .i64 p0.fBaseTerm, .slice Ap0_0 p0.fEntries.length cp0_0] 26 (0, 0)) :: H, R, φ⟩ [9] #[false, false, false, false, false, false, false, false, false, false, false] (fun W h => h.phi (fun W hφ => hφ)) mixed rfl rfl ?_
       refine ga_v (i := 0) #[true, false, false, false, false, false, false, false, false, false, false] rfl (by kernel_rfl) (fun _ _ _ _ h => h) rfl (r_loadA (tag := 100030) rfl rfl Try.isAgg26 Try.sizeOf26 rfl rfl) ?_
       refine ga_v (i := 1) #[true, true, false, false, false, false, false, false, false, false, false] rfl (by kernel_rfl) (fun _ _ _ _ h => h) rfl (r_move) ?_
       refine ga_v (i := 2) #[true, true, true, false, false, false, false, false, false, false, false] rfl (by kernel_rfl) (fun _ _ _ _ h => h) rfl (r_sub rfl rfl rfl) ?_
       refine ga_v (i := 4) #[true, true, true, false, true, false, false, false, false, false, false] rfl (by kernel_rfl) (fun _ _ _ _ h => h) rfl (r_move) ?_
       refine ga_v (i := 5) #[true, true, true, false, true, true, false, false, false, false, false] rfl (by kernel_rfl) (fun _ _ _ _ h => h) rfl (r_move) ?_
       replace hm := bnd hm
       obtain ⟨l785, hl785, hm⟩ := hm
       have f784 := fun (W : World) (h : φ W) => cl_cutLo (enc := GEntry.enc) (sz := 3) (c := cp2_0) (fun _ => rfl) hcp2_0 hl785 (fp2_0 W h)
       refine ga_v (i := 6) #[true, true, true, false, true, true, true, false, false, false, false] rfl (by kernel_rfl) (fun _ _ _ _ h => h) rfl (r_lcutLo Try.underlying24 Try.sizeOf35 rfl hcp2_0 rfl hl785) ?_
       refine ga_p (i := 8) #[true, true, true, false, true, true, true, false, true, false, false] rfl (.inl rfl) (by kernel_rfl) (fun _ _ _ _ h => h) rfl ?_
       replace hm := bnd hm
       obtain ⟨x786, hx787, hm⟩ := hm
       refine ga_cn (first := #[]) (i := 3) #[true, true, true, true, true, true, true, false, true, false, false] rfl (by kernel_rfl) (by decide)  ⟨w0, M, _, _, φ⟩ (fun _ h => h) Try.call73 rfl rfl rfl (c_plog_upto p0 Ap0_0 cp0_0 hcp0_0 (fun W h => fp0_0 W h) (w64 ((w64 ((w64 (p1 + 1)) + i501)) - 1)) _ hx787) (fun ⟨A788, c789⟩ W hc789 h => (h.phi (fun _ hh => hh.1)).phi (fun W hφ => hφ)) (fun ⟨A788, c789⟩ hc789 => ?_)
       refine ga_abs (fun φ791 q791' => ?_)
       have q791 : ∀ W, φ791 W → φ W := fun W h => (q791' W h).1
       have f790 := fun (W : World) (h : φ791 W) => (q791' W h).2
       replace hm := bnd hm
       obtain ⟨x792, hx793, hm⟩ := hm
       refine ga_cn (first := #[]) (i := 7) #[true, true, true, true, true, true, true, true, true, false, false] rfl (by kernel_rfl) (by decide)  ⟨w0, M, _, _, φ791⟩ (fun _ h => h) Try.call72 rfl rfl rfl (c_plog_Add x786 A788 c789 hc789 (fun W h => f790 W h) l785 (if cp2_0 = (i501).toNat then Ap2_0 else Ap2_0.map (·.add ((i501).toNat * 3))) (cp2_0 - (i501).toNat) (cutLo_len hcp2_0 hl785) (fun W h => f784 W (q791 _ h)) _ hx793) (fun ⟨A794, c795⟩ W hc795 h => (h.phi (fun _ hh => hh.1)).phi (fun W hφ => (q791 _ hφ))) (fun ⟨A794, c795⟩ hc795 => ?_)
       refine ga_abs (fun φ797 q797' => ?_)
       have q797 : ∀ W, φ797 W → φ791 W := fun W h => (q797' W h).1
       have f796 := fun (W : World) (h : φ797 W) => (q797' W h).2
       refine ga_lastL (i := 9) (tag := 100060) #[true, true, true, true, true, true, true, true, true, true, false] rfl (by kernel_rfl) (by decide) rfl rfl rfl rfl Try.sizeOf26 rfl rfl ?_
       refine gz_p (i := 10) #[true, true, true, true, true, true, true, true, true, true, true] rfl (.inr rfl) (by kernel_rfl) (fun _ _ _ _ h => h) rfl ?_
       refine gz_done (by kernel_rfl) ?_
       refine d_then ?_
       refine c_flat [(6, .pointer (some ⟨g2, 0, none⟩)), (7, .int .i64 (w64 ((w64 (p1 + 1)) + i501)))] ⟨rfl, rfl, trivial⟩ (fun u => ?_)
       refine c_sta ⟨w0, M, (100090, g705, .cells #[.int .i64 x701.fTerm, .int .i64 x701.fKind, .string x701.fData] 35 (0, 0)) :: (100060, g2, .cells #[.int .i64 x792.fBase, .int .i64 x792.fBaseTerm, .slice A794 x792.fEntries.length c795] 26 (0, 0)) :: (100030, g1, .cells #[.int .i64 p0.fBase, .int .i64 p0.fBaseTerm, .slice Ap0_0 p0.fEntries.length cp0_0] 26 (0, 0)) :: H, R, φ797⟩ (fun _ h => h) ?_
       refine c_ret ?_
       refine d_ret_block ?_
       refine d_ret_then ?_
       refine d_ret_then ?_
       refine d_ret_block ?_
       refine d_ret_then ?_
       refine d_ret_then ?_
       replace hm := nx_out (C := (fun e => Sum.elim (fun e => m_plog_Put_j1 p0) (fun x => some x) e = some r)) hm hnx2 hr2
       replace hm : some (x792, w64 ((w64 (p1 + 1)) + i501)) = some r := hm
       replace hm := Option.some.inj hm
       subst hm
       refine d_retC (A794, c795) Try.results20 ?_ hc795 (fun W h => ok_pre (H1 := [_, _, _]) (R1 := []) h (fun W hφ => ⟨(q791 _ (q797 _ hφ)), (fun W h => f796 W h) W hφ⟩)) (.inr rfl)
       refine res_agg (tag := 100060) rfl rfl Try.isAgg26 Try.sizeOf26 ?_
       refine res_tmp ?_
       refine res_nil ?_
       exact rfl
     ·
      replace hm := ite_f hm (of_decide_eq_false h710)
      refine g_no rfl rfl rfl rfl rfl h710 ?_
      refine g_no rfl rfl rfl rfl rfl h710 ?_
      refine g_nu rfl rfl rfl rfl rfl ?_
      refine g_nu rfl rfl rfl rfl rfl ?_
      refine g_nu rfl rfl rfl rfl rfl ?_
      refine g_nu rfl rfl rfl rfl rfl ?_
      refine g_no rfl rfl rfl rfl rfl h710 ?_
      refine g_v rfl (r_pick0 rfl h710) ?_
      refine g_nil ?_
      refine d_then ?_
      refine c_flat [(1, .int .i64 p1), (2, .slice Ap2_0 p2.length cp2_0), (3, .pointer (some ⟨g1, 0, none⟩)), (6, .pointer (some ⟨g2, 0, none⟩)), (8, .int .i64 i501), (10, .int .i64 (w64 ((w64 (p1 + 1)) + i501))), (22, .slice Ap2_0 p2.length cp2_0), (23, .int .i64 (p2.length : Int)), (24, .int .i64 i501), (52, .bool false)] ⟨rfl, rfl, rfl, rfl, rfl, rfl, rfl, rfl, rfl, rfl, trivial⟩ (fun u => ?_)
      refine c_sta ⟨w0, M, (100090, g705, .cells #[.int .i64 x701.fTerm, .int .i64 x701.fKind, .string x701.fData] 35 (0, 0)) :: (100060, g2, .cells #[.int .i64 0, .int .i64 0, .slice none 0 0] 26 (0, 0)) :: (100030, g1, .cells #[.int .i64 p0.fBase, .int .i64 p0.fBaseTerm, .slice Ap0_0 p0.fEntries.length cp0_0] 26 (0, 0)) :: H, R, φ⟩ (fun _ h => h) ?_
      refine c_cond0 rfl rfl ?_
      refine c_skip ?_
      refine d_normal_block ?_
      refine d_then ?_
      refine c_region ?_
      refine g_v rfl (r_add rfl rfl rfl) ?_
      refine g_v rfl r_move ?_
      refine g_nil ?_
      obtain ⟨n798, hn798, hlp⟩ := nx_inl hm hnx2
      exact d_round (n798, w64 (i501 + 1)) hlp hn798 ⟨rfl, rfl, rfl, rfl, rfl, rfl, rfl, trivial⟩ (fun W h => (h.dropH (t := 100090) rfl).phi (fun W hφ => hφ))
    ·
     replace hm := ite_f hm (of_decide_eq_false h700)
     refine c_exit ?_
     refine d_exit_then ?_
     refine d_exit_then ?_
     refine d_exit_block ?_
     replace hm := nx_out (C := (fun e => Sum.elim (fun e => m_plog_Put_j1 p0) (fun x => some x) e = some r)) hm hnx2 hr2
     exact d_round () hm Nat.zero_lt_one ⟨rfl, rfl, trivial⟩ (fun W h => h.phi (fun W hφ => hφ))
   ·
    unfold m_plog_Put_j1 at hm
    refine d_flat [(3, .pointer (some ⟨g1, 0, none⟩)), (6, .pointer (some ⟨g2, 0, none⟩))] ⟨rfl, rfl, trivial⟩ (fun u => ?_)
    refine d_sta ⟨w0, M, (100060, g2, .cells #[.int .i64 0, .int .i64 0, .slice none 0 0] 26 (0, 0)) :: (100030, g1, .cells #[.int .i64 p0.fBase, .int .i64 p0.fBaseTerm, .slice Ap0_0 p0.fEntries.length cp0_0] 26 (0, 0)) :: H, R, φ⟩ (fun _ h => h) ?_
    refine d_then ?_
    refine c_seq ?_
    refine c_region ?_
    refine g_v rfl (r_loadA (tag := 100030) rfl rfl Try.isAgg26 Try.sizeOf26 rfl rfl) ?_
    refine g_storeL (tag := 100060) rfl rfl rfl rfl Try.sizeOf26 rfl rfl ?_
    refine g_v rfl r_assign ?_
    refine g_nil ?_
    refine d_then ?_
    refine c_ret ?_
    replace hm := Option.some.inj hm
    subst hm
    refine d_retC (Ap0_0, cp0_0) Try.results20 ?_ hcp0_0 (fun W h => ok_pre (H1 := [_, _]) (R1 := []) h (fun W hφ => ⟨hφ, (fun W h => fp0_0 W h) W hφ⟩)) (.inr rfl)
    refine res_agg (tag := 100060) rfl rfl Try.isAgg26 Try.sizeOf26 ?_
    refine res_tmp ?_
    refine res_nil ?_
    exact rfl
 ·
  replace hm := ite_t hm (of_decide_eq_true h3)
  refine g_no rfl rfl rfl rfl rfl h3 ?_
  refine g_no rfl rfl rfl rfl rfl h3 ?_
  refine g_no rfl rfl rfl rfl rfl h3 ?_
  refine g_v rfl (r_pick1 rfl h3) ?_
  refine g_nil ?_
  refine d_then ?_
  refine c_cond1 rfl rfl ?_
  refine c_seq ?_
  refine c_region ?_
  refine g_v rfl (r_loadA (tag := 100030) rfl rfl Try.isAgg26 Try.sizeOf26 rfl rfl) ?_
  refine g_storeL (tag := 100060) rfl rfl rfl rfl Try.sizeOf26 rfl rfl ?_
  refine g_v rfl r_assign ?_
  refine g_nil ?_
  refine d_then ?_
  refine c_flat [(6, .pointer (some ⟨g2, 0, none⟩)), (7, .int .i64 0)] ⟨rfl, rfl, trivial⟩ (fun u => ?_)
  refine c_sta ⟨w0, M, (100060, g2, .cells #[.int .i64 p0.fBase, .int .i64 p0.fBaseTerm, .slice Ap0_0 p0.fEntries.length cp0_0] 26 (0, 0)) :: (100030, g1, .cells #[.int .i64 p0.fBase, .int .i64 p0.fBaseTerm, .slice Ap0_0 p0.fEntries.length cp0_0] 26 (0, 0)) :: H, R, φ⟩ (fun _ h => h) ?_
  refine c_ret ?_
  refine d_ret_then ?_
  replace hm := Option.some.inj hm
  subst hm
  refine d_retC (Ap0_0, cp0_0) Try.results20 ?_ hcp0_0 (fun W h => ok_pre (H1 := [_, _]) (R1 := []) h (fun W hφ => ⟨hφ, (fun W h => fp0_0 W h) W hφ⟩)) (.inr rfl)
  refine res_agg (tag := 100060) rfl rfl Try.isAgg26 Try.sizeOf26 ?_
  refine res_tmp ?_
  refine res_nil ?_
  exact rfl

noncomputable def m_plog_Newer (p0 : GLog) (p1 : Int) (p2 : Int) : Option Bool :=
  (m_plog_Last p0).bind fun x14 =>
  (m_plog_Term p0 x14).bind fun (z19 : Int × Bool) =>
  if z19.1 < p2 then
    some true
  else
    if p2 = z19.1 then
      (m_plog_Last p0).bind fun x22 =>
      some (decide (x22 ≤ p1))
    else
      some false
theorem c_plog_Newer {w0 : World} {M : Nat → Prop} {H : List (Nat × Nat × Obj)} {R : List (Nat × Row)} {φ : World → Prop} (p0 : GLog) (Ap0_0 : Option Addr) (cp0_0 : Nat) (hcp0_0 : p0.fEntries.length ≤ cp0_0) (fp0_0 : ∀ W, (Sta.mk w0 M H R φ).ok W → Cl W Ap0_0 (p0.fEntries.flatMap GEntry.enc)) (p1 : Int) (p2 : Int) (r : Bool) (hm : m_plog_Newer p0 p1 p2 = some r) :
    Cn Try.prog 16 #[.agg #[.int .i64 p0.fBase, .int .i64 p0.fBaseTerm, .slice Ap0_0 p0.fEntries.length cp0_0], .int .i64 p1, .int .i64 p2] ⟨w0, M, H, R, φ⟩ (fun x : Unit => .bool r) (fun x => True) (fun x => ⟨w0, M, H, R, φ⟩) := by
 unfold m_plog_Newer at hm
 refine cn_intro (fn := Try.f16) (N := 30) Try.func16 rfl Try.ntmps16 rfl ?_
 refine c_seq ?_
 refine c_region ?_
 refine g_e rfl (e_box 100030 rfl) (fun g1 _ => ?_)
 refine g_v rfl r_assign ?_
 refine g_nil ?_
 refine d_then ?_
 refine c_seq ?_
 refine ga_start (n := 9) ⟨w0, M, (100030, g1, .cells #[.int .i64 p0.fBase, .int .i64 p0.fBaseTerm, .slice Ap0_0 p0.fEntries.length cp0_0] 26 (0, 0)) :: H, R, φ⟩ [] #[false, false, false, false, false, false, false, false, false] (fun W h => h.phi (fun W hφ => hφ)) mixed rfl rfl ?_
 refine ga_v (i := 0) #[true, false, false, false, false, false, false, false, false] rfl (by kernel_rfl) (fun _ _ _ _ h => h) rfl (r_loadA (tag := 100030) rfl rfl Try.isAgg26 Try.sizeOf26 rfl rfl) ?_
 refine ga_r (i := 1) #[true, true, false, false, false, false, false, false, false] rfl (by kernel_rfl) (by decide) rfl (r_loadA (tag := 100030) rfl rfl Try.isAgg26 Try.sizeOf26 rfl rfl) ?_
 replace hm := bnd hm
 obtain ⟨x14, hx15, hm⟩ := hm
 refine ga_cn (first := #[]) (i := 2) #[true, true, true, false, false, false, false, false, false] rfl (by kernel_rfl) (by decide)  ⟨w0, M, _, _, φ⟩ (fun _ h => h) Try.call38 rfl rfl rfl (c_plog_Last p0 Ap0_0 cp0_0 hcp0_0 (fun W hS => fp0_0 W (ok_pre (H1 := [_]) (R1 := []) hS (fun W h => h))) _ hx15) (fun _ W _ h => h.phi (fun W hφ => hφ)) (fun _ _ => ?_)
 replace hm := bnd hm
 obtain ⟨⟨x16, x17⟩, hx18, hm⟩ := hm
 refine ga_cn (first := #[]) (i := 3) #[true, true, true, true, false, false, false, false, false] rfl (by kernel_rfl) (by decide)  ⟨w0, M, _, _, φ⟩ (fun _ h => h) Try.call31 rfl rfl rfl (c_plog_Term p0 Ap0_0 cp0_0 hcp0_0 (fun W hS => fp0_0 W (ok_pre (H1 := [_]) (R1 := []) hS (fun W h => h))) x14 _ hx18) (fun _ W _ h => h.phi (fun W hφ => hφ)) (fun _ _ => ?_)
 refine ga_r (i := 4) #[true, true, true, true, true, false, false, false, false] rfl (by kernel_rfl) (by decide) rfl (r_move) ?_
 refine ga_v (i := 5) #[true, true, true, true, true, true, false, false, false] rfl (by kernel_rfl) (fun _ _ _ _ h => h) rfl (r_extract rfl rfl) ?_
 refine ga_v (i := 6) #[true, true, true, true, true, true, true, false, false] rfl (by kernel_rfl) (fun _ _ _ _ h => h) rfl (r_extract rfl rfl) ?_
 refine ga_r (i := 7) #[true, true, true, true, true, true, true, true, false] rfl (by kernel_rfl) (by decide) rfl (r_assign) ?_
 refine ga_r (i := 8) #[true, true, true, true, true, true, true, true, true] rfl (by kernel_rfl) (by decide) rfl (r_assign) ?_
 refine ga_done (by kernel_rfl) ?_
 refine d_then ?_
 refine c_flat [(1, .int .i64 p1), (2, .int .i64 p2), (3, .pointer (some ⟨g1, 0, none⟩)), (7, .int .i64 x16)] ⟨rfl, rfl, rfl, rfl, trivial⟩ (fun u => ?_)
 refine c_sta ⟨w0, M, (100030, g1, .cells #[.int .i64 p0.fBase, .int .i64 p0.fBaseTerm, .slice Ap0_0 p0.fEntries.length cp0_0] 26 (0, 0)) :: H, R, φ⟩ (fun _ h => h) ?_
 refine c_seq ?_
 refine c_region ?_
 refine g_v rfl r_move ?_
 refine g_v rfl r_move ?_
 refine g_v rfl (r_gtr rfl rfl) ?_
 refine g_v rfl r_move ?_
 refine g_if rfl rfl rfl rfl rfl (fun h20 => ?_) (fun h20 => ?_)
 ·
  replace hm := ite_f hm (of_decide_eq_false h20)
  refine g_v rfl r_move ?_
  refine g_do rfl rfl rfl rfl rfl h20 ?_
  refine g_v rfl r_move ?_
  refine g_do rfl rfl rfl rfl rfl h20 ?_
  refine g_v rfl (r_eql rfl rfl) ?_
  refine g_do rfl rfl rfl rfl rfl h20 ?_
  refine g_v rfl r_move ?_
  refine g_if rfl rfl rfl rfl rfl (fun h21 => ?_) (fun h21 => ?_)
  ·
   replace hm := ite_t hm (of_decide_eq_true h21)
   refine g_v rfl r_move ?_
   refine g_do rfl rfl rfl rfl rfl h21 ?_
   refine g_v rfl (r_loadA (tag := 100030) rfl rfl Try.isAgg26 Try.sizeOf26 rfl rfl) ?_
   refine g_do rfl rfl rfl rfl rfl h21 ?_
   replace hm := bnd hm
   obtain ⟨x22, hx23, hm⟩ := hm
   refine g_cn ⟨w0, M, _, _, φ⟩ (fun _ h => h) Try.call38 rfl rfl (c_plog_Last p0 Ap0_0 cp0_0 hcp0_0 (fun W hS => fp0_0 W (ok_pre (H1 := [_]) (R1 := []) hS (fun W h => h))) _ hx23) (fun _ _ => ?_)
   refine g_do rfl rfl rfl rfl rfl h21 ?_
   refine g_v rfl (r_geq rfl rfl) ?_
   refine g_do rfl rfl rfl rfl rfl h20 ?_
   refine g_v rfl (r_pick1 rfl h21) ?_
   refine g_v rfl (r_pick0 rfl h20) ?_
   refine g_v rfl r_assign ?_
   refine g_nil ?_
   refine d_then ?_
   refine c_flat [(6, .bool (decide (x22 ≤ p1)))] ⟨rfl, trivial⟩ (fun u => ?_)
   refine c_sta ⟨w0, M, (100030, g1, .cells #[.int .i64 p0.fBase, .int .i64 p0.fBaseTerm, .slice Ap0_0 p0.fEntries.length cp0_0] 26 (0, 0)) :: H, R, φ⟩ (fun _ h => h) ?_
   refine c_ret ?_
   replace hm := Option.some.inj hm
   subst hm
   refine d_retC () Try.results16 ?_ trivial (fun W h => ok_pre (H1 := [_]) (R1 := []) h (fun W hφ => hφ)) (.inr rfl)
   refine res_tmp ?_
   refine res_nil ?_
   exact rfl
  ·
   replace hm := ite_f hm (of_decide_eq_false h21)
   refine g_no rfl rfl rfl rfl rfl h21 ?_
   refine g_no rfl rfl rfl rfl rfl h21 ?_
   refine g_no rfl rfl rfl rfl rfl h21 ?_
   refine g_do rfl rfl rfl rfl rfl h20 ?_
   refine g_v rfl (r_pick0 rfl h21) ?_
   refine g_v rfl (r_pick0 rfl h20) ?_
   refine g_v rfl r_assign ?_
   refine g_nil ?_
   refine d_then ?_
   refine c_flat [(6, .bool false)] ⟨rfl, trivial⟩ (fun u => ?_)
   refine c_sta ⟨w0, M, (100030, g1, .cells #[.int .i64 p0.fBase, .int .i64 p0.fBaseTerm, .slice Ap0_0 p0.fEntries.length cp0_0] 26 (0, 0)) :: H, R, φ⟩ (fun _ h => h) ?_
   refine c_ret ?_
   replace hm := Option.some.inj hm
   subst hm
   refine d_retC () Try.results16 ?_ trivial (fun W h => ok_pre (H1 := [_]) (R1 := []) h (fun W hφ => hφ)) (.inr rfl)
   refine res_tmp ?_
   refine res_nil ?_
   exact rfl
 ·
  replace hm := ite_t hm (of_decide_eq_true h20)
  refine g_no rfl rfl rfl rfl rfl h20 ?_
  refine g_no rfl rfl rfl rfl rfl h20 ?_
  refine g_no rfl rfl rfl rfl rfl h20 ?_
  refine g_nu rfl rfl rfl rfl rfl ?_
  refine g_nu rfl rfl rfl rfl rfl ?_
  refine g_nu rfl rfl rfl rfl rfl ?_
  refine g_nu rfl rfl rfl rfl rfl ?_
  refine g_no rfl rfl rfl rfl rfl h20 ?_
  refine g_v rfl (r_pick1 rfl h20) ?_
  refine g_v rfl r_assign ?_
  refine g_nil ?_
  refine d_then ?_
  refine c_ret ?_
  replace hm := Option.some.inj hm
  subst hm
  refine d_retC () Try.results16 ?_ trivial (fun W h => ok_pre (H1 := [_]) (R1 := []) h (fun W hφ => hφ)) (.inr rfl)
  refine res_tmp ?_
  refine res_nil ?_
  exact rfl

theorem inf5_4  : (Try.prog.info? 5).map (fun i => (i.zero, i.size, i.bytes)) = some (some (.int .u8 0), 1, 1) := by kernel_rfl
noncomputable def m_plog_Data_s2 (p0 : List Int) (l75 : List Int) (i78 : Int) : Option (((List Int) × Int) ⊕ (List Int)) :=
  if i78 < (p0.length : Int) then
    (at_ p0 i78).bind fun x106 =>
    (at_ l75 i78).bind fun x110 =>
    (setAt l75 i78 (IntKind.u8.wrap x106)).bind fun l114 =>
    some (.inl (l114, w64 (i78 + 1)))
  else
    some (.inr l75)
noncomputable def m_plog_Data_j1  (l58 : List Int) : Option ByteArray :=
  some (strOfNums l58)
noncomputable def m_plog_Data (p0 : List Int) : Option ByteArray :=
  (mkL 1 (p0.length : Int) 0).bind fun l1 =>
  (loop (fun s => m_plog_Data_s2 p0 s.1 s.2) (l1, 0)).bind fun e => m_plog_Data_j1 e
theorem c_plog_Data {w0 : World} {M : Nat → Prop} {H : List (Nat × Nat × Obj)} {R : List (Nat × Row)} {φ : World → Prop} (p0 : List Int) (Ap0_0 : Option Addr) (cp0_0 : Nat) (hcp0_0 : p0.length ≤ cp0_0) (fp0_0 : ∀ W, (Sta.mk w0 M H R φ).ok W → Cl W Ap0_0 (p0.flatMap (fun x : Int => [Value.int .i64 x]))) (r : ByteArray) (hm : m_plog_Data p0 = some r) :
    Cn Try.prog 28 #[.slice Ap0_0 p0.length cp0_0] ⟨w0, M, H, R, φ⟩ (fun x : Unit => .string r) (fun x => True) (fun x => ⟨w0, M, H, R, φ⟩) := by
 unfold m_plog_Data at hm
 refine cn_intro (fn := Try.f28) (N := 24) Try.func28 rfl Try.ntmps28 rfl ?_
 refine c_seq ?_
 refine c_region ?_
 refine g_v rfl r_assign ?_
 refine g_nil ?_
 refine d_then ?_
 refine c_seq ?_
 refine c_region ?_
 refine g_v rfl r_move ?_
 refine g_v rfl (r_lenL Try.underlying42 rfl) ?_
 replace hm := bnd hm
 obtain ⟨l1, hl1, hm⟩ := hm
 refine g_e rfl (e_make (tag := 1) (enc := (fun x : Int => [Value.int .u8 x])) Try.underlying95 inf5_4 rfl rfl rfl rfl hl1) (fun g2 _ => ?_)
 refine g_v rfl r_assign ?_
 refine g_nil ?_
 refine d_then ?_
 refine c_seq ?_
 refine c_seq ?_
 refine c_region ?_
 refine g_v rfl r_move ?_
 refine g_v rfl (r_lenL Try.underlying42 rfl) ?_
 refine g_v rfl r_move ?_
 refine g_nil ?_
 refine d_then ?_
 refine c_cut (ι := (List Int) × Option Addr × Nat) [3] (fun ⟨l58, A59, c60⟩ => [(3, .slice A59 l58.length c60)]) (fun ⟨l58, A59, c60⟩ => ⟨w0, M, H, (1, ⟨.slice A59 l58.length c60, 5, 1, l58.length, l58.flatMap (fun x : Int => [Value.int .u8 x])⟩) :: R, φ⟩) (fun ⟨l58, A59, c60⟩ => m_plog_Data_j1 l58 = some r ∧ l58.length ≤ c60) ?_ (fun ⟨l58, A59, c60⟩ u ⟨hm, hc60⟩ => ?_)
 ·
  refine c_block ?_
  replace hm := bnd hm
  obtain ⟨out2, hl2, hr2⟩ := hm
  obtain ⟨n93', hl2⟩ := loop_lp hl2
  refine c_loopU (ι := Nat × (List Int) × Int × Option Addr × Nat) [3, 9, 10, 11] (fun ⟨n93, l75, i78, A76, c77⟩ => [(3, .slice A76 l75.length c77), (11, .int .i64 i78)]) (fun ⟨n93, l75, i78, A76, c77⟩ => ⟨w0, M, H, (1, ⟨.slice A76 l75.length c77, 5, 1, l75.length, l75.flatMap (fun x : Int => [Value.int .u8 x])⟩) :: R, φ⟩) (fun ⟨n93, l75, i78, A76, c77⟩ => Lp (fun s => m_plog_Data_s2 p0 s.1 s.2) n93 (l75, i78) out2 ∧ l75.length ≤ c77) (fun ⟨n93, l75, i78, A76, c77⟩ => n93) (n93', l1, 0, some ⟨g2, 0, none⟩, l1.length) ⟨hl2, (Nat.le_refl _)⟩ ⟨rfl, rfl, rfl, rfl, trivial⟩ (fun W h => h.phi (fun W hφ => hφ)) (fun ⟨n93, l75, i78, A76, c77⟩ u ⟨hlp, hc77⟩ => ?_)
  obtain ⟨o2, hm, hnx2⟩ := lp_step hlp
  clear hlp
  replace hm : m_plog_Data_s2 p0 l75 i78 = some o2 := hm
  unfold m_plog_Data_s2 at hm
  refine c_flat [(3, .slice A76 l75.length c77), (9, .slice Ap0_0 p0.length cp0_0), (10, .int .i64 (p0.length : Int)), (11, .int .i64 i78)] ⟨rfl, rfl, rfl, rfl, trivial⟩ (fun u => ?_)
  refine c_sta ⟨w0, M, H, (1, ⟨.slice A76 l75.length c77, 5, 1, l75.length, l75.flatMap (fun x : Int => [Value.int .u8 x])⟩) :: R, φ⟩ (fun _ h => h) ?_
  refine c_seq ?_
  refine c_region ?_
  refine g_v rfl (r_lss rfl rfl) ?_
  refine g_nil ?_
  refine d_then ?_
  refine c_seq ?_
  refine c_cond rfl (fun h105 => ?_) (fun h105 => ?_)
  ·
   replace hm := ite_t hm (of_decide_eq_true h105)
   refine c_skip ?_
   refine d_then ?_
   refine c_seq ?_
   refine c_block ?_
   refine c_seq ?_
   refine c_region ?_
   refine g_v rfl r_move ?_
   replace hm := bnd hm
   obtain ⟨x106, hx106, hm⟩ := hm
   refine g_know _ (fun W hS => cl_at (p := (Sta.mk w0 M H R φ).ok) (sz := 1) (fun _ => rfl) (by decide) (ok_pre (H1 := []) (R1 := [_]) hS (fun W h => h)) fp0_0 hx106) ?_
   rintro ⟨ad107, hA109, f108⟩
   refine g_v rfl (r_ix Try.underlying42 Try.sizeOf3 rfl hA109 rfl hx106) ?_
   refine g_v rfl (r_ld rfl Try.isAgg3 (fun W hS => Cl.head (f108 W (ok_pre (H1 := []) (R1 := [_]) hS (fun W h => h))))) ?_
   refine g_v rfl r_assign ?_
   refine g_v rfl r_assign ?_
   refine g_nil ?_
   refine d_then ?_
   refine c_region ?_
   refine g_v rfl r_move ?_
   refine g_v rfl r_move ?_
   refine g_v rfl r_move ?_
   refine g_v rfl (r_conv Try.underlying3 Try.underlying5 rfl rfl) ?_
   replace hm := bnd hm
   obtain ⟨x110, hx110, hm⟩ := hm
   refine g_know _ (fun W hS => cl_at (p := (Sta.ok ⟨w0, M, H, (1, ⟨.slice A76 l75.length c77, 5, 1, l75.length, l75.flatMap (fun x : Int => [Value.int .u8 x])⟩) :: R, φ⟩)) (sz := 1) (fun _ => rfl) (by decide) hS (fun W hS => rowCl (S := ⟨w0, M, H, (1, ⟨.slice A76 l75.length c77, 5, 1, l75.length, l75.flatMap (fun x : Int => [Value.int .u8 x])⟩) :: R, φ⟩) (tag := 1) rfl W hS) hx110) ?_
   rintro ⟨ad111, hA113, f112⟩
   refine g_v rfl (r_ix Try.underlying95 Try.sizeOf5 rfl hA113 rfl hx110) ?_
   replace hm := bnd hm
   obtain ⟨l114, hl114, hm⟩ := hm
   refine g_stR (tag := 1) (enc := (fun x : Int => [Value.int .u8 x])) (l := l75) (off := 0) (vs := [.int .u8 (IntKind.u8.wrap x106)]) (add0 rfl) hA113 rfl rfl hx110 hl114 rfl (Nat.le_of_ble_eq_true rfl) (fun _ => rfl) rfl rfl Try.sizeOf5 ?_
   rw [show l75.length = l114.length from (setAt_lenE hl114).symm]
   refine g_nil ?_
   refine d_normal_block ?_
   refine d_then ?_
   refine c_flat [(3, .slice A76 l114.length c77), (9, .slice Ap0_0 p0.length cp0_0), (10, .int .i64 (p0.length : Int)), (11, .int .i64 i78)] ⟨rfl, rfl, rfl, rfl, trivial⟩ (fun u => ?_)
   refine c_sta ⟨w0, M, H, (1, ⟨.slice A76 l114.length c77, 5, 1, l114.length, l114.flatMap (fun x : Int => [Value.int .u8 x])⟩) :: R, φ⟩ (fun _ h => h) ?_
   refine c_region ?_
   refine g_v rfl (r_add rfl rfl rfl) ?_
   refine g_v rfl r_move ?_
   refine g_nil ?_
   obtain ⟨n115, hn115, hlp⟩ := nx_inl hm hnx2
   exact d_round (n115, l114, w64 (i78 + 1), A76, c77) ⟨hlp, (setAt_len hc77 hl114)⟩ hn115 ⟨rfl, rfl, rfl, rfl, trivial⟩ (fun W h => h.phi (fun W hφ => hφ))
  ·
   replace hm := ite_f hm (of_decide_eq_false h105)
   refine c_exit ?_
   refine d_exit_then ?_
   refine d_exit_then ?_
   refine d_exit_block ?_
   replace hm := nx_out (C := (fun e => m_plog_Data_j1 e = some r)) hm hnx2 hr2
   exact d_round (l75, A76, c77) ⟨hm, hc77⟩ Nat.zero_lt_one ⟨rfl, trivial⟩ (fun W h => h.phi (fun W hφ => hφ))
 ·
  unfold m_plog_Data_j1 at hm
  refine d_flat [(3, .slice A59 l58.length c60)] ⟨rfl, trivial⟩ (fun u => ?_)
  refine d_sta ⟨w0, M, H, (1, ⟨.slice A59 l58.length c60, 5, 1, l58.length, l58.flatMap (fun x : Int => [Value.int .u8 x])⟩) :: R, φ⟩ (fun _ h => h) ?_
  refine d_then ?_
  refine c_seq ?_
  refine c_region ?_
  refine g_v rfl r_move ?_
  refine g_v rfl (r_textE Try.underlying95 Try.underlying5 Try.underlying9 rfl (fun W hS => rowCl (tag := 1) rfl W hS)) ?_
  refine g_v rfl r_assign ?_
  refine g_nil ?_
  refine d_then ?_
  refine c_ret ?_
  replace hm := Option.some.inj hm
  subst hm
  refine d_retC () Try.results28 ?_ trivial (fun W h => ok_pre (H1 := []) (R1 := [_]) h (fun W hφ => hφ)) (.inr rfl)
  refine res_tmp ?_
  refine res_nil ?_
  exact rfl

theorem bld35_5 (z0 : Int) : ∀ W, (Instr.build 35 #[(0, .int .i64 z0)]).run Try.prog W = .ok (.agg #[.int .i64 z0, .int .i64 0, .string (⟨#[]⟩ : ByteArray)]) W := fun _ => by kernel_rfl
theorem lit35_6 (z0 : Int) (z1 : Int) (z2 : ByteArray) (z3 : Int) (z4 : Int) (z5 : ByteArray) : Try.prog.builtSlice 35 2 [(0, .agg #[.int .i64 z0, .int .i64 z1, .string z2]), (1, .agg #[.int .i64 z3, .int .i64 z4, .string z5])] = some #[.int .i64 z0, .int .i64 z1, .string z2, .int .i64 z3, .int .i64 z4, .string z5] := by kernel_rfl
theorem bld26_7 (z0 : Int) (z1 : Int) (zA2 : Option Addr) (zn2 : Nat) (zc2 : Nat) : ∀ W, (Instr.build 26 #[(0, .int .i64 z0), (1, .int .i64 z1), (2, .slice zA2 zn2 zc2)]).run Try.prog W = .ok (.agg #[.int .i64 z0, .int .i64 z1, .slice zA2 zn2 zc2]) W := fun _ => by kernel_rfl
noncomputable def m_law11_example  : Option GLog :=
  some (⟨2, 1, [(⟨1, 0, (⟨#[]⟩ : ByteArray)⟩ : GEntry), (⟨2, 0, (⟨#[]⟩ : ByteArray)⟩ : GEntry)]⟩ : GLog)
theorem c_law11_example {w0 : World} {M : Nat → Prop} {H : List (Nat × Nat × Obj)} {R : List (Nat × Row)} {φ : World → Prop}  (r : GLog) (hm : m_law11_example = some r) :
    Cn Try.prog 70 #[] ⟨w0, M, H, R, φ⟩ (fun x : Option Addr × Nat => .agg #[.int .i64 r.fBase, .int .i64 r.fBaseTerm, .slice x.1 r.fEntries.length x.2]) (fun x => r.fEntries.length ≤ x.2) (fun x => ⟨w0, M, H, R, fun W => φ W ∧ Cl W x.1 (r.fEntries.flatMap GEntry.enc)⟩) := by
 unfold m_law11_example at hm
 refine cn_intro (fn := Try.f70) (N := 5) Try.func70 rfl Try.ntmps70 rfl ?_
 refine c_seq ?_
 refine c_region ?_
 refine g_e rfl (e_alloc 100000 Try.zeroValue26) (fun g1 _ => ?_)
 refine g_nil ?_
 refine d_then ?_
 refine c_seq ?_
 refine c_region ?_
 refine g_v rfl (r_build _ rfl (bld35_5 _)) ?_
 refine g_v rfl (r_build _ rfl (bld35_5 _)) ?_
 refine g_e rfl (e_lit (tag := 100030) (l := [(⟨1, 0, (⟨#[]⟩ : ByteArray)⟩ : GEntry), (⟨2, 0, (⟨#[]⟩ : ByteArray)⟩ : GEntry)]) (enc := GEntry.enc) (sz := 3) rfl Try.underlying24 (lit35_6 _ _ _ _ _ _) rfl rfl (fun _ => rfl)) (fun g2 _ => ?_)
 refine g_v rfl (r_build _ rfl (bld26_7 _ _ _ _ _)) ?_
 refine g_storeL (tag := 100000) rfl rfl rfl rfl Try.sizeOf26 rfl rfl ?_
 refine g_nil ?_
 refine d_then ?_
 refine c_ret ?_
 replace hm := Option.some.inj hm
 subst hm
 refine d_shut (tag := 100030) rfl (fun φ3 q3' => ?_)
 have q3 : ∀ W, φ3 W → φ W := fun W h => (q3' W h).1
 have f4 := fun (W : World) (h : φ3 W) => (q3' W h).2
 refine d_retC (some ⟨g2, 0, none⟩, 2) Try.results70 ?_ (Nat.le_refl _) (fun W h => ok_pre (H1 := [_]) (R1 := []) h (fun W hφ => ⟨(q3 _ hφ), (fun W h => f4 W h) W hφ⟩)) (.inr rfl)
 refine res_agg (tag := 100000) rfl rfl Try.isAgg26 Try.sizeOf26 ?_
 refine res_nil ?_
 exact rfl

theorem lit35_8 (z0 : Int) (z1 : Int) (z2 : ByteArray) : Try.prog.builtSlice 35 1 [(0, .agg #[.int .i64 z0, .int .i64 z1, .string z2])] = some #[.int .i64 z0, .int .i64 z1, .string z2] := by kernel_rfl
noncomputable def m_law11_few_j3 (l238 : List GEntry) (x291 : GEntry) (i241 : Int) (s298 : ByteArray) : Option (((List GEntry) × Int) ⊕ (List GEntry)) :=
  (app 32 l238 [(⟨x291.fTerm, x291.fKind, s298⟩ : GEntry)]).bind fun l307 =>
  some (.inl (l307, w64 (i241 + 1)))
noncomputable def m_law11_few_s2 (p0 : List GEntry) (l238 : List GEntry) (i241 : Int) : Option (((List GEntry) × Int) ⊕ (List GEntry)) :=
  if i241 < (p0.length : Int) then
    if i241 < 40 then
      (at_ p0 i241).bind fun x291 =>
      if 60 < (x291.fData.size : Int) then
        (scutHi x291.fData 60).bind fun s305 =>
        m_law11_few_j3 l238 x291 i241 s305
      else
        m_law11_few_j3 l238 x291 i241 x291.fData
    else
      some (.inr l238)
  else
    some (.inr l238)
noncomputable def m_law11_few_j1  (l212 : List GEntry) : Option (List GEntry) :=
  some l212
noncomputable def m_law11_few (p0 : List GEntry) : Option (List GEntry) :=
  (loop (fun s => m_law11_few_s2 p0 s.1 s.2) (([] : List GEntry), 0)).bind fun e => m_law11_few_j1 e
theorem c_law11_few {w0 : World} {M : Nat → Prop} {H : List (Nat × Nat × Obj)} {R : List (Nat × Row)} {φ : World → Prop} (p0 : List GEntry) (Ap0_0 : Option Addr) (cp0_0 : Nat) (hcp0_0 : p0.length ≤ cp0_0) (fp0_0 : ∀ W, (Sta.mk w0 M H R φ).ok W → Cl W Ap0_0 (p0.flatMap GEntry.enc)) (r : (List GEntry)) (hm : m_law11_few p0 = some r) :
    Cn Try.prog 18 #[.slice Ap0_0 p0.length cp0_0] ⟨w0, M, H, R, φ⟩ (fun x : Option Addr × Nat => .slice x.1 r.length x.2) (fun x => r.length ≤ x.2) (fun x => ⟨w0, M, H, (2000, ⟨.slice x.1 r.length x.2, 35, 3, r.length, r.flatMap GEntry.enc⟩) :: R, φ⟩) := by
 unfold m_law11_few at hm
 refine cn_intro (fn := Try.f18) (N := 33) Try.func18 rfl Try.ntmps18 rfl ?_
 refine c_seq ?_
 refine c_region ?_
 refine g_v rfl r_assign ?_
 refine g_nil ?_
 refine d_then ?_
 refine c_seq ?_
 refine c_region ?_
 refine g_v rfl r_assign ?_
 refine g_nil ?_
 refine d_then ?_
 refine c_seq ?_
 refine c_sta _ (fun W h => nilR h 4 35 3) ?_
 refine c_cut (ι := (List GEntry) × Option Addr × Nat) [3] (fun ⟨l212, A213, c214⟩ => [(3, .slice A213 l212.length c214)]) (fun ⟨l212, A213, c214⟩ => ⟨w0, M, H, (4, ⟨.slice A213 l212.length c214, 35, 3, l212.length, l212.flatMap GEntry.enc⟩) :: R, φ⟩) (fun ⟨l212, A213, c214⟩ => m_law11_few_j1 l212 = some r ∧ l212.length ≤ c214) ?_ (fun ⟨l212, A213, c214⟩ u ⟨hm, hc214⟩ => ?_)
 ·
  refine c_seq ?_
  refine c_region ?_
  refine g_v rfl r_assign ?_
  refine g_nil ?_
  refine d_then ?_
  refine c_block ?_
  replace hm := bnd hm
  obtain ⟨out2, hl2, hr2⟩ := hm
  obtain ⟨n266', hl2⟩ := loop_lp hl2
  refine c_loopU (ι := Nat × (List GEntry) × Int × Option Addr × Nat) [0, 3, 4] (fun ⟨n266, l238, i241, A239, c240⟩ => [(3, .slice A239 l238.length c240), (4, .int .i64 i241)]) (fun ⟨n266, l238, i241, A239, c240⟩ => ⟨w0, M, H, (4, ⟨.slice A239 l238.length c240, 35, 3, l238.length, l238.flatMap GEntry.enc⟩) :: R, φ⟩) (fun ⟨n266, l238, i241, A239, c240⟩ => Lp (fun s => m_law11_few_s2 p0 s.1 s.2) n266 (l238, i241) out2 ∧ l238.length ≤ c240) (fun ⟨n266, l238, i241, A239, c240⟩ => n266) (n266', ([] : List GEntry), 0, none, 0) ⟨hl2, (Nat.le_refl 0)⟩ ⟨rfl, rfl, rfl, trivial⟩ (fun W h => h.phi (fun W hφ => hφ)) (fun ⟨n266, l238, i241, A239, c240⟩ u ⟨hlp, hc240⟩ => ?_)
  obtain ⟨o2, hm, hnx2⟩ := lp_step hlp
  clear hlp
  replace hm : m_law11_few_s2 p0 l238 i241 = some o2 := hm
  unfold m_law11_few_s2 at hm
  refine c_flat [(0, .slice Ap0_0 p0.length cp0_0), (3, .slice A239 l238.length c240), (4, .int .i64 i241)] ⟨rfl, rfl, rfl, trivial⟩ (fun u => ?_)
  refine c_sta ⟨w0, M, H, (4, ⟨.slice A239 l238.length c240, 35, 3, l238.length, l238.flatMap GEntry.enc⟩) :: R, φ⟩ (fun _ h => h) ?_
  refine c_seq ?_
  refine c_seq ?_
  refine c_region ?_
  refine g_v rfl r_move ?_
  refine g_v rfl r_move ?_
  refine g_v rfl (r_lenL Try.underlying24 rfl) ?_
  refine g_v rfl (r_lss rfl rfl) ?_
  refine g_v rfl r_move ?_
  refine g_if rfl rfl rfl rfl rfl (fun h289 => ?_) (fun h289 => ?_)
  ·
   replace hm := ite_t hm (of_decide_eq_true h289)
   refine g_v rfl r_move ?_
   refine g_do rfl rfl rfl rfl rfl h289 ?_
   refine g_v rfl (r_lss rfl rfl) ?_
   refine g_v rfl (r_pick1 rfl h289) ?_
   refine g_nil ?_
   refine d_then ?_
   refine c_cond rfl (fun h290 => ?_) (fun h290 => ?_)
   ·
    replace hm := ite_t hm (of_decide_eq_true h290)
    refine c_skip ?_
    refine d_then ?_
    refine c_seq ?_
    refine c_block ?_
    refine c_seq ?_
    refine c_region ?_
    refine g_v rfl r_move ?_
    refine g_v rfl r_move ?_
    replace hm := bnd hm
    obtain ⟨x291, hx291, hm⟩ := hm
    refine g_know _ (fun W hS => cl_at (p := (Sta.mk w0 M H R φ).ok) (sz := 3) (fun _ => rfl) (by decide) (ok_pre (H1 := []) (R1 := [_]) hS (fun W h => h)) fp0_0 hx291) ?_
    rintro ⟨ad292, hA294, f293⟩
    refine g_v rfl (r_ix Try.underlying24 Try.sizeOf35 rfl hA294 rfl hx291) ?_
    refine g_v rfl (r_ldA rfl Try.isAgg35 Try.sizeOf35 (fun W hS => (f293 W (ok_pre (H1 := []) (R1 := [_]) hS (fun W h => h))).take 3) rfl) ?_
    refine g_e rfl (e_alloc 100050 Try.zeroValue35) (fun g295 _ => ?_)
    refine g_storeL (tag := 100050) rfl rfl rfl rfl Try.sizeOf35 rfl rfl ?_
    refine g_nil ?_
    refine d_then ?_
    refine c_flat [(0, .slice Ap0_0 p0.length cp0_0), (3, .slice A239 l238.length c240), (4, .int .i64 i241), (5, .pointer (some ⟨g295, 0, none⟩))] ⟨rfl, rfl, rfl, rfl, trivial⟩ (fun u => ?_)
    refine c_sta ⟨w0, M, (100050, g295, .cells #[.int .i64 x291.fTerm, .int .i64 x291.fKind, .string x291.fData] 35 (0, 0)) :: H, (4, ⟨.slice A239 l238.length c240, 35, 3, l238.length, l238.flatMap GEntry.enc⟩) :: R, φ⟩ (fun _ h => h) ?_
    refine c_seq ?_
    refine c_cut (ι := ByteArray) [0, 3, 4, 5] (fun s298 => []) (fun s298 => ⟨w0, M, (100050, g295, .cells #[.int .i64 x291.fTerm, .int .i64 x291.fKind, .string s298] 35 (0, 0)) :: H, (4, ⟨.slice A239 l238.length c240, 35, 3, l238.length, l238.flatMap GEntry.enc⟩) :: R, φ⟩) (fun s298 => m_law11_few_j3 l238 x291 i241 s298 = some o2) ?_ (fun s298 u hm => ?_)
    ·
     refine c_seq ?_
     refine c_region ?_
     refine g_v rfl (r_field (n := 2) Try.underlying35 rfl Try.sizeOf9 rfl rfl) ?_
     refine g_v rfl (r_load (tag := 100050) rfl rfl rfl Try.isAgg9) ?_
     refine g_v rfl (r_len Try.underlying9 rfl) ?_
     refine g_v rfl (r_gtr rfl rfl) ?_
     refine g_nil ?_
     refine d_then ?_
     refine c_cond rfl (fun h304 => ?_) (fun h304 => ?_)
     ·
      replace hm := ite_t hm (of_decide_eq_true h304)
      refine c_region ?_
      refine g_v rfl (r_field (n := 2) Try.underlying35 rfl Try.sizeOf9 rfl rfl) ?_
      refine g_v rfl (r_load (tag := 100050) rfl rfl rfl Try.isAgg9) ?_
      replace hm := bnd hm
      obtain ⟨s305, hs305, hm⟩ := hm
      refine g_v rfl (r_scutHi Try.underlying9 rfl rfl hs305) ?_
      refine g_v rfl (r_field (n := 2) Try.underlying35 rfl Try.sizeOf9 rfl rfl) ?_
      refine g_storeL (tag := 100050) rfl rfl rfl rfl Try.sizeOf9 rfl rfl ?_
      refine g_nil ?_
      exact d_round s305 hm Nat.zero_lt_one ⟨rfl, rfl, rfl, rfl, trivial⟩ (fun W h => h.phi (fun W hφ => hφ))
     ·
      replace hm := ite_f hm (of_decide_eq_false h304)
      refine c_skip ?_
      exact d_round x291.fData hm Nat.zero_lt_one ⟨rfl, rfl, rfl, rfl, trivial⟩ (fun W h => h.phi (fun W hφ => hφ))
    ·
     unfold m_law11_few_j3 at hm
     refine d_flat [(0, .slice Ap0_0 p0.length cp0_0), (3, .slice A239 l238.length c240), (4, .int .i64 i241), (5, .pointer (some ⟨g295, 0, none⟩))] ⟨rfl, rfl, rfl, rfl, trivial⟩ (fun u => ?_)
     refine d_sta ⟨w0, M, (100050, g295, .cells #[.int .i64 x291.fTerm, .int .i64 x291.fKind, .string s298] 35 (0, 0)) :: H, (4, ⟨.slice A239 l238.length c240, 35, 3, l238.length, l238.flatMap GEntry.enc⟩) :: R, φ⟩ (fun _ h => h) ?_
     refine d_then ?_
     refine c_region ?_
     refine g_v rfl r_move ?_
     refine g_v rfl (r_loadA (tag := 100050) rfl rfl Try.isAgg35 Try.sizeOf35 rfl rfl) ?_
     refine g_e rfl (e_lit (tag := 100300) (l := [(⟨x291.fTerm, x291.fKind, s298⟩ : GEntry)]) (enc := GEntry.enc) (sz := 3) rfl Try.underlying24 (lit35_8 _ _ _) rfl rfl (fun _ => rfl)) (fun g306 _ => ?_)
     replace hm := bnd hm
     obtain ⟨l307, hl307, hm⟩ := hm
     refine g_e rfl (e_appR (enc := GEntry.enc) (l := l238) (l1 := [(⟨x291.fTerm, x291.fKind, s298⟩ : GEntry)]) (l2 := l307) (tag := 4) Try.underlying24 inf35_3 rfl (by decide) (by decide) (fun _ => rfl) (fun _ => rfl) rfl hc240 rfl rfl (fun W hS => rowCl (tag := 100300) rfl W hS) hl307) (fun ⟨A308, c309⟩ hc309 => ?_)
     refine g_v rfl r_assign ?_
     refine g_nil ?_
     refine d_normal_block ?_
     refine d_then ?_
     refine c_region ?_
     refine g_v rfl r_move ?_
     refine g_v rfl (r_add rfl rfl rfl) ?_
     refine g_v rfl r_assign ?_
     refine g_nil ?_
     obtain ⟨n310, hn310, hlp⟩ := nx_inl hm hnx2
     exact d_round (n310, l307, w64 (i241 + 1), A308, c309) ⟨hlp, hc309⟩ hn310 ⟨rfl, rfl, rfl, trivial⟩ (fun W h => (((h.shut (t := 100300) rfl).phi (fun _ hh => hh.1)).dropH (t := 100050) rfl).phi (fun W hφ => hφ))
   ·
    replace hm := ite_f hm (of_decide_eq_false h290)
    refine c_exit ?_
    refine d_exit_then ?_
    refine d_exit_then ?_
    refine d_exit_block ?_
    replace hm := nx_out (C := (fun e => m_law11_few_j1 e = some r)) hm hnx2 hr2
    exact d_round (l238, A239, c240) ⟨hm, hc240⟩ Nat.zero_lt_one ⟨rfl, trivial⟩ (fun W h => h.phi (fun W hφ => hφ))
  ·
   replace hm := ite_f hm (of_decide_eq_false h289)
   refine g_no rfl rfl rfl rfl rfl h289 ?_
   refine g_v rfl (r_pick0 rfl h289) ?_
   refine g_nil ?_
   refine d_then ?_
   refine c_cond0 rfl rfl ?_
   refine c_exit ?_
   refine d_exit_then ?_
   refine d_exit_then ?_
   refine d_exit_block ?_
   replace hm := nx_out (C := (fun e => m_law11_few_j1 e = some r)) hm hnx2 hr2
   exact d_round (l238, A239, c240) ⟨hm, hc240⟩ Nat.zero_lt_one ⟨rfl, trivial⟩ (fun W h => h.phi (fun W hφ => hφ))
 ·
  unfold m_law11_few_j1 at hm
  refine d_flat [(3, .slice A213 l212.length c214)] ⟨rfl, trivial⟩ (fun u => ?_)
  refine d_sta ⟨w0, M, H, (4, ⟨.slice A213 l212.length c214, 35, 3, l212.length, l212.flatMap GEntry.enc⟩) :: R, φ⟩ (fun _ h => h) ?_
  refine d_then ?_
  refine c_seq ?_
  refine c_region ?_
  refine g_v rfl r_move ?_
  refine g_v rfl r_assign ?_
  refine g_nil ?_
  refine d_then ?_
  refine c_ret ?_
  replace hm := Option.some.inj hm
  subst hm
  refine d_sta _ (fun W h => ok_frontR (t := 4) (t' := 2000) h rfl) ?_
  refine d_retC (A213, c214) Try.results18 ?_ hc214 (fun W h => h.phi (fun W hφ => hφ)) (.inr rfl)
  refine res_tmp ?_
  refine res_nil ?_
  exact rfl

theorem bld26_9 (z0 : Int) (z1 : Int) : ∀ W, (Instr.build 26 #[(0, .int .i64 z0), (1, .int .i64 z1)]).run Try.prog W = .ok (.agg #[.int .i64 z0, .int .i64 z1, .slice none 0 0]) W := fun _ => by kernel_rfl
noncomputable def m_law11_small (p0 : GLog) : Option GLog :=
  (m_law11_few p0.fEntries).bind fun x4 =>
  some (⟨p0.fBase, p0.fBaseTerm, x4⟩ : GLog)
theorem c_law11_small {w0 : World} {M : Nat → Prop} {H : List (Nat × Nat × Obj)} {R : List (Nat × Row)} {φ : World → Prop} (p0 : GLog) (Ap0_0 : Option Addr) (cp0_0 : Nat) (hcp0_0 : p0.fEntries.length ≤ cp0_0) (fp0_0 : ∀ W, (Sta.mk w0 M H R φ).ok W → Cl W Ap0_0 (p0.fEntries.flatMap GEntry.enc)) (r : GLog) (hm : m_law11_small p0 = some r) :
    Cn Try.prog 17 #[.agg #[.int .i64 p0.fBase, .int .i64 p0.fBaseTerm, .slice Ap0_0 p0.fEntries.length cp0_0]] ⟨w0, M, H, R, φ⟩ (fun x : Option Addr × Nat => .agg #[.int .i64 r.fBase, .int .i64 r.fBaseTerm, .slice x.1 r.fEntries.length x.2]) (fun x => r.fEntries.length ≤ x.2) (fun x => ⟨w0, M, H, R, fun W => φ W ∧ Cl W x.1 (r.fEntries.flatMap GEntry.enc)⟩) := by
 unfold m_law11_small at hm
 refine cn_intro (fn := Try.f17) (N := 14) Try.func17 rfl Try.ntmps17 rfl ?_
 refine c_seq ?_
 refine c_region ?_
 refine g_e rfl (e_box 100010 rfl) (fun g1 _ => ?_)
 refine g_e rfl (e_alloc 100020 Try.zeroValue26) (fun g2 _ => ?_)
 refine g_nil ?_
 refine d_then ?_
 refine c_seq ?_
 refine c_region ?_
 refine g_v rfl (r_field (n := 0) Try.underlying26 rfl Try.sizeOf3 rfl rfl) ?_
 refine g_v rfl (r_load (tag := 100010) rfl rfl rfl Try.isAgg3) ?_
 refine g_v rfl (r_field (n := 1) Try.underlying26 rfl Try.sizeOf3 rfl rfl) ?_
 refine g_v rfl (r_load (tag := 100010) rfl rfl rfl Try.isAgg3) ?_
 refine g_v rfl (r_build _ rfl (bld26_9 _ _)) ?_
 refine g_e rfl (e_alloc 100030 Try.zeroValue26) (fun g3 _ => ?_)
 refine g_storeL (tag := 100030) rfl rfl rfl rfl Try.sizeOf26 rfl rfl ?_
 refine g_nil ?_
 refine d_then ?_
 refine c_flat [(1, .pointer (some ⟨g1, 0, none⟩)), (2, .pointer (some ⟨g2, 0, none⟩)), (3, .pointer (some ⟨g3, 0, none⟩))] ⟨rfl, rfl, rfl, trivial⟩ (fun u => ?_)
 refine c_sta ⟨w0, M, (100030, g3, .cells #[.int .i64 p0.fBase, .int .i64 p0.fBaseTerm, .slice none 0 0] 26 (0, 0)) :: (100020, g2, .cells #[.int .i64 0, .int .i64 0, .slice none 0 0] 26 (0, 0)) :: (100010, g1, .cells #[.int .i64 p0.fBase, .int .i64 p0.fBaseTerm, .slice Ap0_0 p0.fEntries.length cp0_0] 26 (0, 0)) :: H, R, φ⟩ (fun _ h => h) ?_
 refine c_seq ?_
 refine c_region ?_
 refine g_v rfl (r_field (n := 2) Try.underlying26 rfl Try.sizeOf24 rfl rfl) ?_
 refine g_v rfl (r_load (tag := 100010) rfl rfl rfl Try.isAgg24) ?_
 replace hm := bnd hm
 obtain ⟨x4, hx5, hm⟩ := hm
 refine g_cn ⟨w0, M, _, _, φ⟩ (fun _ h => h) Try.call18 rfl rfl (c_law11_few p0.fEntries Ap0_0 cp0_0 hcp0_0 (fun W hS => fp0_0 W (ok_pre (H1 := [_, _, _]) (R1 := []) hS (fun W h => h))) _ hx5) (fun ⟨A6, c7⟩ hc7 => ?_)
 refine g_sta _ (fun W h => ok_frontR (t := 2000) (t' := 100110) h rfl) ?_
 refine g_v rfl (r_field (n := 2) Try.underlying26 rfl Try.sizeOf24 rfl rfl) ?_
 refine g_storeL (tag := 100030) rfl rfl rfl rfl Try.sizeOf24 rfl rfl ?_
 refine g_nil ?_
 refine d_then ?_
 refine c_seq ?_
 refine c_region ?_
 refine g_v rfl (r_loadA (tag := 100030) rfl rfl Try.isAgg26 Try.sizeOf26 rfl rfl) ?_
 refine g_storeL (tag := 100020) rfl rfl rfl rfl Try.sizeOf26 rfl rfl ?_
 refine g_nil ?_
 refine d_then ?_
 refine c_ret ?_
 replace hm := Option.some.inj hm
 subst hm
 refine d_shut (tag := 100110) rfl (fun φ9 q9' => ?_)
 have q9 : ∀ W, φ9 W → φ W := fun W h => (q9' W h).1
 have f10 := fun (W : World) (h : φ9 W) => (q9' W h).2
 refine d_retC (A6, c7) Try.results17 ?_ hc7 (fun W h => ok_pre (H1 := [_, _, _]) (R1 := []) h (fun W hφ => ⟨(q9 _ hφ), (fun W h => f10 W h) W hφ⟩)) (.inr rfl)
 refine res_agg (tag := 100020) rfl rfl Try.isAgg26 Try.sizeOf26 ?_
 refine res_nil ?_
 exact rfl

noncomputable def m_law11_sound (p0 : GLog) : Option Bool :=
  if (-1000) ≤ p0.fBase then
    some (decide (p0.fBase ≤ 1125899906842624))
  else
    some false
theorem c_law11_sound {w0 : World} {M : Nat → Prop} {H : List (Nat × Nat × Obj)} {R : List (Nat × Row)} {φ : World → Prop} (p0 : GLog) (Ap0_0 : Option Addr) (cp0_0 : Nat) (hcp0_0 : p0.fEntries.length ≤ cp0_0) (fp0_0 : ∀ W, (Sta.mk w0 M H R φ).ok W → Cl W Ap0_0 (p0.fEntries.flatMap GEntry.enc)) (r : Bool) (hm : m_law11_sound p0 = some r) :
    Cn Try.prog 30 #[.agg #[.int .i64 p0.fBase, .int .i64 p0.fBaseTerm, .slice Ap0_0 p0.fEntries.length cp0_0]] ⟨w0, M, H, R, φ⟩ (fun x : Unit => .bool r) (fun x => True) (fun x => ⟨w0, M, H, R, φ⟩) := by
 unfold m_law11_sound at hm
 refine cn_intro (fn := Try.f30) (N := 11) Try.func30 rfl Try.ntmps30 rfl ?_
 refine c_seq ?_
 refine c_region ?_
 refine g_e rfl (e_box 100010 rfl) (fun g1 _ => ?_)
 refine g_v rfl r_assign ?_
 refine g_nil ?_
 refine d_then ?_
 refine c_seq ?_
 refine c_region ?_
 refine g_v rfl (r_field (n := 0) Try.underlying26 rfl Try.sizeOf3 rfl rfl) ?_
 refine g_v rfl (r_load (tag := 100010) rfl rfl rfl Try.isAgg3) ?_
 refine g_v rfl (r_geq rfl rfl) ?_
 refine g_v rfl r_move ?_
 refine g_if rfl rfl rfl rfl rfl (fun h2 => ?_) (fun h2 => ?_)
 ·
  replace hm := ite_t hm (of_decide_eq_true h2)
  refine g_v rfl (r_field (n := 0) Try.underlying26 rfl Try.sizeOf3 rfl rfl) ?_
  refine g_do rfl rfl rfl rfl rfl h2 ?_
  refine g_v rfl (r_load (tag := 100010) rfl rfl rfl Try.isAgg3) ?_
  refine g_do rfl rfl rfl rfl rfl h2 ?_
  refine g_v rfl (r_leq rfl rfl) ?_
  refine g_v rfl (r_pick1 rfl h2) ?_
  refine g_v rfl r_assign ?_
  refine g_nil ?_
  refine d_then ?_
  refine c_flat [(2, .bool (decide (p0.fBase ≤ 1125899906842624)))] ⟨rfl, trivial⟩ (fun u => ?_)
  refine c_sta ⟨w0, M, (100010, g1, .cells #[.int .i64 p0.fBase, .int .i64 p0.fBaseTerm, .slice Ap0_0 p0.fEntries.length cp0_0] 26 (0, 0)) :: H, R, φ⟩ (fun _ h => h) ?_
  refine c_ret ?_
  replace hm := Option.some.inj hm
  subst hm
  refine d_retC () Try.results30 ?_ trivial (fun W h => ok_pre (H1 := [_]) (R1 := []) h (fun W hφ => hφ)) (.inr rfl)
  refine res_tmp ?_
  refine res_nil ?_
  exact rfl
 ·
  replace hm := ite_f hm (of_decide_eq_false h2)
  refine g_no rfl rfl rfl rfl rfl h2 ?_
  refine g_no rfl rfl rfl rfl rfl h2 ?_
  refine g_v rfl (r_pick0 rfl h2) ?_
  refine g_v rfl r_assign ?_
  refine g_nil ?_
  refine d_then ?_
  refine c_ret ?_
  replace hm := Option.some.inj hm
  subst hm
  refine d_retC () Try.results30 ?_ trivial (fun W h => ok_pre (H1 := [_]) (R1 := []) h (fun W hφ => hφ)) (.inr rfl)
  refine res_tmp ?_
  refine res_nil ?_
  exact rfl

theorem eqq35 (a b : GEntry) : ∀ d W, (Op.equalIn (d + 5) 35 (.agg #[.int .i64 a.fTerm, .int .i64 a.fKind, .string a.fData]) (.agg #[.int .i64 b.fTerm, .int .i64 b.fKind, .string b.fData])).run Try.prog W = .ok (decide (a = b)) W := by
  intro d W
  have h := eqs_of (d := d + 4) (xs := #[.int .i64 a.fTerm, .int .i64 a.fKind, .string a.fData]) (ys := #[.int .i64 b.fTerm, .int .i64 b.fKind, .string b.fData]) (w := W) Try.underlying35 (by kernel_rfl) (eqs_cons (a := .int .i64 a.fTerm) (b := .int .i64 b.fTerm) rfl (by kernel_rfl) (by kernel_rfl) (eqs_int Try.underlying3) (eqs_cons (a := .int .i64 a.fKind) (b := .int .i64 b.fKind) rfl (by kernel_rfl) (by kernel_rfl) (eqs_int Try.underlying3) (eqs_cons (a := .string a.fData) (b := .string b.fData) rfl (by kernel_rfl) (by kernel_rfl) (eqs_str Try.underlying9) eqs_nil)))
  refine h.trans ?_
  congr 1
  cases a; cases b
  simp only [GEntry.mk.injEq, Bool.and_true]
  simp only [Bool.decide_and]
theorem eqg35 : Try.prog.eqGuardType Try.prog.depth 35 = false := by kernel_rfl
noncomputable def m_ref11_SameLog_s2 (p0 : GLog) (p1 : GLog) (i143 : Int) : Option (Int ⊕ (Unit ⊕ Bool)) :=
  if i143 < (p0.fEntries.length : Int) then
    (at_ p0.fEntries i143).bind fun x216 =>
    (at_ p1.fEntries i143).bind fun x220 =>
    if x216 = x220 then
      some (.inl (w64 (i143 + 1)))
    else
      some (.inr (.inr false))
  else
    some (.inr (.inl ()))
noncomputable def m_ref11_SameLog_j1  : Option Bool :=
  some true
noncomputable def m_ref11_SameLog (p0 : GLog) (p1 : GLog) : Option Bool :=
  if p0.fBase ≠ p1.fBase then
    some false
  else
    if p0.fBaseTerm ≠ p1.fBaseTerm then
      some false
    else
      if (p0.fEntries.length : Int) ≠ (p1.fEntries.length : Int) then
        some false
      else
        (loop (fun s => m_ref11_SameLog_s2 p0 p1 s) 0).bind fun e => Sum.elim (fun e => m_ref11_SameLog_j1) (fun x => some x) e
theorem c_ref11_SameLog {w0 : World} {M : Nat → Prop} {H : List (Nat × Nat × Obj)} {R : List (Nat × Row)} {φ : World → Prop} (p0 : GLog) (Ap0_0 : Option Addr) (cp0_0 : Nat) (hcp0_0 : p0.fEntries.length ≤ cp0_0) (fp0_0 : ∀ W, (Sta.mk w0 M H R φ).ok W → Cl W Ap0_0 (p0.fEntries.flatMap GEntry.enc)) (p1 : GLog) (Ap1_0 : Option Addr) (cp1_0 : Nat) (hcp1_0 : p1.fEntries.length ≤ cp1_0) (fp1_0 : ∀ W, (Sta.mk w0 M H R φ).ok W → Cl W Ap1_0 (p1.fEntries.flatMap GEntry.enc)) (r : Bool) (hm : m_ref11_SameLog p0 p1 = some r) :
    Cn Try.prog 76 #[.agg #[.int .i64 p0.fBase, .int .i64 p0.fBaseTerm, .slice Ap0_0 p0.fEntries.length cp0_0], .agg #[.int .i64 p1.fBase, .int .i64 p1.fBaseTerm, .slice Ap1_0 p1.fEntries.length cp1_0]] ⟨w0, M, H, R, φ⟩ (fun x : Unit => .bool r) (fun x => True) (fun x => ⟨w0, M, H, R, φ⟩) := by
 unfold m_ref11_SameLog at hm
 refine cn_intro (fn := Try.f76) (N := 45) Try.func76 rfl Try.ntmps76 rfl ?_
 refine c_seq ?_
 refine c_region ?_
 refine g_e rfl (e_box 100020 rfl) (fun g1 _ => ?_)
 refine g_e rfl (e_box 100030 rfl) (fun g2 _ => ?_)
 refine g_v rfl r_assign ?_
 refine g_nil ?_
 refine d_then ?_
 refine c_seq ?_
 refine c_seq ?_
 refine c_region ?_
 refine g_v rfl (r_field (n := 0) Try.underlying26 rfl Try.sizeOf3 rfl rfl) ?_
 refine g_v rfl (r_load (tag := 100020) rfl rfl rfl Try.isAgg3) ?_
 refine g_v rfl (r_field (n := 0) Try.underlying26 rfl Try.sizeOf3 rfl rfl) ?_
 refine g_v rfl (r_load (tag := 100030) rfl rfl rfl Try.isAgg3) ?_
 refine g_v rfl (r_neq rfl rfl) ?_
 refine g_v rfl r_move ?_
 refine g_if rfl rfl rfl rfl rfl (fun h3 => ?_) (fun h3 => ?_)
 ·
  replace hm := ite_f hm (of_decide_eq_false h3)
  refine g_v rfl (r_field (n := 1) Try.underlying26 rfl Try.sizeOf3 rfl rfl) ?_
  refine g_do rfl rfl rfl rfl rfl h3 ?_
  refine g_v rfl (r_load (tag := 100020) rfl rfl rfl Try.isAgg3) ?_
  refine g_do rfl rfl rfl rfl rfl h3 ?_
  refine g_v rfl (r_field (n := 1) Try.underlying26 rfl Try.sizeOf3 rfl rfl) ?_
  refine g_do rfl rfl rfl rfl rfl h3 ?_
  refine g_v rfl (r_load (tag := 100030) rfl rfl rfl Try.isAgg3) ?_
  refine g_do rfl rfl rfl rfl rfl h3 ?_
  refine g_v rfl (r_neq rfl rfl) ?_
  refine g_v rfl (r_pick0 rfl h3) ?_
  refine g_v rfl r_move ?_
  refine g_if rfl rfl rfl rfl rfl (fun h4 => ?_) (fun h4 => ?_)
  ·
   replace hm := ite_f hm (of_decide_eq_false h4)
   refine g_v rfl (r_field (n := 2) Try.underlying26 rfl Try.sizeOf24 rfl rfl) ?_
   refine g_do rfl rfl rfl rfl rfl h4 ?_
   refine g_v rfl (r_load (tag := 100020) rfl rfl rfl Try.isAgg24) ?_
   refine g_do rfl rfl rfl rfl rfl h4 ?_
   refine g_v rfl (r_lenL Try.underlying24 rfl) ?_
   refine g_do rfl rfl rfl rfl rfl h4 ?_
   refine g_v rfl (r_field (n := 2) Try.underlying26 rfl Try.sizeOf24 rfl rfl) ?_
   refine g_do rfl rfl rfl rfl rfl h4 ?_
   refine g_v rfl (r_load (tag := 100030) rfl rfl rfl Try.isAgg24) ?_
   refine g_do rfl rfl rfl rfl rfl h4 ?_
   refine g_v rfl (r_lenL Try.underlying24 rfl) ?_
   refine g_do rfl rfl rfl rfl rfl h4 ?_
   refine g_v rfl (r_neq rfl rfl) ?_
   refine g_v rfl (r_pick0 rfl h4) ?_
   refine g_nil ?_
   refine d_then ?_
   refine c_flat [(2, .pointer (some ⟨g1, 0, none⟩)), (3, .pointer (some ⟨g2, 0, none⟩)), (26, .bool (decide ((p0.fEntries.length : Int) ≠ (p1.fEntries.length : Int))))] ⟨rfl, rfl, rfl, trivial⟩ (fun u => ?_)
   refine c_sta ⟨w0, M, (100030, g2, .cells #[.int .i64 p1.fBase, .int .i64 p1.fBaseTerm, .slice Ap1_0 p1.fEntries.length cp1_0] 26 (0, 0)) :: (100020, g1, .cells #[.int .i64 p0.fBase, .int .i64 p0.fBaseTerm, .slice Ap0_0 p0.fEntries.length cp0_0] 26 (0, 0)) :: H, R, φ⟩ (fun _ h => h) ?_
   refine c_cond rfl (fun h5 => ?_) (fun h5 => ?_)
   ·
    replace hm := ite_t hm (of_decide_eq_true h5)
    refine c_seq ?_
    refine c_region ?_
    refine g_v rfl r_assign ?_
    refine g_nil ?_
    refine d_then ?_
    refine c_ret ?_
    refine d_ret_then ?_
    replace hm := Option.some.inj hm
    subst hm
    refine d_retC () Try.results76 ?_ trivial (fun W h => ok_pre (H1 := [_, _]) (R1 := []) h (fun W hφ => hφ)) (.inr rfl)
    refine res_tmp ?_
    refine res_nil ?_
    exact rfl
   ·
    replace hm := ite_f hm (of_decide_eq_false h5)
    refine c_skip ?_
    refine d_then ?_
    refine c_seq ?_
    refine c_seq ?_
    refine c_region ?_
    refine g_v rfl r_assign ?_
    refine g_nil ?_
    refine d_then ?_
    refine c_cut (ι := Unit) [] (fun _ => []) (fun _ => ⟨w0, M, H, R, φ⟩) (fun _ => m_ref11_SameLog_j1 = some r) ?_ (fun _ u hm => ?_)
    ·
     refine c_block ?_
     replace hm := bnd hm
     obtain ⟨out2, hl2, hr2⟩ := hm
     obtain ⟨n171', hl2⟩ := loop_lp hl2
     refine c_loopU (ι := Nat × Int) [2, 3, 5] (fun ⟨n171, i143⟩ => [(5, .int .i64 i143)]) (fun ⟨n171, i143⟩ => ⟨w0, M, (100030, g2, .cells #[.int .i64 p1.fBase, .int .i64 p1.fBaseTerm, .slice Ap1_0 p1.fEntries.length cp1_0] 26 (0, 0)) :: (100020, g1, .cells #[.int .i64 p0.fBase, .int .i64 p0.fBaseTerm, .slice Ap0_0 p0.fEntries.length cp0_0] 26 (0, 0)) :: H, R, φ⟩) (fun ⟨n171, i143⟩ => Lp (fun s => m_ref11_SameLog_s2 p0 p1 s) n171 i143 out2) (fun ⟨n171, i143⟩ => n171) (n171', 0) hl2 ⟨rfl, rfl, rfl, trivial⟩ (fun W h => h.phi (fun W hφ => hφ)) (fun ⟨n171, i143⟩ u hlp => ?_)
     obtain ⟨o2, hm, hnx2⟩ := lp_step hlp
     clear hlp
     replace hm : m_ref11_SameLog_s2 p0 p1 i143 = some o2 := hm
     unfold m_ref11_SameLog_s2 at hm
     refine c_flat [(2, .pointer (some ⟨g1, 0, none⟩)), (3, .pointer (some ⟨g2, 0, none⟩)), (5, .int .i64 i143)] ⟨rfl, rfl, rfl, trivial⟩ (fun u => ?_)
     refine c_sta ⟨w0, M, (100030, g2, .cells #[.int .i64 p1.fBase, .int .i64 p1.fBaseTerm, .slice Ap1_0 p1.fEntries.length cp1_0] 26 (0, 0)) :: (100020, g1, .cells #[.int .i64 p0.fBase, .int .i64 p0.fBaseTerm, .slice Ap0_0 p0.fEntries.length cp0_0] 26 (0, 0)) :: H, R, φ⟩ (fun _ h => h) ?_
     refine c_seq ?_
     refine c_seq ?_
     refine c_region ?_
     refine g_v rfl r_move ?_
     refine g_v rfl (r_field (n := 2) Try.underlying26 rfl Try.sizeOf24 rfl rfl) ?_
     refine g_v rfl (r_load (tag := 100020) rfl rfl rfl Try.isAgg24) ?_
     refine g_v rfl (r_lenL Try.underlying24 rfl) ?_
     refine g_v rfl (r_lss rfl rfl) ?_
     refine g_nil ?_
     refine d_then ?_
     refine c_cond rfl (fun h199 => ?_) (fun h199 => ?_)
     ·
      replace hm := ite_t hm (of_decide_eq_true h199)
      refine c_skip ?_
      refine d_then ?_
      refine c_seq ?_
      refine c_block ?_
      refine c_seq ?_
      refine ga_start (n := 11) ⟨w0, M, (100030, g2, .cells #[.int .i64 p1.fBase, .int .i64 p1.fBaseTerm, .slice Ap1_0 p1.fEntries.length cp1_0] 26 (0, 0)) :: (100020, g1, .cells #[.int .i64 p0.fBase, .int .i64 p0.fBaseTerm, .slice Ap0_0 p0.fEntries.length cp0_0] 26 (0, 0)) :: H, R, φ⟩ [] #[false, false, false, false, false, false, false, false, false, false, false] (fun W h => h.phi (fun W hφ => hφ)) mixed rfl rfl ?_
      refine ga_v (i := 0) #[true, false, false, false, false, false, false, false, false, false, false] rfl (by kernel_rfl) (fun _ _ _ _ h => h) rfl (r_field (n := 2) Try.underlying26 rfl Try.sizeOf24 rfl rfl) ?_
      refine ga_v (i := 1) #[true, true, false, false, false, false, false, false, false, false, false] rfl (by kernel_rfl) (fun _ _ _ _ h => h) rfl (r_load (tag := 100020) rfl rfl rfl Try.isAgg24) ?_
      refine ga_v (i := 2) #[true, true, true, false, false, false, false, false, false, false, false] rfl (by kernel_rfl) (fun _ _ _ _ h => h) rfl (r_move) ?_
      replace hm := bnd hm
      obtain ⟨x216, hx216, hm⟩ := hm
      refine ga_know _ (fun W hS => cl_at (p := (Sta.mk w0 M H R φ).ok) (sz := 3) (fun _ => rfl) (by decide) (ok_pre (H1 := [_, _]) (R1 := []) hS (fun W h => h)) fp0_0 hx216) ?_
      rintro ⟨ad217, hA219, f218⟩
      refine ga_v (i := 3) #[true, true, true, true, false, false, false, false, false, false, false] rfl (by kernel_rfl) (fun _ _ _ _ h => h) rfl (r_ix Try.underlying24 Try.sizeOf35 rfl hA219 rfl hx216) ?_
      refine ga_v (i := 4) #[true, true, true, true, true, false, false, false, false, false, false] rfl (by kernel_rfl) (fun _ _ _ _ h => h) rfl (r_ldA rfl Try.isAgg35 Try.sizeOf35 (fun W hS => (f218 W (ok_pre (H1 := [_, _]) (R1 := []) hS (fun W h => h))).take 3) rfl) ?_
      refine ga_v (i := 5) #[true, true, true, true, true, true, false, false, false, false, false] rfl (by kernel_rfl) (fun _ _ _ _ h => h) rfl (r_field (n := 2) Try.underlying26 rfl Try.sizeOf24 rfl rfl) ?_
      refine ga_v (i := 6) #[true, true, true, true, true, true, true, false, false, false, false] rfl (by kernel_rfl) (fun _ _ _ _ h => h) rfl (r_load (tag := 100030) rfl rfl rfl Try.isAgg24) ?_
      refine ga_r (i := 7) #[true, true, true, true, true, true, true, true, false, false, false] rfl (by kernel_rfl) (by decide) rfl (r_move) ?_
      replace hm := bnd hm
      obtain ⟨x220, hx220, hm⟩ := hm
      refine ga_know _ (fun W hS => cl_at (p := (Sta.mk w0 M H R φ).ok) (sz := 3) (fun _ => rfl) (by decide) (ok_pre (H1 := [_, _]) (R1 := []) hS (fun W h => h)) fp1_0 hx220) ?_
      rintro ⟨ad221, hA223, f222⟩
      refine ga_r (i := 8) #[true, true, true, true, true, true, true, true, true, false, false] rfl (by kernel_rfl) (by decide) rfl (r_ix Try.underlying24 Try.sizeOf35 rfl hA223 rfl hx220) ?_
      refine ga_r (i := 9) #[true, true, true, true, true, true, true, true, true, true, false] rfl (by kernel_rfl) (by decide) rfl (r_ldA rfl Try.isAgg35 Try.sizeOf35 (fun W hS => (f222 W (ok_pre (H1 := [_, _]) (R1 := []) hS (fun W h => h))).take 3) rfl) ?_
      refine ga_r (i := 10) #[true, true, true, true, true, true, true, true, true, true, true] rfl (by kernel_rfl) (by decide) rfl (r_neqA rfl rfl eqg35 (eqq35 x216 x220)) ?_
      refine ga_done (by kernel_rfl) ?_
      refine d_then ?_
      refine c_flat [(2, .pointer (some ⟨g1, 0, none⟩)), (3, .pointer (some ⟨g2, 0, none⟩)), (5, .int .i64 i143), (44, .bool (!(decide (x216 = x220))))] ⟨rfl, rfl, rfl, rfl, trivial⟩ (fun u => ?_)
      refine c_sta ⟨w0, M, (100030, g2, .cells #[.int .i64 p1.fBase, .int .i64 p1.fBaseTerm, .slice Ap1_0 p1.fEntries.length cp1_0] 26 (0, 0)) :: (100020, g1, .cells #[.int .i64 p0.fBase, .int .i64 p0.fBaseTerm, .slice Ap0_0 p0.fEntries.length cp0_0] 26 (0, 0)) :: H, R, φ⟩ (fun _ h => h) ?_
      refine c_cond rfl (fun h224 => ?_) (fun h224 => ?_)
      ·
       have h224' : (decide (x216 = x220)) = false := by revert h224; cases (decide (x216 = x220)) <;> simp
       replace hm := ite_f hm (of_decide_eq_false h224')
       refine c_seq ?_
       refine c_region ?_
       refine g_v rfl r_assign ?_
       refine g_nil ?_
       refine d_then ?_
       refine c_ret ?_
       refine d_ret_block ?_
       refine d_ret_then ?_
       refine d_ret_then ?_
       refine d_ret_block ?_
       refine d_ret_then ?_
       refine d_ret_then ?_
       replace hm := nx_out (C := (fun e => Sum.elim (fun e => m_ref11_SameLog_j1) (fun x => some x) e = some r)) hm hnx2 hr2
       replace hm : some false = some r := hm
       replace hm := Option.some.inj hm
       subst hm
       refine d_retC () Try.results76 ?_ trivial (fun W h => ok_pre (H1 := [_, _]) (R1 := []) h (fun W hφ => hφ)) (.inr rfl)
       refine res_tmp ?_
       refine res_nil ?_
       exact rfl
      ·
       have h224' : (decide (x216 = x220)) = true := by revert h224; cases (decide (x216 = x220)) <;> simp
       replace hm := ite_t hm (of_decide_eq_true h224')
       refine c_skip ?_
       refine d_normal_block ?_
       refine d_then ?_
       refine c_region ?_
       refine g_v rfl r_move ?_
       refine g_v rfl (r_add rfl rfl rfl) ?_
       refine g_v rfl r_assign ?_
       refine g_nil ?_
       obtain ⟨n225, hn225, hlp⟩ := nx_inl hm hnx2
       exact d_round (n225, w64 (i143 + 1)) hlp hn225 ⟨rfl, rfl, rfl, trivial⟩ (fun W h => h.phi (fun W hφ => hφ))
     ·
      replace hm := ite_f hm (of_decide_eq_false h199)
      refine c_exit ?_
      refine d_exit_then ?_
      refine d_exit_then ?_
      refine d_exit_block ?_
      replace hm := nx_out (C := (fun e => Sum.elim (fun e => m_ref11_SameLog_j1) (fun x => some x) e = some r)) hm hnx2 hr2
      exact d_round () hm Nat.zero_lt_one trivial (fun W h => ((h.dropH (t := 100030) rfl).dropH (t := 100020) rfl).phi (fun W hφ => hφ))
    ·
     unfold m_ref11_SameLog_j1 at hm
     refine d_flat [] trivial (fun u => ?_)
     refine d_sta ⟨w0, M, H, R, φ⟩ (fun _ h => h) ?_
     refine d_then ?_
     refine c_seq ?_
     refine c_region ?_
     refine g_v rfl r_assign ?_
     refine g_nil ?_
     refine d_then ?_
     refine c_ret ?_
     replace hm := Option.some.inj hm
     subst hm
     refine d_retC () Try.results76 ?_ trivial (fun W h => ok_pre (H1 := []) (R1 := []) h (fun W hφ => hφ)) (.inr rfl)
     refine res_tmp ?_
     refine res_nil ?_
     exact rfl
  ·
   replace hm := ite_t hm (of_decide_eq_true h4)
   refine g_no rfl rfl rfl rfl rfl h4 ?_
   refine g_no rfl rfl rfl rfl rfl h4 ?_
   refine g_no rfl rfl rfl rfl rfl h4 ?_
   refine g_no rfl rfl rfl rfl rfl h4 ?_
   refine g_no rfl rfl rfl rfl rfl h4 ?_
   refine g_no rfl rfl rfl rfl rfl h4 ?_
   refine g_v rfl (r_pick1 rfl h4) ?_
   refine g_nil ?_
   refine d_then ?_
   refine c_flat [(2, .pointer (some ⟨g1, 0, none⟩)), (3, .pointer (some ⟨g2, 0, none⟩)), (26, .bool true)] ⟨rfl, rfl, rfl, trivial⟩ (fun u => ?_)
   refine c_sta ⟨w0, M, (100030, g2, .cells #[.int .i64 p1.fBase, .int .i64 p1.fBaseTerm, .slice Ap1_0 p1.fEntries.length cp1_0] 26 (0, 0)) :: (100020, g1, .cells #[.int .i64 p0.fBase, .int .i64 p0.fBaseTerm, .slice Ap0_0 p0.fEntries.length cp0_0] 26 (0, 0)) :: H, R, φ⟩ (fun _ h => h) ?_
   refine c_cond1 rfl rfl ?_
   refine c_seq ?_
   refine c_region ?_
   refine g_v rfl r_assign ?_
   refine g_nil ?_
   refine d_then ?_
   refine c_ret ?_
   refine d_ret_then ?_
   replace hm := Option.some.inj hm
   subst hm
   refine d_retC () Try.results76 ?_ trivial (fun W h => ok_pre (H1 := [_, _]) (R1 := []) h (fun W hφ => hφ)) (.inr rfl)
   refine res_tmp ?_
   refine res_nil ?_
   exact rfl
 ·
  replace hm := ite_t hm (of_decide_eq_true h3)
  refine g_no rfl rfl rfl rfl rfl h3 ?_
  refine g_no rfl rfl rfl rfl rfl h3 ?_
  refine g_no rfl rfl rfl rfl rfl h3 ?_
  refine g_no rfl rfl rfl rfl rfl h3 ?_
  refine g_v rfl (r_pick1 rfl h3) ?_
  refine g_v rfl r_move ?_
  refine g_no rfl rfl rfl rfl rfl rfl ?_
  refine g_no rfl rfl rfl rfl rfl rfl ?_
  refine g_no rfl rfl rfl rfl rfl rfl ?_
  refine g_no rfl rfl rfl rfl rfl rfl ?_
  refine g_no rfl rfl rfl rfl rfl rfl ?_
  refine g_no rfl rfl rfl rfl rfl rfl ?_
  refine g_no rfl rfl rfl rfl rfl rfl ?_
  refine g_v rfl (r_pick1 rfl rfl) ?_
  refine g_nil ?_
  refine d_then ?_
  refine c_flat [(2, .pointer (some ⟨g1, 0, none⟩)), (3, .pointer (some ⟨g2, 0, none⟩)), (26, .bool true)] ⟨rfl, rfl, rfl, trivial⟩ (fun u => ?_)
  refine c_sta ⟨w0, M, (100030, g2, .cells #[.int .i64 p1.fBase, .int .i64 p1.fBaseTerm, .slice Ap1_0 p1.fEntries.length cp1_0] 26 (0, 0)) :: (100020, g1, .cells #[.int .i64 p0.fBase, .int .i64 p0.fBaseTerm, .slice Ap0_0 p0.fEntries.length cp0_0] 26 (0, 0)) :: H, R, φ⟩ (fun _ h => h) ?_
  refine c_cond1 rfl rfl ?_
  refine c_seq ?_
  refine c_region ?_
  refine g_v rfl r_assign ?_
  refine g_nil ?_
  refine d_then ?_
  refine c_ret ?_
  refine d_ret_then ?_
  replace hm := Option.some.inj hm
  subst hm
  refine d_retC () Try.results76 ?_ trivial (fun W h => ok_pre (H1 := [_, _]) (R1 := []) h (fun W hφ => hφ)) (.inr rfl)
  refine res_tmp ?_
  refine res_nil ?_
  exact rfl

theorem bld26_10 (zA0 : Option Addr) (zn0 : Nat) (zc0 : Nat) : ∀ W, (Instr.build 26 #[(2, .slice zA0 zn0 zc0)]).run Try.prog W = .ok (.agg #[.int .i64 0, .int .i64 0, .slice zA0 zn0 zc0]) W := fun _ => by kernel_rfl
noncomputable def m_law11_sameEntries (p0 : List GEntry) (p1 : List GEntry) : Option Bool :=
  (m_ref11_SameLog (⟨0, 0, p0⟩ : GLog) (⟨0, 0, p1⟩ : GLog)).bind fun x1 =>
  some x1
theorem c_law11_sameEntries {w0 : World} {M : Nat → Prop} {H : List (Nat × Nat × Obj)} {R : List (Nat × Row)} {φ : World → Prop} (p0 : List GEntry) (Ap0_0 : Option Addr) (cp0_0 : Nat) (hcp0_0 : p0.length ≤ cp0_0) (fp0_0 : ∀ W, (Sta.mk w0 M H R φ).ok W → Cl W Ap0_0 (p0.flatMap GEntry.enc)) (p1 : List GEntry) (Ap1_0 : Option Addr) (cp1_0 : Nat) (hcp1_0 : p1.length ≤ cp1_0) (fp1_0 : ∀ W, (Sta.mk w0 M H R φ).ok W → Cl W Ap1_0 (p1.flatMap GEntry.enc)) (r : Bool) (hm : m_law11_sameEntries p0 p1 = some r) :
    Cn Try.prog 34 #[.slice Ap0_0 p0.length cp0_0, .slice Ap1_0 p1.length cp1_0] ⟨w0, M, H, R, φ⟩ (fun x : Unit => .bool r) (fun x => True) (fun x => ⟨w0, M, H, R, φ⟩) := by
 unfold m_law11_sameEntries at hm
 refine cn_intro (fn := Try.f34) (N := 10) Try.func34 rfl Try.ntmps34 rfl ?_
 refine c_seq ?_
 refine c_region ?_
 refine g_v rfl r_assign ?_
 refine g_nil ?_
 refine d_then ?_
 refine c_seq ?_
 refine c_region ?_
 refine g_v rfl r_move ?_
 refine g_v rfl (r_build _ rfl (bld26_10 _ _ _)) ?_
 refine g_v rfl r_move ?_
 refine g_v rfl (r_build _ rfl (bld26_10 _ _ _)) ?_
 replace hm := bnd hm
 obtain ⟨x1, hx2, hm⟩ := hm
 refine g_cn ⟨w0, M, _, _, φ⟩ (fun _ h => h) Try.call76 rfl rfl (c_ref11_SameLog (⟨0, 0, p0⟩ : GLog) Ap0_0 cp0_0 hcp0_0 (fun W hS => fp0_0 W (ok_pre (H1 := []) (R1 := []) hS (fun W h => h))) (⟨0, 0, p1⟩ : GLog) Ap1_0 cp1_0 hcp1_0 (fun W hS => fp1_0 W (ok_pre (H1 := []) (R1 := []) hS (fun W h => h))) _ hx2) (fun _ _ => ?_)
 refine g_v rfl r_assign ?_
 refine g_nil ?_
 refine d_then ?_
 refine c_ret ?_
 replace hm := Option.some.inj hm
 subst hm
 refine d_retC () Try.results34 ?_ trivial (fun W h => ok_pre (H1 := []) (R1 := []) h (fun W hφ => hφ)) (.inr rfl)
 refine res_tmp ?_
 refine res_nil ?_
 exact rfl

noncomputable def m_ref11_Slice_s2 (p0 : GLog) (p1 : Int) (p2 : Int) (l157 : List GEntry) (i160 : Int) : Option (((List GEntry) × Int) ⊕ (List GEntry)) :=
  if i160 < (p0.fEntries.length : Int) then
    if p1 ≤ w64 ((w64 (p0.fBase + 1)) + i160) then
      if (l157.length : Int) < p2 then
        (at_ p0.fEntries i160).bind fun x194 =>
        (app 32 l157 [x194]).bind fun l199 =>
        some (.inl (l199, w64 (i160 + 1)))
      else
        some (.inl (l157, w64 (i160 + 1)))
    else
      some (.inl (l157, w64 (i160 + 1)))
  else
    some (.inr l157)
noncomputable def m_ref11_Slice_j1  (l139 : List GEntry) : Option (List GEntry) :=
  some l139
noncomputable def m_ref11_Slice (p0 : GLog) (p1 : Int) (p2 : Int) : Option (List GEntry) :=
  (loop (fun s => m_ref11_Slice_s2 p0 p1 p2 s.1 s.2) (([] : List GEntry), 0)).bind fun e => m_ref11_Slice_j1 e
theorem c_ref11_Slice {w0 : World} {M : Nat → Prop} {H : List (Nat × Nat × Obj)} {R : List (Nat × Row)} {φ : World → Prop} (p0 : GLog) (Ap0_0 : Option Addr) (cp0_0 : Nat) (hcp0_0 : p0.fEntries.length ≤ cp0_0) (fp0_0 : ∀ W, (Sta.mk w0 M H R φ).ok W → Cl W Ap0_0 (p0.fEntries.flatMap GEntry.enc)) (p1 : Int) (p2 : Int) (r : (List GEntry)) (hm : m_ref11_Slice p0 p1 p2 = some r) :
    Cn Try.prog 36 #[.agg #[.int .i64 p0.fBase, .int .i64 p0.fBaseTerm, .slice Ap0_0 p0.fEntries.length cp0_0], .int .i64 p1, .int .i64 p2] ⟨w0, M, H, R, φ⟩ (fun x : Option Addr × Nat => .slice x.1 r.length x.2) (fun x => r.length ≤ x.2) (fun x => ⟨w0, M, H, (2000, ⟨.slice x.1 r.length x.2, 35, 3, r.length, r.flatMap GEntry.enc⟩) :: R, φ⟩) := by
 unfold m_ref11_Slice at hm
 refine cn_intro (fn := Try.f36) (N := 38) Try.func36 rfl Try.ntmps36 rfl ?_
 refine c_seq ?_
 refine c_region ?_
 refine g_e rfl (e_box 100030 rfl) (fun g1 _ => ?_)
 refine g_v rfl r_assign ?_
 refine g_nil ?_
 refine d_then ?_
 refine c_seq ?_
 refine c_region ?_
 refine g_v rfl r_assign ?_
 refine g_nil ?_
 refine d_then ?_
 refine c_seq ?_
 refine c_seq ?_
 refine c_region ?_
 refine g_v rfl r_assign ?_
 refine g_nil ?_
 refine d_then ?_
 refine c_sta _ (fun W h => nilR h 3 35 3) ?_
 refine c_cut (ι := (List GEntry) × Option Addr × Nat) [7] (fun ⟨l139, A140, c141⟩ => [(7, .slice A140 l139.length c141)]) (fun ⟨l139, A140, c141⟩ => ⟨w0, M, H, (3, ⟨.slice A140 l139.length c141, 35, 3, l139.length, l139.flatMap GEntry.enc⟩) :: R, φ⟩) (fun ⟨l139, A140, c141⟩ => m_ref11_Slice_j1 l139 = some r ∧ l139.length ≤ c141) ?_ (fun ⟨l139, A140, c141⟩ u ⟨hm, hc141⟩ => ?_)
 ·
  refine c_block ?_
  replace hm := bnd hm
  obtain ⟨out2, hl2, hr2⟩ := hm
  obtain ⟨n176', hl2⟩ := loop_lp hl2
  refine c_loopU (ι := Nat × (List GEntry) × Int × Option Addr × Nat) [1, 2, 3, 7, 8] (fun ⟨n176, l157, i160, A158, c159⟩ => [(7, .slice A158 l157.length c159), (8, .int .i64 i160)]) (fun ⟨n176, l157, i160, A158, c159⟩ => ⟨w0, M, (100030, g1, .cells #[.int .i64 p0.fBase, .int .i64 p0.fBaseTerm, .slice Ap0_0 p0.fEntries.length cp0_0] 26 (0, 0)) :: H, (3, ⟨.slice A158 l157.length c159, 35, 3, l157.length, l157.flatMap GEntry.enc⟩) :: R, φ⟩) (fun ⟨n176, l157, i160, A158, c159⟩ => Lp (fun s => m_ref11_Slice_s2 p0 p1 p2 s.1 s.2) n176 (l157, i160) out2 ∧ l157.length ≤ c159) (fun ⟨n176, l157, i160, A158, c159⟩ => n176) (n176', ([] : List GEntry), 0, none, 0) ⟨hl2, (Nat.le_refl 0)⟩ ⟨rfl, rfl, rfl, rfl, rfl, trivial⟩ (fun W h => h.phi (fun W hφ => hφ)) (fun ⟨n176, l157, i160, A158, c159⟩ u ⟨hlp, hc159⟩ => ?_)
  obtain ⟨o2, hm, hnx2⟩ := lp_step hlp
  clear hlp
  replace hm : m_ref11_Slice_s2 p0 p1 p2 l157 i160 = some o2 := hm
  unfold m_ref11_Slice_s2 at hm
  refine c_flat [(1, .int .i64 p1), (2, .int .i64 p2), (3, .pointer (some ⟨g1, 0, none⟩)), (7, .slice A158 l157.length c159), (8, .int .i64 i160)] ⟨rfl, rfl, rfl, rfl, rfl, trivial⟩ (fun u => ?_)
  refine c_sta ⟨w0, M, (100030, g1, .cells #[.int .i64 p0.fBase, .int .i64 p0.fBaseTerm, .slice Ap0_0 p0.fEntries.length cp0_0] 26 (0, 0)) :: H, (3, ⟨.slice A158 l157.length c159, 35, 3, l157.length, l157.flatMap GEntry.enc⟩) :: R, φ⟩ (fun _ h => h) ?_
  refine c_seq ?_
  refine c_seq ?_
  refine c_region ?_
  refine g_v rfl r_move ?_
  refine g_v rfl (r_field (n := 2) Try.underlying26 rfl Try.sizeOf24 rfl rfl) ?_
  refine g_v rfl (r_load (tag := 100030) rfl rfl rfl Try.isAgg24) ?_
  refine g_v rfl (r_lenL Try.underlying24 rfl) ?_
  refine g_v rfl (r_lss rfl rfl) ?_
  refine g_nil ?_
  refine d_then ?_
  refine c_cond rfl (fun h191 => ?_) (fun h191 => ?_)
  ·
   replace hm := ite_t hm (of_decide_eq_true h191)
   refine c_skip ?_
   refine d_then ?_
   refine c_seq ?_
   refine c_block ?_
   refine c_seq ?_
   refine c_region ?_
   refine g_v rfl (r_field (n := 0) Try.underlying26 rfl Try.sizeOf3 rfl rfl) ?_
   refine g_v rfl (r_load (tag := 100030) rfl rfl rfl Try.isAgg3) ?_
   refine g_v rfl (r_add rfl rfl rfl) ?_
   refine g_v rfl r_move ?_
   refine g_v rfl (r_add rfl rfl rfl) ?_
   refine g_v rfl r_move ?_
   refine g_v rfl (r_geq rfl rfl) ?_
   refine g_v rfl r_move ?_
   refine g_if rfl rfl rfl rfl rfl (fun h192 => ?_) (fun h192 => ?_)
   ·
    replace hm := ite_t hm (of_decide_eq_true h192)
    refine g_v rfl r_move ?_
    refine g_do rfl rfl rfl rfl rfl h192 ?_
    refine g_v rfl (r_lenL Try.underlying24 rfl) ?_
    refine g_do rfl rfl rfl rfl rfl h192 ?_
    refine g_v rfl r_move ?_
    refine g_do rfl rfl rfl rfl rfl h192 ?_
    refine g_v rfl (r_lss rfl rfl) ?_
    refine g_v rfl (r_pick1 rfl h192) ?_
    refine g_nil ?_
    refine d_then ?_
    refine c_flat [(1, .int .i64 p1), (2, .int .i64 p2), (3, .pointer (some ⟨g1, 0, none⟩)), (7, .slice A158 l157.length c159), (8, .int .i64 i160), (28, .bool (decide ((l157.length : Int) < p2)))] ⟨rfl, rfl, rfl, rfl, rfl, rfl, trivial⟩ (fun u => ?_)
    refine c_sta ⟨w0, M, (100030, g1, .cells #[.int .i64 p0.fBase, .int .i64 p0.fBaseTerm, .slice Ap0_0 p0.fEntries.length cp0_0] 26 (0, 0)) :: H, (3, ⟨.slice A158 l157.length c159, 35, 3, l157.length, l157.flatMap GEntry.enc⟩) :: R, φ⟩ (fun _ h => h) ?_
    refine c_cond rfl (fun h193 => ?_) (fun h193 => ?_)
    ·
     replace hm := ite_t hm (of_decide_eq_true h193)
     refine c_region ?_
     refine g_v rfl r_move ?_
     refine g_v rfl (r_field (n := 2) Try.underlying26 rfl Try.sizeOf24 rfl rfl) ?_
     refine g_v rfl (r_load (tag := 100030) rfl rfl rfl Try.isAgg24) ?_
     refine g_v rfl r_move ?_
     replace hm := bnd hm
     obtain ⟨x194, hx194, hm⟩ := hm
     refine g_know _ (fun W hS => cl_at (p := (Sta.mk w0 M H R φ).ok) (sz := 3) (fun _ => rfl) (by decide) (ok_pre (H1 := [_]) (R1 := [_]) hS (fun W h => h)) fp0_0 hx194) ?_
     rintro ⟨ad195, hA197, f196⟩
     refine g_v rfl (r_ix Try.underlying24 Try.sizeOf35 rfl hA197 rfl hx194) ?_
     refine g_v rfl (r_ldA rfl Try.isAgg35 Try.sizeOf35 (fun W hS => (f196 W (ok_pre (H1 := [_]) (R1 := [_]) hS (fun W h => h))).take 3) rfl) ?_
     refine g_e rfl (e_lit (tag := 100350) (l := [x194]) (enc := GEntry.enc) (sz := 3) rfl Try.underlying24 (lit35_8 _ _ _) rfl rfl (fun _ => rfl)) (fun g198 _ => ?_)
     replace hm := bnd hm
     obtain ⟨l199, hl199, hm⟩ := hm
     refine g_e rfl (e_appR (enc := GEntry.enc) (l := l157) (l1 := [x194]) (l2 := l199) (tag := 3) Try.underlying24 inf35_3 rfl (by decide) (by decide) (fun _ => rfl) (fun _ => rfl) rfl hc159 rfl rfl (fun W hS => rowCl (tag := 100350) rfl W hS) hl199) (fun ⟨A200, c201⟩ hc201 => ?_)
     refine g_v rfl r_assign ?_
     refine g_nil ?_
     refine d_normal_block ?_
     refine d_then ?_
     refine c_flat [(1, .int .i64 p1), (2, .int .i64 p2), (3, .pointer (some ⟨g1, 0, none⟩)), (7, .slice A200 l199.length c201), (8, .int .i64 i160)] ⟨rfl, rfl, rfl, rfl, rfl, trivial⟩ (fun u => ?_)
     refine c_sta ⟨w0, M, (100030, g1, .cells #[.int .i64 p0.fBase, .int .i64 p0.fBaseTerm, .slice Ap0_0 p0.fEntries.length cp0_0] 26 (0, 0)) :: H, (100350, ⟨.slice (some ⟨g198, 0, none⟩) [x194].length 1, 35, 3, [x194].length, [x194].flatMap GEntry.enc⟩) :: (3, ⟨.slice A200 l199.length c201, 35, 3, l199.length, l199.flatMap GEntry.enc⟩) :: R, φ⟩ (fun _ h => h) ?_
     refine c_region ?_
     refine g_v rfl r_move ?_
     refine g_v rfl (r_add rfl rfl rfl) ?_
     refine g_v rfl r_assign ?_
     refine g_nil ?_
     obtain ⟨n202, hn202, hlp⟩ := nx_inl hm hnx2
     exact d_round (n202, l199, w64 (i160 + 1), A200, c201) ⟨hlp, hc201⟩ hn202 ⟨rfl, rfl, rfl, rfl, rfl, trivial⟩ (fun W h => ((h.shut (t := 100350) rfl).phi (fun _ hh => hh.1)).phi (fun W hφ => hφ))
    ·
     replace hm := ite_f hm (of_decide_eq_false h193)
     refine c_skip ?_
     refine d_normal_block ?_
     refine d_then ?_
     refine c_region ?_
     refine g_v rfl r_move ?_
     refine g_v rfl (r_add rfl rfl rfl) ?_
     refine g_v rfl r_assign ?_
     refine g_nil ?_
     obtain ⟨n203, hn203, hlp⟩ := nx_inl hm hnx2
     exact d_round (n203, l157, w64 (i160 + 1), A158, c159) ⟨hlp, hc159⟩ hn203 ⟨rfl, rfl, rfl, rfl, rfl, trivial⟩ (fun W h => h.phi (fun W hφ => hφ))
   ·
    replace hm := ite_f hm (of_decide_eq_false h192)
    refine g_no rfl rfl rfl rfl rfl h192 ?_
    refine g_no rfl rfl rfl rfl rfl h192 ?_
    refine g_no rfl rfl rfl rfl rfl h192 ?_
    refine g_v rfl (r_pick0 rfl h192) ?_
    refine g_nil ?_
    refine d_then ?_
    refine c_flat [(1, .int .i64 p1), (2, .int .i64 p2), (3, .pointer (some ⟨g1, 0, none⟩)), (7, .slice A158 l157.length c159), (8, .int .i64 i160), (28, .bool false)] ⟨rfl, rfl, rfl, rfl, rfl, rfl, trivial⟩ (fun u => ?_)
    refine c_sta ⟨w0, M, (100030, g1, .cells #[.int .i64 p0.fBase, .int .i64 p0.fBaseTerm, .slice Ap0_0 p0.fEntries.length cp0_0] 26 (0, 0)) :: H, (3, ⟨.slice A158 l157.length c159, 35, 3, l157.length, l157.flatMap GEntry.enc⟩) :: R, φ⟩ (fun _ h => h) ?_
    refine c_cond0 rfl rfl ?_
    refine c_skip ?_
    refine d_normal_block ?_
    refine d_then ?_
    refine c_region ?_
    refine g_v rfl r_move ?_
    refine g_v rfl (r_add rfl rfl rfl) ?_
    refine g_v rfl r_assign ?_
    refine g_nil ?_
    obtain ⟨n204, hn204, hlp⟩ := nx_inl hm hnx2
    exact d_round (n204, l157, w64 (i160 + 1), A158, c159) ⟨hlp, hc159⟩ hn204 ⟨rfl, rfl, rfl, rfl, rfl, trivial⟩ (fun W h => h.phi (fun W hφ => hφ))
  ·
   replace hm := ite_f hm (of_decide_eq_false h191)
   refine c_exit ?_
   refine d_exit_then ?_
   refine d_exit_then ?_
   refine d_exit_block ?_
   replace hm := nx_out (C := (fun e => m_ref11_Slice_j1 e = some r)) hm hnx2 hr2
   exact d_round (l157, A158, c159) ⟨hm, hc159⟩ Nat.zero_lt_one ⟨rfl, trivial⟩ (fun W h => (h.dropH (t := 100030) rfl).phi (fun W hφ => hφ))
 ·
  unfold m_ref11_Slice_j1 at hm
  refine d_flat [(7, .slice A140 l139.length c141)] ⟨rfl, trivial⟩ (fun u => ?_)
  refine d_sta ⟨w0, M, H, (3, ⟨.slice A140 l139.length c141, 35, 3, l139.length, l139.flatMap GEntry.enc⟩) :: R, φ⟩ (fun _ h => h) ?_
  refine d_then ?_
  refine c_seq ?_
  refine c_region ?_
  refine g_v rfl r_move ?_
  refine g_v rfl r_assign ?_
  refine g_nil ?_
  refine d_then ?_
  refine c_ret ?_
  replace hm := Option.some.inj hm
  subst hm
  refine d_sta _ (fun W h => ok_frontR (t := 3) (t' := 2000) h rfl) ?_
  refine d_retC (A140, c141) Try.results36 ?_ hc141 (fun W h => h.phi (fun W hφ => hφ)) (.inr rfl)
  refine res_tmp ?_
  refine res_nil ?_
  exact rfl

theorem isi35_11  : (Try.prog.info? 35).isSome = true := by kernel_rfl
noncomputable def m_slices_Clone_77 (p0 : List GEntry) : Option (List GEntry) :=
  (app 32 ([] : List GEntry) p0).bind fun l3 =>
  some l3
theorem c_slices_Clone_77 {w0 : World} {M : Nat → Prop} {H : List (Nat × Nat × Obj)} {R : List (Nat × Row)} {φ : World → Prop} (p0 : List GEntry) (Ap0_0 : Option Addr) (cp0_0 : Nat) (hcp0_0 : p0.length ≤ cp0_0) (fp0_0 : ∀ W, (Sta.mk w0 M H R φ).ok W → Cl W Ap0_0 (p0.flatMap GEntry.enc)) (r : (List GEntry)) (hm : m_slices_Clone_77 p0 = some r) :
    Cn Try.prog 77 #[.slice Ap0_0 p0.length cp0_0] ⟨w0, M, H, R, φ⟩ (fun x : Option Addr × Nat => .slice x.1 r.length x.2) (fun x => r.length ≤ x.2) (fun x => ⟨w0, M, H, (2000, ⟨.slice x.1 r.length x.2, 35, 3, r.length, r.flatMap GEntry.enc⟩) :: R, φ⟩) := by
 unfold m_slices_Clone_77 at hm
 refine cn_intro (fn := Try.f77) (N := 8) Try.func77 rfl Try.ntmps77 rfl ?_
 refine c_seq ?_
 refine c_region ?_
 refine g_v rfl r_assign ?_
 refine g_nil ?_
 refine d_then ?_
 refine c_seq ?_
 refine c_seq ?_
 refine c_region ?_
 refine g_v rfl r_move ?_
 refine g_v rfl (r_isNilS Try.underlying24 rfl rfl) ?_
 refine g_nil ?_
 refine d_then ?_
 refine c_cond rfl (fun h1 => ?_) (fun h1 => ?_)
 ·
  refine c_know (p0 = []) (fun W hS => cl_nil_of (enc := GEntry.enc) (fun _ => Nat.le_of_ble_eq_true rfl) (nil_of h1 ▸ (fun W hS => fp0_0 W (ok_pre (H1 := []) (R1 := []) hS (fun W h => h))) W hS)) (fun hnil => ?_)
  replace hm : some [] = some r := by
    rw [hnil] at hm
    exact hm
  refine c_seq ?_
  refine c_region ?_
  refine g_v rfl r_assign ?_
  refine g_nil ?_
  refine d_then ?_
  refine c_ret ?_
  refine d_ret_then ?_
  replace hm := Option.some.inj hm
  subst hm
  refine d_sta _ (fun W h => nilR h 1 35 3) ?_
  refine d_sta _ (fun W h => ok_frontR (t := 1) (t' := 2000) h rfl) ?_
  refine d_retC (none, 0) Try.results77 ?_ (Nat.le_refl 0) (fun W h => h.phi (fun W hφ => hφ)) (.inr rfl)
  refine res_tmp ?_
  refine res_nil ?_
  exact rfl
 ·
  refine c_skip ?_
  refine d_then ?_
  refine c_seq ?_
  refine c_region ?_
  refine g_e rfl (e_lit0 (tag := 100050) (sz := 3) Try.underlying24 isi35_11) (fun g2 _ => ?_)
  refine g_v rfl r_move ?_
  replace hm := bnd hm
  obtain ⟨l3, hl3, hm⟩ := hm
  refine g_e rfl (e_appR (enc := GEntry.enc) (l := []) (l1 := p0) (l2 := l3) (tag := 100050) Try.underlying24 inf35_3 rfl (by decide) (by decide) (fun _ => rfl) (fun _ => rfl) rfl (Nat.le_refl 0) rfl rfl (fun W hS => fp0_0 W (ok_pre (H1 := []) (R1 := [_]) hS (fun W h => h))) hl3) (fun ⟨A4, c5⟩ hc5 => ?_)
  refine g_v rfl r_assign ?_
  refine g_nil ?_
  refine d_then ?_
  refine c_ret ?_
  replace hm := Option.some.inj hm
  subst hm
  refine d_sta _ (fun W h => ok_frontR (t := 100050) (t' := 2000) h rfl) ?_
  refine d_retC (A4, c5) Try.results77 ?_ hc5 (fun W h => h.phi (fun W hφ => hφ)) (.inr rfl)
  refine res_tmp ?_
  refine res_nil ?_
  exact rfl

noncomputable def m_plog_Slice (p0 : GLog) (p1 : Int) (p2 : Int) : Option (List GEntry) :=
  (m_plog_Last p0).bind fun x2 =>
  if x2 < (max p1 (w64 (p0.fBase + 1))) then
    some ([] : List GEntry)
  else
    if p2 < 1 then
      some ([] : List GEntry)
    else
      (cutLo p0.fEntries (w64 ((w64 ((max p1 (w64 (p0.fBase + 1))) - p0.fBase)) - 1))).bind fun l7 =>
      (cutHi l7 (min p2 (l7.length : Int))).bind fun l9 =>
      (m_slices_Clone_77 l9).bind fun x10 =>
      some x10
theorem c_plog_Slice {w0 : World} {M : Nat → Prop} {H : List (Nat × Nat × Obj)} {R : List (Nat × Row)} {φ : World → Prop} (p0 : GLog) (Ap0_0 : Option Addr) (cp0_0 : Nat) (hcp0_0 : p0.fEntries.length ≤ cp0_0) (fp0_0 : ∀ W, (Sta.mk w0 M H R φ).ok W → Cl W Ap0_0 (p0.fEntries.flatMap GEntry.enc)) (p1 : Int) (p2 : Int) (r : (List GEntry)) (hm : m_plog_Slice p0 p1 p2 = some r) :
    Cn Try.prog 35 #[.agg #[.int .i64 p0.fBase, .int .i64 p0.fBaseTerm, .slice Ap0_0 p0.fEntries.length cp0_0], .int .i64 p1, .int .i64 p2] ⟨w0, M, H, R, φ⟩ (fun x : Option Addr × Nat => .slice x.1 r.length x.2) (fun x => r.length ≤ x.2) (fun x => ⟨w0, M, H, (2000, ⟨.slice x.1 r.length x.2, 35, 3, r.length, r.flatMap GEntry.enc⟩) :: R, φ⟩) := by
 unfold m_plog_Slice at hm
 refine cn_intro (fn := Try.f35) (N := 36) Try.func35 rfl Try.ntmps35 rfl ?_
 refine c_seq ?_
 refine c_region ?_
 refine g_e rfl (e_box 100030 rfl) (fun g1 _ => ?_)
 refine g_v rfl r_assign ?_
 refine g_nil ?_
 refine d_then ?_
 refine c_seq ?_
 refine c_region ?_
 refine g_v rfl r_move ?_
 refine g_v rfl (r_field (n := 0) Try.underlying26 rfl Try.sizeOf3 rfl rfl) ?_
 refine g_v rfl (r_load (tag := 100030) rfl rfl rfl Try.isAgg3) ?_
 refine g_v rfl (r_add rfl rfl rfl) ?_
 refine g_v rfl (r_max rfl rfl) ?_
 refine g_v rfl r_assign ?_
 refine g_nil ?_
 refine d_then ?_
 refine c_seq ?_
 refine c_seq ?_
 refine c_region ?_
 refine g_v rfl r_move ?_
 refine g_v rfl (r_loadA (tag := 100030) rfl rfl Try.isAgg26 Try.sizeOf26 rfl rfl) ?_
 replace hm := bnd hm
 obtain ⟨x2, hx3, hm⟩ := hm
 refine g_cn ⟨w0, M, _, _, φ⟩ (fun _ h => h) Try.call38 rfl rfl (c_plog_Last p0 Ap0_0 cp0_0 hcp0_0 (fun W hS => fp0_0 W (ok_pre (H1 := [_]) (R1 := []) hS (fun W h => h))) _ hx3) (fun _ _ => ?_)
 refine g_v rfl (r_gtr rfl rfl) ?_
 refine g_v rfl r_move ?_
 refine g_if rfl rfl rfl rfl rfl (fun h4 => ?_) (fun h4 => ?_)
 ·
  replace hm := ite_f hm (of_decide_eq_false h4)
  refine g_v rfl r_move ?_
  refine g_do rfl rfl rfl rfl rfl h4 ?_
  refine g_v rfl (r_lss rfl rfl) ?_
  refine g_v rfl (r_pick0 rfl h4) ?_
  refine g_nil ?_
  refine d_then ?_
  refine c_flat [(1, .int .i64 (max p1 (w64 (p0.fBase + 1)))), (2, .int .i64 p2), (3, .pointer (some ⟨g1, 0, none⟩)), (20, .bool (decide (p2 < 1)))] ⟨rfl, rfl, rfl, rfl, trivial⟩ (fun u => ?_)
  refine c_sta ⟨w0, M, (100030, g1, .cells #[.int .i64 p0.fBase, .int .i64 p0.fBaseTerm, .slice Ap0_0 p0.fEntries.length cp0_0] 26 (0, 0)) :: H, R, φ⟩ (fun _ h => h) ?_
  refine c_cond rfl (fun h5 => ?_) (fun h5 => ?_)
  ·
   replace hm := ite_t hm (of_decide_eq_true h5)
   refine c_seq ?_
   refine c_region ?_
   refine g_v rfl r_assign ?_
   refine g_nil ?_
   refine d_then ?_
   refine c_ret ?_
   refine d_ret_then ?_
   replace hm := Option.some.inj hm
   subst hm
   refine d_sta _ (fun W h => nilR h 1 35 3) ?_
   refine d_sta _ (fun W h => ok_frontR (t := 1) (t' := 2000) h rfl) ?_
   refine d_retC (none, 0) Try.results35 ?_ (Nat.le_refl 0) (fun W h => (h.dropH (t := 100030) rfl).phi (fun W hφ => hφ)) (.inr rfl)
   refine res_tmp ?_
   refine res_nil ?_
   exact rfl
  ·
   replace hm := ite_f hm (of_decide_eq_false h5)
   refine c_skip ?_
   refine d_then ?_
   refine c_seq ?_
   refine c_region ?_
   refine g_v rfl (r_field (n := 2) Try.underlying26 rfl Try.sizeOf24 rfl rfl) ?_
   refine g_v rfl (r_load (tag := 100030) rfl rfl rfl Try.isAgg24) ?_
   refine g_v rfl r_move ?_
   refine g_v rfl (r_field (n := 0) Try.underlying26 rfl Try.sizeOf3 rfl rfl) ?_
   refine g_v rfl (r_load (tag := 100030) rfl rfl rfl Try.isAgg3) ?_
   refine g_v rfl (r_sub rfl rfl rfl) ?_
   refine g_v rfl (r_sub rfl rfl rfl) ?_
   replace hm := bnd hm
   obtain ⟨l7, hl7, hm⟩ := hm
   have f6 := fun (W : World) (h : (Sta.mk w0 M H R φ).ok W) => cl_cutLo (enc := GEntry.enc) (sz := 3) (c := cp0_0) (fun _ => rfl) hcp0_0 hl7 (fp0_0 W h)
   refine g_v rfl (r_lcutLo Try.underlying24 Try.sizeOf35 rfl hcp0_0 rfl hl7) ?_
   refine g_v rfl r_assign ?_
   refine g_nil ?_
   refine d_then ?_
   refine c_flat [(2, .int .i64 p2), (7, .slice (if cp0_0 = (w64 ((w64 ((max p1 (w64 (p0.fBase + 1))) - p0.fBase)) - 1)).toNat then Ap0_0 else Ap0_0.map (·.add ((w64 ((w64 ((max p1 (w64 (p0.fBase + 1))) - p0.fBase)) - 1)).toNat * 3))) l7.length (cp0_0 - (w64 ((w64 ((max p1 (w64 (p0.fBase + 1))) - p0.fBase)) - 1)).toNat))] ⟨rfl, rfl, trivial⟩ (fun u => ?_)
   refine c_sta ⟨w0, M, (100030, g1, .cells #[.int .i64 p0.fBase, .int .i64 p0.fBaseTerm, .slice Ap0_0 p0.fEntries.length cp0_0] 26 (0, 0)) :: H, R, φ⟩ (fun _ h => h) ?_
   refine c_seq ?_
   refine c_region ?_
   refine g_v rfl r_move ?_
   refine g_v rfl r_move ?_
   refine g_v rfl r_move ?_
   refine g_v rfl (r_lenL Try.underlying24 rfl) ?_
   refine g_v rfl (r_min rfl rfl) ?_
   replace hm := bnd hm
   obtain ⟨l9, hl9, hm⟩ := hm
   have f8 := fun (W : World) (h : (Sta.mk w0 M H R φ).ok W) => cl_cutHi (enc := GEntry.enc) (sz := 3) (fun _ => rfl) hl9 (f6 W h)
   refine g_v rfl (r_lcutHi Try.underlying24 Try.sizeOf35 rfl (cutLo_len hcp0_0 hl7) rfl hl9) ?_
   replace hm := bnd hm
   obtain ⟨x10, hx11, hm⟩ := hm
   refine g_cn ⟨w0, M, _, _, φ⟩ (fun _ h => h) Try.call77 rfl rfl (c_slices_Clone_77 l9 (if cp0_0 = (w64 ((w64 ((max p1 (w64 (p0.fBase + 1))) - p0.fBase)) - 1)).toNat then Ap0_0 else Ap0_0.map (·.add ((w64 ((w64 ((max p1 (w64 (p0.fBase + 1))) - p0.fBase)) - 1)).toNat * 3))) (cp0_0 - (w64 ((w64 ((max p1 (w64 (p0.fBase + 1))) - p0.fBase)) - 1)).toNat) (cutHi_len (cutLo_len hcp0_0 hl7) hl9) (fun W hS => f8 W (ok_pre (H1 := [_]) (R1 := []) hS (fun W h => h))) _ hx11) (fun ⟨A12, c13⟩ hc13 => ?_)
   refine g_sta _ (fun W h => ok_frontR (t := 2000) (t' := 100350) h rfl) ?_
   refine g_v rfl r_assign ?_
   refine g_nil ?_
   refine d_then ?_
   refine c_ret ?_
   replace hm := Option.some.inj hm
   subst hm
   refine d_sta _ (fun W h => ok_frontR (t := 100350) (t' := 2000) h rfl) ?_
   refine d_retC (A12, c13) Try.results35 ?_ hc13 (fun W h => (h.dropH (t := 100030) rfl).phi (fun W hφ => hφ)) (.inr rfl)
   refine res_tmp ?_
   refine res_nil ?_
   exact rfl
 ·
  replace hm := ite_t hm (of_decide_eq_true h4)
  refine g_no rfl rfl rfl rfl rfl h4 ?_
  refine g_v rfl (r_pick1 rfl h4) ?_
  refine g_nil ?_
  refine d_then ?_
  refine c_flat [(1, .int .i64 (max p1 (w64 (p0.fBase + 1)))), (2, .int .i64 p2), (3, .pointer (some ⟨g1, 0, none⟩)), (20, .bool true)] ⟨rfl, rfl, rfl, rfl, trivial⟩ (fun u => ?_)
  refine c_sta ⟨w0, M, (100030, g1, .cells #[.int .i64 p0.fBase, .int .i64 p0.fBaseTerm, .slice Ap0_0 p0.fEntries.length cp0_0] 26 (0, 0)) :: H, R, φ⟩ (fun _ h => h) ?_
  refine c_cond1 rfl rfl ?_
  refine c_seq ?_
  refine c_region ?_
  refine g_v rfl r_assign ?_
  refine g_nil ?_
  refine d_then ?_
  refine c_ret ?_
  refine d_ret_then ?_
  replace hm := Option.some.inj hm
  subst hm
  refine d_sta _ (fun W h => nilR h 2 35 3) ?_
  refine d_sta _ (fun W h => ok_frontR (t := 2) (t' := 2000) h rfl) ?_
  refine d_retC (none, 0) Try.results35 ?_ (Nat.le_refl 0) (fun W h => (h.dropH (t := 100030) rfl).phi (fun W hφ => hφ)) (.inr rfl)
  refine res_tmp ?_
  refine res_nil ?_
  exact rfl

theorem lit3_12 (z0 : Int) (z1 : Int) : Try.prog.builtSlice 3 2 [(0, .int .i64 z0), (1, .int .i64 z1)] = some #[.int .i64 z0, .int .i64 z1] := by kernel_rfl
noncomputable def m_law11_awake  : Option Bool :=
  (m_law11_example).bind fun x1 =>
  (m_plog_Term x1 2).bind fun (z11 : Int × Bool) =>
  (m_plog_Term x1 4).bind fun (z15 : Int × Bool) =>
  (m_plog_Term x1 5).bind fun (z19 : Int × Bool) =>
  (m_plog_Put x1 3 ([(⟨3, 0, (⟨#[]⟩ : ByteArray)⟩ : GEntry)])).bind fun (z30 : GLog × Int) =>
  (m_plog_Put x1 3 ([(⟨2, 0, (⟨#[]⟩ : ByteArray)⟩ : GEntry), (⟨2, 0, (⟨#[]⟩ : ByteArray)⟩ : GEntry)])).bind fun (z42 : GLog × Int) =>
  (m_plog_Last x1).bind fun x44 =>
  if x44 = 4 then
    if z11.1 = 1 then
      if z11.2 = true then
        if z15.1 = 2 then
          if z15.2 = true then
            if z19.2 = true then
              some false
            else
              if z30.2 = 4 then
                if (z30.1.fEntries.length : Int) = 2 then
                  if z42.2 = 5 then
                    if (z42.1.fEntries.length : Int) = 3 then
                      (m_plog_Newer x1 4 2).bind fun x56 =>
                      if x56 = true then
                        (m_plog_Newer x1 3 2).bind fun x59 =>
                        if x59 = true then
                          some false
                        else
                          (m_plog_Newer x1 1 3).bind fun x62 =>
                          if x62 = true then
                            (m_plog_Data [1, 5]).bind fun x66 =>
                            some (decide (x66 = (⟨#[1, 5]⟩ : ByteArray)))
                          else
                            some false
                      else
                        some false
                    else
                      some false
                  else
                    some false
                else
                  some false
              else
                some false
          else
            some false
        else
          some false
      else
        some false
    else
      some false
  else
    some false
theorem c_law11_awake {w0 : World} {M : Nat → Prop} {H : List (Nat × Nat × Obj)} {R : List (Nat × Row)} {φ : World → Prop}  (r : Bool) (hm : m_law11_awake = some r) :
    Cn Try.prog 15 #[] ⟨w0, M, H, R, φ⟩ (fun x : Unit => .bool r) (fun x => True) (fun x => ⟨w0, M, H, R, φ⟩) := by
 unfold m_law11_awake at hm
 refine cn_intro (fn := Try.f15) (N := 102) Try.func15 rfl Try.ntmps15 rfl ?_
 refine c_seq ?_
 refine c_region ?_
 refine g_v rfl r_assign ?_
 refine g_nil ?_
 refine d_then ?_
 refine c_seq ?_
 refine c_region ?_
 replace hm := bnd hm
 obtain ⟨x1, hx2, hm⟩ := hm
 refine g_cn ⟨w0, M, _, _, φ⟩ (fun _ h => h) Try.call70 rfl rfl (c_law11_example  _ hx2) (fun ⟨A3, c4⟩ hc4 => ?_)
 refine g_abs (fun φ6 q6' => ?_)
 have q6 : ∀ W, φ6 W → φ W := fun W h => (q6' W h).1
 have f5 := fun (W : World) (h : φ6 W) => (q6' W h).2
 refine g_e rfl (e_alloc 100010 Try.zeroValue26) (fun g7 _ => ?_)
 refine g_storeL (tag := 100010) rfl rfl rfl rfl Try.sizeOf26 rfl rfl ?_
 refine g_nil ?_
 refine d_then ?_
 refine c_seq ?_
 refine c_region ?_
 refine g_v rfl (r_loadA (tag := 100010) rfl rfl Try.isAgg26 Try.sizeOf26 rfl rfl) ?_
 replace hm := bnd hm
 obtain ⟨⟨x8, x9⟩, hx10, hm⟩ := hm
 refine g_cn ⟨w0, M, _, _, φ6⟩ (fun _ h => h) Try.call31 rfl rfl (c_plog_Term x1 A3 c4 hc4 (fun W hS => f5 W hS.now) 2 _ hx10) (fun _ _ => ?_)
 refine g_v rfl r_move ?_
 refine g_v rfl (r_extract rfl rfl) ?_
 refine g_v rfl (r_extract rfl rfl) ?_
 refine g_v rfl r_assign ?_
 refine g_v rfl r_assign ?_
 refine g_nil ?_
 refine d_then ?_
 refine c_flat [(1, .pointer (some ⟨g7, 0, none⟩)), (2, .int .i64 x8), (3, .bool x9)] ⟨rfl, rfl, rfl, trivial⟩ (fun u => ?_)
 refine c_sta ⟨w0, M, (100010, g7, .cells #[.int .i64 x1.fBase, .int .i64 x1.fBaseTerm, .slice A3 x1.fEntries.length c4] 26 (0, 0)) :: H, R, φ6⟩ (fun _ h => h) ?_
 refine c_seq ?_
 refine c_region ?_
 refine g_v rfl (r_loadA (tag := 100010) rfl rfl Try.isAgg26 Try.sizeOf26 rfl rfl) ?_
 replace hm := bnd hm
 obtain ⟨⟨x12, x13⟩, hx14, hm⟩ := hm
 refine g_cn ⟨w0, M, _, _, φ6⟩ (fun _ h => h) Try.call31 rfl rfl (c_plog_Term x1 A3 c4 hc4 (fun W hS => f5 W hS.now) 4 _ hx14) (fun _ _ => ?_)
 refine g_v rfl r_move ?_
 refine g_v rfl (r_extract rfl rfl) ?_
 refine g_v rfl (r_extract rfl rfl) ?_
 refine g_v rfl r_assign ?_
 refine g_v rfl r_assign ?_
 refine g_nil ?_
 refine d_then ?_
 refine c_seq ?_
 refine c_region ?_
 refine g_v rfl (r_loadA (tag := 100010) rfl rfl Try.isAgg26 Try.sizeOf26 rfl rfl) ?_
 replace hm := bnd hm
 obtain ⟨⟨x16, x17⟩, hx18, hm⟩ := hm
 refine g_cn ⟨w0, M, _, _, φ6⟩ (fun _ h => h) Try.call31 rfl rfl (c_plog_Term x1 A3 c4 hc4 (fun W hS => f5 W hS.now) 5 _ hx18) (fun _ _ => ?_)
 refine g_v rfl r_move ?_
 refine g_v rfl (r_extract rfl rfl) ?_
 refine g_v rfl (r_extract rfl rfl) ?_
 refine g_v rfl r_assign ?_
 refine g_v rfl r_assign ?_
 refine g_nil ?_
 refine d_then ?_
 refine c_flat [(1, .pointer (some ⟨g7, 0, none⟩)), (2, .int .i64 x8), (3, .bool x9), (4, .int .i64 x12), (5, .bool x13), (7, .bool x17)] ⟨rfl, rfl, rfl, rfl, rfl, rfl, trivial⟩ (fun u => ?_)
 refine c_sta ⟨w0, M, (100010, g7, .cells #[.int .i64 x1.fBase, .int .i64 x1.fBaseTerm, .slice A3 x1.fEntries.length c4] 26 (0, 0)) :: H, R, φ6⟩ (fun _ h => h) ?_
 refine c_seq ?_
 refine c_region ?_
 refine g_v rfl (r_loadA (tag := 100010) rfl rfl Try.isAgg26 Try.sizeOf26 rfl rfl) ?_
 refine g_v rfl (r_build _ rfl (bld35_5 _)) ?_
 refine g_e rfl (e_lit (tag := 100310) (l := [(⟨3, 0, (⟨#[]⟩ : ByteArray)⟩ : GEntry)]) (enc := GEntry.enc) (sz := 3) rfl Try.underlying24 (lit35_8 _ _ _) rfl rfl (fun _ => rfl)) (fun g20 _ => ?_)
 refine g_shut (tag := 100310) rfl (fun φ21 q21' => ?_)
 have q21 : ∀ W, φ21 W → φ6 W := fun W h => (q21' W h).1
 have f22 := fun (W : World) (h : φ21 W) => (q21' W h).2
 replace hm := bnd hm
 obtain ⟨⟨x23, x24⟩, hx25, hm⟩ := hm
 refine g_cn ⟨w0, M, _, _, φ21⟩ (fun _ h => h) Try.call20 rfl rfl (c_plog_Put x1 A3 c4 hc4 (fun W h => f5 W (q21 _ h)) 3 ([(⟨3, 0, (⟨#[]⟩ : ByteArray)⟩ : GEntry)]) (some ⟨g20, 0, none⟩) 1 (Nat.le_refl _) (fun W h => f22 W h) _ hx25) (fun ⟨A26, c27⟩ hc27 => ?_)
 refine g_abs (fun φ29 q29' => ?_)
 have q29 : ∀ W, φ29 W → φ21 W := fun W h => (q29' W h).1
 have f28 := fun (W : World) (h : φ29 W) => (q29' W h).2
 refine g_v rfl r_move ?_
 refine g_v rfl (r_extract rfl rfl) ?_
 refine g_v rfl (r_extract rfl rfl) ?_
 refine g_e rfl (e_alloc 100080 Try.zeroValue26) (fun g31 _ => ?_)
 refine g_storeL (tag := 100080) rfl rfl rfl rfl Try.sizeOf26 rfl rfl ?_
 refine g_v rfl r_assign ?_
 refine g_nil ?_
 refine d_then ?_
 refine c_flat [(1, .pointer (some ⟨g7, 0, none⟩)), (2, .int .i64 x8), (3, .bool x9), (4, .int .i64 x12), (5, .bool x13), (7, .bool x17), (8, .pointer (some ⟨g31, 0, none⟩)), (9, .int .i64 x24)] ⟨rfl, rfl, rfl, rfl, rfl, rfl, rfl, rfl, trivial⟩ (fun u => ?_)
 refine c_sta ⟨w0, M, (100080, g31, .cells #[.int .i64 x23.fBase, .int .i64 x23.fBaseTerm, .slice A26 x23.fEntries.length c27] 26 (0, 0)) :: (100010, g7, .cells #[.int .i64 x1.fBase, .int .i64 x1.fBaseTerm, .slice A3 x1.fEntries.length c4] 26 (0, 0)) :: H, R, φ29⟩ (fun _ h => h) ?_
 refine c_seq ?_
 refine c_region ?_
 refine g_v rfl (r_loadA (tag := 100010) rfl rfl Try.isAgg26 Try.sizeOf26 rfl rfl) ?_
 refine g_v rfl (r_build _ rfl (bld35_5 _)) ?_
 refine g_v rfl (r_build _ rfl (bld35_5 _)) ?_
 refine g_e rfl (e_lit (tag := 100390) (l := [(⟨2, 0, (⟨#[]⟩ : ByteArray)⟩ : GEntry), (⟨2, 0, (⟨#[]⟩ : ByteArray)⟩ : GEntry)]) (enc := GEntry.enc) (sz := 3) rfl Try.underlying24 (lit35_6 _ _ _ _ _ _) rfl rfl (fun _ => rfl)) (fun g32 _ => ?_)
 refine g_shut (tag := 100390) rfl (fun φ33 q33' => ?_)
 have q33 : ∀ W, φ33 W → φ29 W := fun W h => (q33' W h).1
 have f34 := fun (W : World) (h : φ33 W) => (q33' W h).2
 replace hm := bnd hm
 obtain ⟨⟨x35, x36⟩, hx37, hm⟩ := hm
 refine g_cn ⟨w0, M, _, _, φ33⟩ (fun _ h => h) Try.call20 rfl rfl (c_plog_Put x1 A3 c4 hc4 (fun W h => f5 W (q21 _ (q29 _ (q33 _ h)))) 3 ([(⟨2, 0, (⟨#[]⟩ : ByteArray)⟩ : GEntry), (⟨2, 0, (⟨#[]⟩ : ByteArray)⟩ : GEntry)]) (some ⟨g32, 0, none⟩) 2 (Nat.le_refl _) (fun W h => f34 W h) _ hx37) (fun ⟨A38, c39⟩ hc39 => ?_)
 refine g_abs (fun φ41 q41' => ?_)
 have q41 : ∀ W, φ41 W → φ33 W := fun W h => (q41' W h).1
 have f40 := fun (W : World) (h : φ41 W) => (q41' W h).2
 refine g_v rfl r_move ?_
 refine g_v rfl (r_extract rfl rfl) ?_
 refine g_v rfl (r_extract rfl rfl) ?_
 refine g_e rfl (e_alloc 100100 Try.zeroValue26) (fun g43 _ => ?_)
 refine g_storeL (tag := 100100) rfl rfl rfl rfl Try.sizeOf26 rfl rfl ?_
 refine g_v rfl r_assign ?_
 refine g_nil ?_
 refine d_then ?_
 refine c_flat [(1, .pointer (some ⟨g7, 0, none⟩)), (2, .int .i64 x8), (3, .bool x9), (4, .int .i64 x12), (5, .bool x13), (7, .bool x17), (8, .pointer (some ⟨g31, 0, none⟩)), (9, .int .i64 x24), (10, .pointer (some ⟨g43, 0, none⟩)), (11, .int .i64 x36)] ⟨rfl, rfl, rfl, rfl, rfl, rfl, rfl, rfl, rfl, rfl, trivial⟩ (fun u => ?_)
 refine c_sta ⟨w0, M, (100100, g43, .cells #[.int .i64 x35.fBase, .int .i64 x35.fBaseTerm, .slice A38 x35.fEntries.length c39] 26 (0, 0)) :: (100080, g31, .cells #[.int .i64 x23.fBase, .int .i64 x23.fBaseTerm, .slice A26 x23.fEntries.length c27] 26 (0, 0)) :: (100010, g7, .cells #[.int .i64 x1.fBase, .int .i64 x1.fBaseTerm, .slice A3 x1.fEntries.length c4] 26 (0, 0)) :: H, R, φ41⟩ (fun _ h => h) ?_
 refine c_seq ?_
 refine c_region ?_
 refine g_v rfl (r_loadA (tag := 100010) rfl rfl Try.isAgg26 Try.sizeOf26 rfl rfl) ?_
 replace hm := bnd hm
 obtain ⟨x44, hx45, hm⟩ := hm
 refine g_cn ⟨w0, M, _, _, φ41⟩ (fun _ h => h) Try.call38 rfl rfl (c_plog_Last x1 A3 c4 hc4 (fun W hS => f5 W (q21 _ (q29 _ (q33 _ (q41 _ hS.now))))) _ hx45) (fun _ _ => ?_)
 refine g_v rfl (r_eql rfl rfl) ?_
 refine g_v rfl r_move ?_
 refine g_if rfl rfl rfl rfl rfl (fun h46 => ?_) (fun h46 => ?_)
 ·
  replace hm := ite_t hm (of_decide_eq_true h46)
  refine g_v rfl r_move ?_
  refine g_do rfl rfl rfl rfl rfl h46 ?_
  refine g_v rfl (r_eql rfl rfl) ?_
  refine g_v rfl (r_pick1 rfl h46) ?_
  refine g_v rfl r_move ?_
  refine g_if rfl rfl rfl rfl rfl (fun h47 => ?_) (fun h47 => ?_)
  ·
   replace hm := ite_t hm (of_decide_eq_true h47)
   refine g_v rfl r_move ?_
   refine g_v rfl (r_pick1 rfl h47) ?_
   refine g_v rfl r_move ?_
   refine g_if rfl rfl rfl rfl rfl (fun h48 => ?_) (fun h48 => ?_)
   ·
    replace hm := ite_t hm h48
    refine g_v rfl r_move ?_
    refine g_do rfl rfl rfl rfl rfl h48 ?_
    refine g_v rfl (r_eql rfl rfl) ?_
    refine g_v rfl (r_pick1 rfl h48) ?_
    refine g_v rfl r_move ?_
    refine g_if rfl rfl rfl rfl rfl (fun h49 => ?_) (fun h49 => ?_)
    ·
     replace hm := ite_t hm (of_decide_eq_true h49)
     refine g_v rfl r_move ?_
     refine g_v rfl (r_pick1 rfl h49) ?_
     refine g_v rfl r_move ?_
     refine g_if rfl rfl rfl rfl rfl (fun h50 => ?_) (fun h50 => ?_)
     ·
      replace hm := ite_t hm h50
      refine g_v rfl r_move ?_
      refine g_do rfl rfl rfl rfl rfl h50 ?_
      refine g_v rfl (r_not rfl) ?_
      refine g_v rfl (r_pick1 rfl h50) ?_
      refine g_v rfl r_move ?_
      refine g_if rfl rfl rfl rfl rfl (fun h51 => ?_) (fun h51 => ?_)
      ·
       have h51' : x17 = false := by revert h51; cases x17 <;> simp
       replace hm := ite_f hm (bool_nt h51')
       refine g_v rfl r_move ?_
       refine g_do rfl rfl rfl rfl rfl h51 ?_
       refine g_v rfl (r_eql rfl rfl) ?_
       refine g_v rfl (r_pick1 rfl h51) ?_
       refine g_v rfl r_move ?_
       refine g_if rfl rfl rfl rfl rfl (fun h52 => ?_) (fun h52 => ?_)
       ·
        replace hm := ite_t hm (of_decide_eq_true h52)
        refine g_v rfl (r_field (n := 2) Try.underlying26 rfl Try.sizeOf24 rfl rfl) ?_
        refine g_do rfl rfl rfl rfl rfl h52 ?_
        refine g_v rfl (r_load (tag := 100080) rfl rfl rfl Try.isAgg24) ?_
        refine g_do rfl rfl rfl rfl rfl h52 ?_
        refine g_v rfl (r_lenL Try.underlying24 rfl) ?_
        refine g_do rfl rfl rfl rfl rfl h52 ?_
        refine g_v rfl (r_eql rfl rfl) ?_
        refine g_v rfl (r_pick1 rfl h52) ?_
        refine g_v rfl r_move ?_
        refine g_if rfl rfl rfl rfl rfl (fun h53 => ?_) (fun h53 => ?_)
        ·
         replace hm := ite_t hm (of_decide_eq_true h53)
         refine g_v rfl r_move ?_
         refine g_do rfl rfl rfl rfl rfl h53 ?_
         refine g_v rfl (r_eql rfl rfl) ?_
         refine g_v rfl (r_pick1 rfl h53) ?_
         refine g_v rfl r_move ?_
         refine g_if rfl rfl rfl rfl rfl (fun h54 => ?_) (fun h54 => ?_)
         ·
          replace hm := ite_t hm (of_decide_eq_true h54)
          refine g_v rfl (r_field (n := 2) Try.underlying26 rfl Try.sizeOf24 rfl rfl) ?_
          refine g_do rfl rfl rfl rfl rfl h54 ?_
          refine g_v rfl (r_load (tag := 100100) rfl rfl rfl Try.isAgg24) ?_
          refine g_do rfl rfl rfl rfl rfl h54 ?_
          refine g_v rfl (r_lenL Try.underlying24 rfl) ?_
          refine g_do rfl rfl rfl rfl rfl h54 ?_
          refine g_v rfl (r_eql rfl rfl) ?_
          refine g_v rfl (r_pick1 rfl h54) ?_
          refine g_v rfl r_move ?_
          refine g_if rfl rfl rfl rfl rfl (fun h55 => ?_) (fun h55 => ?_)
          ·
           replace hm := ite_t hm (of_decide_eq_true h55)
           refine g_v rfl (r_loadA (tag := 100010) rfl rfl Try.isAgg26 Try.sizeOf26 rfl rfl) ?_
           refine g_do rfl rfl rfl rfl rfl h55 ?_
           replace hm := bnd hm
           obtain ⟨x56, hx57, hm⟩ := hm
           refine g_cn ⟨w0, M, _, _, φ41⟩ (fun _ h => h) Try.call16 rfl rfl (c_plog_Newer x1 A3 c4 hc4 (fun W hS => f5 W (q21 _ (q29 _ (q33 _ (q41 _ hS.now))))) 4 2 _ hx57) (fun _ _ => ?_)
           refine g_v rfl (r_pick1 rfl h55) ?_
           refine g_v rfl r_move ?_
           refine g_if rfl rfl rfl rfl rfl (fun h58 => ?_) (fun h58 => ?_)
           ·
            replace hm := ite_t hm h58
            refine g_v rfl (r_loadA (tag := 100010) rfl rfl Try.isAgg26 Try.sizeOf26 rfl rfl) ?_
            refine g_do rfl rfl rfl rfl rfl h58 ?_
            replace hm := bnd hm
            obtain ⟨x59, hx60, hm⟩ := hm
            refine g_cn ⟨w0, M, _, _, φ41⟩ (fun _ h => h) Try.call16 rfl rfl (c_plog_Newer x1 A3 c4 hc4 (fun W hS => f5 W (q21 _ (q29 _ (q33 _ (q41 _ hS.now))))) 3 2 _ hx60) (fun _ _ => ?_)
            refine g_do rfl rfl rfl rfl rfl h58 ?_
            refine g_v rfl (r_not rfl) ?_
            refine g_v rfl (r_pick1 rfl h58) ?_
            refine g_v rfl r_move ?_
            refine g_if rfl rfl rfl rfl rfl (fun h61 => ?_) (fun h61 => ?_)
            ·
             have h61' : x59 = false := by revert h61; cases x59 <;> simp
             replace hm := ite_f hm (bool_nt h61')
             refine g_v rfl (r_loadA (tag := 100010) rfl rfl Try.isAgg26 Try.sizeOf26 rfl rfl) ?_
             refine g_do rfl rfl rfl rfl rfl h61 ?_
             replace hm := bnd hm
             obtain ⟨x62, hx63, hm⟩ := hm
             refine g_cn ⟨w0, M, _, _, φ41⟩ (fun _ h => h) Try.call16 rfl rfl (c_plog_Newer x1 A3 c4 hc4 (fun W hS => f5 W (q21 _ (q29 _ (q33 _ (q41 _ hS.now))))) 1 3 _ hx63) (fun _ _ => ?_)
             refine g_v rfl (r_pick1 rfl h61) ?_
             refine g_v rfl r_move ?_
             refine g_if rfl rfl rfl rfl rfl (fun h64 => ?_) (fun h64 => ?_)
             ·
              replace hm := ite_t hm h64
              refine g_e rfl (e_lit (tag := 100980) (l := [1, 5]) (enc := (fun x : Int => [Value.int .i64 x])) (sz := 1) rfl Try.underlying42 (lit3_12 _ _) rfl rfl (fun _ => rfl)) (fun g65 _ => ?_)
              refine g_do rfl rfl rfl rfl rfl h64 ?_
              replace hm := bnd hm
              obtain ⟨x66, hx67, hm⟩ := hm
              refine g_cn ⟨w0, M, _, _, φ41⟩ (fun _ h => h) Try.call28 rfl rfl (c_plog_Data [1, 5] (some ⟨g65, 0, none⟩) 2 (Nat.le_refl _) (fun W hS => rowCl (tag := 100980) rfl W hS) _ hx67) (fun _ _ => ?_)
              refine g_do rfl rfl rfl rfl rfl h64 ?_
              refine g_v rfl (r_eqlT rfl rfl) ?_
              refine g_v rfl (r_pick1 rfl h64) ?_
              refine g_v rfl r_assign ?_
              refine g_nil ?_
              refine d_then ?_
              refine c_flat [(0, .bool (decide (x66 = (⟨#[1, 5]⟩ : ByteArray))))] ⟨rfl, trivial⟩ (fun u => ?_)
              refine c_sta ⟨w0, M, (100100, g43, .cells #[.int .i64 x35.fBase, .int .i64 x35.fBaseTerm, .slice A38 x35.fEntries.length c39] 26 (0, 0)) :: (100080, g31, .cells #[.int .i64 x23.fBase, .int .i64 x23.fBaseTerm, .slice A26 x23.fEntries.length c27] 26 (0, 0)) :: (100010, g7, .cells #[.int .i64 x1.fBase, .int .i64 x1.fBaseTerm, .slice A3 x1.fEntries.length c4] 26 (0, 0)) :: H, (100980, ⟨.slice (some ⟨g65, 0, none⟩) [1, 5].length 2, 3, 1, [1, 5].length, [1, 5].flatMap (fun x : Int => [Value.int .i64 x])⟩) :: R, φ41⟩ (fun _ h => h) ?_
              refine c_ret ?_
              replace hm := Option.some.inj hm
              subst hm
              refine d_retC () Try.results15 ?_ trivial (fun W h => ok_pre (H1 := [_, _, _]) (R1 := [_]) h (fun W hφ => (q6 _ (q21 _ (q29 _ (q33 _ (q41 _ hφ))))))) (.inr rfl)
              refine res_tmp ?_
              refine res_nil ?_
              exact rfl
             ·
              replace hm := ite_f hm (bool_nt h64)
              refine g_no rfl rfl rfl rfl rfl h64 ?_
              refine g_no rfl rfl rfl rfl rfl h64 ?_
              refine g_v rfl (r_pick0 rfl h64) ?_
              refine g_v rfl r_assign ?_
              refine g_nil ?_
              refine d_then ?_
              refine c_flat [(0, .bool false)] ⟨rfl, trivial⟩ (fun u => ?_)
              refine c_sta ⟨w0, M, (100100, g43, .cells #[.int .i64 x35.fBase, .int .i64 x35.fBaseTerm, .slice A38 x35.fEntries.length c39] 26 (0, 0)) :: (100080, g31, .cells #[.int .i64 x23.fBase, .int .i64 x23.fBaseTerm, .slice A26 x23.fEntries.length c27] 26 (0, 0)) :: (100010, g7, .cells #[.int .i64 x1.fBase, .int .i64 x1.fBaseTerm, .slice A3 x1.fEntries.length c4] 26 (0, 0)) :: H, R, φ41⟩ (fun _ h => h) ?_
              refine c_ret ?_
              replace hm := Option.some.inj hm
              subst hm
              refine d_retC () Try.results15 ?_ trivial (fun W h => ok_pre (H1 := [_, _, _]) (R1 := []) h (fun W hφ => (q6 _ (q21 _ (q29 _ (q33 _ (q41 _ hφ))))))) (.inr rfl)
              refine res_tmp ?_
              refine res_nil ?_
              exact rfl
            ·
             have h61' : x59 = true := by revert h61; cases x59 <;> simp
             replace hm := ite_t hm h61'
             refine g_no rfl rfl rfl rfl rfl h61 ?_
             refine g_v rfl (r_pick0 rfl h61) ?_
             refine g_v rfl r_move ?_
             refine g_no rfl rfl rfl rfl rfl rfl ?_
             refine g_no rfl rfl rfl rfl rfl rfl ?_
             refine g_no rfl rfl rfl rfl rfl rfl ?_
             refine g_v rfl (r_pick0 rfl rfl) ?_
             refine g_v rfl r_assign ?_
             refine g_nil ?_
             refine d_then ?_
             refine c_flat [(0, .bool false)] ⟨rfl, trivial⟩ (fun u => ?_)
             refine c_sta ⟨w0, M, (100100, g43, .cells #[.int .i64 x35.fBase, .int .i64 x35.fBaseTerm, .slice A38 x35.fEntries.length c39] 26 (0, 0)) :: (100080, g31, .cells #[.int .i64 x23.fBase, .int .i64 x23.fBaseTerm, .slice A26 x23.fEntries.length c27] 26 (0, 0)) :: (100010, g7, .cells #[.int .i64 x1.fBase, .int .i64 x1.fBaseTerm, .slice A3 x1.fEntries.length c4] 26 (0, 0)) :: H, R, φ41⟩ (fun _ h => h) ?_
             refine c_ret ?_
             replace hm := Option.some.inj hm
             subst hm
             refine d_retC () Try.results15 ?_ trivial (fun W h => ok_pre (H1 := [_, _, _]) (R1 := []) h (fun W hφ => (q6 _ (q21 _ (q29 _ (q33 _ (q41 _ hφ))))))) (.inr rfl)
             refine res_tmp ?_
             refine res_nil ?_
             exact rfl
           ·
            replace hm := ite_f hm (bool_nt h58)
            refine g_no rfl rfl rfl rfl rfl h58 ?_
            refine g_no rfl rfl rfl rfl rfl h58 ?_
            refine g_v rfl (r_pick0 rfl h58) ?_
            refine g_v rfl r_move ?_
            refine g_no rfl rfl rfl rfl rfl rfl ?_
            refine g_no rfl rfl rfl rfl rfl rfl ?_
            refine g_v rfl (r_pick0 rfl rfl) ?_
            refine g_v rfl r_move ?_
            refine g_no rfl rfl rfl rfl rfl rfl ?_
            refine g_no rfl rfl rfl rfl rfl rfl ?_
            refine g_no rfl rfl rfl rfl rfl rfl ?_
            refine g_v rfl (r_pick0 rfl rfl) ?_
            refine g_v rfl r_assign ?_
            refine g_nil ?_
            refine d_then ?_
            refine c_flat [(0, .bool false)] ⟨rfl, trivial⟩ (fun u => ?_)
            refine c_sta ⟨w0, M, (100100, g43, .cells #[.int .i64 x35.fBase, .int .i64 x35.fBaseTerm, .slice A38 x35.fEntries.length c39] 26 (0, 0)) :: (100080, g31, .cells #[.int .i64 x23.fBase, .int .i64 x23.fBaseTerm, .slice A26 x23.fEntries.length c27] 26 (0, 0)) :: (100010, g7, .cells #[.int .i64 x1.fBase, .int .i64 x1.fBaseTerm, .slice A3 x1.fEntries.length c4] 26 (0, 0)) :: H, R, φ41⟩ (fun _ h => h) ?_
            refine c_ret ?_
            replace hm := Option.some.inj hm
            subst hm
            refine d_retC () Try.results15 ?_ trivial (fun W h => ok_pre (H1 := [_, _, _]) (R1 := []) h (fun W hφ => (q6 _ (q21 _ (q29 _ (q33 _ (q41 _ hφ))))))) (.inr rfl)
            refine res_tmp ?_
            refine res_nil ?_
            exact rfl
          ·
           replace hm := ite_f hm (of_decide_eq_false h55)
           refine g_no rfl rfl rfl rfl rfl h55 ?_
           refine g_v rfl (r_pick0 rfl h55) ?_
           refine g_v rfl r_move ?_
           refine g_no rfl rfl rfl rfl rfl rfl ?_
           refine g_no rfl rfl rfl rfl rfl rfl ?_
           refine g_no rfl rfl rfl rfl rfl rfl ?_
           refine g_v rfl (r_pick0 rfl rfl) ?_
           refine g_v rfl r_move ?_
           refine g_no rfl rfl rfl rfl rfl rfl ?_
           refine g_no rfl rfl rfl rfl rfl rfl ?_
           refine g_v rfl (r_pick0 rfl rfl) ?_
           refine g_v rfl r_move ?_
           refine g_no rfl rfl rfl rfl rfl rfl ?_
           refine g_no rfl rfl rfl rfl rfl rfl ?_
           refine g_no rfl rfl rfl rfl rfl rfl ?_
           refine g_v rfl (r_pick0 rfl rfl) ?_
           refine g_v rfl r_assign ?_
           refine g_nil ?_
           refine d_then ?_
           refine c_flat [(0, .bool false)] ⟨rfl, trivial⟩ (fun u => ?_)
           refine c_sta ⟨w0, M, (100100, g43, .cells #[.int .i64 x35.fBase, .int .i64 x35.fBaseTerm, .slice A38 x35.fEntries.length c39] 26 (0, 0)) :: (100080, g31, .cells #[.int .i64 x23.fBase, .int .i64 x23.fBaseTerm, .slice A26 x23.fEntries.length c27] 26 (0, 0)) :: (100010, g7, .cells #[.int .i64 x1.fBase, .int .i64 x1.fBaseTerm, .slice A3 x1.fEntries.length c4] 26 (0, 0)) :: H, R, φ41⟩ (fun _ h => h) ?_
           refine c_ret ?_
           replace hm := Option.some.inj hm
           subst hm
           refine d_retC () Try.results15 ?_ trivial (fun W h => ok_pre (H1 := [_, _, _]) (R1 := []) h (fun W hφ => (q6 _ (q21 _ (q29 _ (q33 _ (q41 _ hφ))))))) (.inr rfl)
           refine res_tmp ?_
           refine res_nil ?_
           exact rfl
         ·
          replace hm := ite_f hm (of_decide_eq_false h54)
          refine g_no rfl rfl rfl rfl rfl h54 ?_
          refine g_no rfl rfl rfl rfl rfl h54 ?_
          refine g_no rfl rfl rfl rfl rfl h54 ?_
          refine g_v rfl (r_pick0 rfl h54) ?_
          refine g_v rfl r_move ?_
          refine g_no rfl rfl rfl rfl rfl rfl ?_
          refine g_no rfl rfl rfl rfl rfl rfl ?_
          refine g_v rfl (r_pick0 rfl rfl) ?_
          refine g_v rfl r_move ?_
          refine g_no rfl rfl rfl rfl rfl rfl ?_
          refine g_no rfl rfl rfl rfl rfl rfl ?_
          refine g_no rfl rfl rfl rfl rfl rfl ?_
          refine g_v rfl (r_pick0 rfl rfl) ?_
          refine g_v rfl r_move ?_
          refine g_no rfl rfl rfl rfl rfl rfl ?_
          refine g_no rfl rfl rfl rfl rfl rfl ?_
          refine g_v rfl (r_pick0 rfl rfl) ?_
          refine g_v rfl r_move ?_
          refine g_no rfl rfl rfl rfl rfl rfl ?_
          refine g_no rfl rfl rfl rfl rfl rfl ?_
          refine g_no rfl rfl rfl rfl rfl rfl ?_
          refine g_v rfl (r_pick0 rfl rfl) ?_
          refine g_v rfl r_assign ?_
          refine g_nil ?_
          refine d_then ?_
          refine c_flat [(0, .bool false)] ⟨rfl, trivial⟩ (fun u => ?_)
          refine c_sta ⟨w0, M, (100100, g43, .cells #[.int .i64 x35.fBase, .int .i64 x35.fBaseTerm, .slice A38 x35.fEntries.length c39] 26 (0, 0)) :: (100080, g31, .cells #[.int .i64 x23.fBase, .int .i64 x23.fBaseTerm, .slice A26 x23.fEntries.length c27] 26 (0, 0)) :: (100010, g7, .cells #[.int .i64 x1.fBase, .int .i64 x1.fBaseTerm, .slice A3 x1.fEntries.length c4] 26 (0, 0)) :: H, R, φ41⟩ (fun _ h => h) ?_
          refine c_ret ?_
          replace hm := Option.some.inj hm
          subst hm
          refine d_retC () Try.results15 ?_ trivial (fun W h => ok_pre (H1 := [_, _, _]) (R1 := []) h (fun W hφ => (q6 _ (q21 _ (q29 _ (q33 _ (q41 _ hφ))))))) (.inr rfl)
          refine res_tmp ?_
          refine res_nil ?_
          exact rfl
        ·
         replace hm := ite_f hm (of_decide_eq_false h53)
         refine g_no rfl rfl rfl rfl rfl h53 ?_
         refine g_v rfl (r_pick0 rfl h53) ?_
         refine g_v rfl r_move ?_
         refine g_no rfl rfl rfl rfl rfl rfl ?_
         refine g_no rfl rfl rfl rfl rfl rfl ?_
         refine g_no rfl rfl rfl rfl rfl rfl ?_
         refine g_no rfl rfl rfl rfl rfl rfl ?_
         refine g_v rfl (r_pick0 rfl rfl) ?_
         refine g_v rfl r_move ?_
         refine g_no rfl rfl rfl rfl rfl rfl ?_
         refine g_no rfl rfl rfl rfl rfl rfl ?_
         refine g_v rfl (r_pick0 rfl rfl) ?_
         refine g_v rfl r_move ?_
         refine g_no rfl rfl rfl rfl rfl rfl ?_
         refine g_no rfl rfl rfl rfl rfl rfl ?_
         refine g_no rfl rfl rfl rfl rfl rfl ?_
         refine g_v rfl (r_pick0 rfl rfl) ?_
         refine g_v rfl r_move ?_
         refine g_no rfl rfl rfl rfl rfl rfl ?_
         refine g_no rfl rfl rfl rfl rfl rfl ?_
         refine g_v rfl (r_pick0 rfl rfl) ?_
         refine g_v rfl r_move ?_
         refine g_no rfl rfl rfl rfl rfl rfl ?_
         refine g_no rfl rfl rfl rfl rfl rfl ?_
         refine g_no rfl rfl rfl rfl rfl rfl ?_
         refine g_v rfl (r_pick0 rfl rfl) ?_
         refine g_v rfl r_assign ?_
         refine g_nil ?_
         refine d_then ?_
         refine c_flat [(0, .bool false)] ⟨rfl, trivial⟩ (fun u => ?_)
         refine c_sta ⟨w0, M, (100100, g43, .cells #[.int .i64 x35.fBase, .int .i64 x35.fBaseTerm, .slice A38 x35.fEntries.length c39] 26 (0, 0)) :: (100080, g31, .cells #[.int .i64 x23.fBase, .int .i64 x23.fBaseTerm, .slice A26 x23.fEntries.length c27] 26 (0, 0)) :: (100010, g7, .cells #[.int .i64 x1.fBase, .int .i64 x1.fBaseTerm, .slice A3 x1.fEntries.length c4] 26 (0, 0)) :: H, R, φ41⟩ (fun _ h => h) ?_
         refine c_ret ?_
         replace hm := Option.some.inj hm
         subst hm
         refine d_retC () Try.results15 ?_ trivial (fun W h => ok_pre (H1 := [_, _, _]) (R1 := []) h (fun W hφ => (q6 _ (q21 _ (q29 _ (q33 _ (q41 _ hφ))))))) (.inr rfl)
         refine res_tmp ?_
         refine res_nil ?_
         exact rfl
       ·
        replace hm := ite_f hm (of_decide_eq_false h52)
        refine g_no rfl rfl rfl rfl rfl h52 ?_
        refine g_no rfl rfl rfl rfl rfl h52 ?_
        refine g_no rfl rfl rfl rfl rfl h52 ?_
        refine g_v rfl (r_pick0 rfl h52) ?_
        refine g_v rfl r_move ?_
        refine g_no rfl rfl rfl rfl rfl rfl ?_
        refine g_no rfl rfl rfl rfl rfl rfl ?_
        refine g_v rfl (r_pick0 rfl rfl) ?_
        refine g_v rfl r_move ?_
        refine g_no rfl rfl rfl rfl rfl rfl ?_
        refine g_no rfl rfl rfl rfl rfl rfl ?_
        refine g_no rfl rfl rfl rfl rfl rfl ?_
        refine g_no rfl rfl rfl rfl rfl rfl ?_
        refine g_v rfl (r_pick0 rfl rfl) ?_
        refine g_v rfl r_move ?_
        refine g_no rfl rfl rfl rfl rfl rfl ?_
        refine g_no rfl rfl rfl rfl rfl rfl ?_
        refine g_v rfl (r_pick0 rfl rfl) ?_
        refine g_v rfl r_move ?_
        refine g_no rfl rfl rfl rfl rfl rfl ?_
        refine g_no rfl rfl rfl rfl rfl rfl ?_
        refine g_no rfl rfl rfl rfl rfl rfl ?_
        refine g_v rfl (r_pick0 rfl rfl) ?_
        refine g_v rfl r_move ?_
        refine g_no rfl rfl rfl rfl rfl rfl ?_
        refine g_no rfl rfl rfl rfl rfl rfl ?_
        refine g_v rfl (r_pick0 rfl rfl) ?_
        refine g_v rfl r_move ?_
        refine g_no rfl rfl rfl rfl rfl rfl ?_
        refine g_no rfl rfl rfl rfl rfl rfl ?_
        refine g_no rfl rfl rfl rfl rfl rfl ?_
        refine g_v rfl (r_pick0 rfl rfl) ?_
        refine g_v rfl r_assign ?_
        refine g_nil ?_
        refine d_then ?_
        refine c_flat [(0, .bool false)] ⟨rfl, trivial⟩ (fun u => ?_)
        refine c_sta ⟨w0, M, (100100, g43, .cells #[.int .i64 x35.fBase, .int .i64 x35.fBaseTerm, .slice A38 x35.fEntries.length c39] 26 (0, 0)) :: (100080, g31, .cells #[.int .i64 x23.fBase, .int .i64 x23.fBaseTerm, .slice A26 x23.fEntries.length c27] 26 (0, 0)) :: (100010, g7, .cells #[.int .i64 x1.fBase, .int .i64 x1.fBaseTerm, .slice A3 x1.fEntries.length c4] 26 (0, 0)) :: H, R, φ41⟩ (fun _ h => h) ?_
        refine c_ret ?_
        replace hm := Option.some.inj hm
        subst hm
        refine d_retC () Try.results15 ?_ trivial (fun W h => ok_pre (H1 := [_, _, _]) (R1 := []) h (fun W hφ => (q6 _ (q21 _ (q29 _ (q33 _ (q41 _ hφ))))))) (.inr rfl)
        refine res_tmp ?_
        refine res_nil ?_
        exact rfl
      ·
       have h51' : x17 = true := by revert h51; cases x17 <;> simp
       replace hm := ite_t hm h51'
       refine g_no rfl rfl rfl rfl rfl h51 ?_
       refine g_v rfl (r_pick0 rfl h51) ?_
       refine g_v rfl r_move ?_
       refine g_no rfl rfl rfl rfl rfl rfl ?_
       refine g_no rfl rfl rfl rfl rfl rfl ?_
       refine g_no rfl rfl rfl rfl rfl rfl ?_
       refine g_no rfl rfl rfl rfl rfl rfl ?_
       refine g_v rfl (r_pick0 rfl rfl) ?_
       refine g_v rfl r_move ?_
       refine g_no rfl rfl rfl rfl rfl rfl ?_
       refine g_no rfl rfl rfl rfl rfl rfl ?_
       refine g_v rfl (r_pick0 rfl rfl) ?_
       refine g_v rfl r_move ?_
       refine g_no rfl rfl rfl rfl rfl rfl ?_
       refine g_no rfl rfl rfl rfl rfl rfl ?_
       refine g_no rfl rfl rfl rfl rfl rfl ?_
       refine g_no rfl rfl rfl rfl rfl rfl ?_
       refine g_v rfl (r_pick0 rfl rfl) ?_
       refine g_v rfl r_move ?_
       refine g_no rfl rfl rfl rfl rfl rfl ?_
       refine g_no rfl rfl rfl rfl rfl rfl ?_
       refine g_v rfl (r_pick0 rfl rfl) ?_
       refine g_v rfl r_move ?_
       refine g_no rfl rfl rfl rfl rfl rfl ?_
       refine g_no rfl rfl rfl rfl rfl rfl ?_
       refine g_no rfl rfl rfl rfl rfl rfl ?_
       refine g_v rfl (r_pick0 rfl rfl) ?_
       refine g_v rfl r_move ?_
       refine g_no rfl rfl rfl rfl rfl rfl ?_
       refine g_no rfl rfl rfl rfl rfl rfl ?_
       refine g_v rfl (r_pick0 rfl rfl) ?_
       refine g_v rfl r_move ?_
       refine g_no rfl rfl rfl rfl rfl rfl ?_
       refine g_no rfl rfl rfl rfl rfl rfl ?_
       refine g_no rfl rfl rfl rfl rfl rfl ?_
       refine g_v rfl (r_pick0 rfl rfl) ?_
       refine g_v rfl r_assign ?_
       refine g_nil ?_
       refine d_then ?_
       refine c_flat [(0, .bool false)] ⟨rfl, trivial⟩ (fun u => ?_)
       refine c_sta ⟨w0, M, (100100, g43, .cells #[.int .i64 x35.fBase, .int .i64 x35.fBaseTerm, .slice A38 x35.fEntries.length c39] 26 (0, 0)) :: (100080, g31, .cells #[.int .i64 x23.fBase, .int .i64 x23.fBaseTerm, .slice A26 x23.fEntries.length c27] 26 (0, 0)) :: (100010, g7, .cells #[.int .i64 x1.fBase, .int .i64 x1.fBaseTerm, .slice A3 x1.fEntries.length c4] 26 (0, 0)) :: H, R, φ41⟩ (fun _ h => h) ?_
       refine c_ret ?_
       replace hm := Option.some.inj hm
       subst hm
       refine d_retC () Try.results15 ?_ trivial (fun W h => ok_pre (H1 := [_, _, _]) (R1 := []) h (fun W hφ => (q6 _ (q21 _ (q29 _ (q33 _ (q41 _ hφ))))))) (.inr rfl)
       refine res_tmp ?_
       refine res_nil ?_
       exact rfl
     ·
      replace hm := ite_f hm (bool_nt h50)
      refine g_no rfl rfl rfl rfl rfl h50 ?_
      refine g_v rfl (r_pick0 rfl h50) ?_
      refine g_v rfl r_move ?_
      refine g_no rfl rfl rfl rfl rfl rfl ?_
      refine g_no rfl rfl rfl rfl rfl rfl ?_
      refine g_v rfl (r_pick0 rfl rfl) ?_
      refine g_v rfl r_move ?_
      refine g_no rfl rfl rfl rfl rfl rfl ?_
      refine g_no rfl rfl rfl rfl rfl rfl ?_
      refine g_no rfl rfl rfl rfl rfl rfl ?_
      refine g_no rfl rfl rfl rfl rfl rfl ?_
      refine g_v rfl (r_pick0 rfl rfl) ?_
      refine g_v rfl r_move ?_
      refine g_no rfl rfl rfl rfl rfl rfl ?_
      refine g_no rfl rfl rfl rfl rfl rfl ?_
      refine g_v rfl (r_pick0 rfl rfl) ?_
      refine g_v rfl r_move ?_
      refine g_no rfl rfl rfl rfl rfl rfl ?_
      refine g_no rfl rfl rfl rfl rfl rfl ?_
      refine g_no rfl rfl rfl rfl rfl rfl ?_
      refine g_no rfl rfl rfl rfl rfl rfl ?_
      refine g_v rfl (r_pick0 rfl rfl) ?_
      refine g_v rfl r_move ?_
      refine g_no rfl rfl rfl rfl rfl rfl ?_
      refine g_no rfl rfl rfl rfl rfl rfl ?_
      refine g_v rfl (r_pick0 rfl rfl) ?_
      refine g_v rfl r_move ?_
      refine g_no rfl rfl rfl rfl rfl rfl ?_
      refine g_no rfl rfl rfl rfl rfl rfl ?_
      refine g_no rfl rfl rfl rfl rfl rfl ?_
      refine g_v rfl (r_pick0 rfl rfl) ?_
      refine g_v rfl r_move ?_
      refine g_no rfl rfl rfl rfl rfl rfl ?_
      refine g_no rfl rfl rfl rfl rfl rfl ?_
      refine g_v rfl (r_pick0 rfl rfl) ?_
      refine g_v rfl r_move ?_
      refine g_no rfl rfl rfl rfl rfl rfl ?_
      refine g_no rfl rfl rfl rfl rfl rfl ?_
      refine g_no rfl rfl rfl rfl rfl rfl ?_
      refine g_v rfl (r_pick0 rfl rfl) ?_
      refine g_v rfl r_assign ?_
      refine g_nil ?_
      refine d_then ?_
      refine c_flat [(0, .bool false)] ⟨rfl, trivial⟩ (fun u => ?_)
      refine c_sta ⟨w0, M, (100100, g43, .cells #[.int .i64 x35.fBase, .int .i64 x35.fBaseTerm, .slice A38 x35.fEntries.length c39] 26 (0, 0)) :: (100080, g31, .cells #[.int .i64 x23.fBase, .int .i64 x23.fBaseTerm, .slice A26 x23.fEntries.length c27] 26 (0, 0)) :: (100010, g7, .cells #[.int .i64 x1.fBase, .int .i64 x1.fBaseTerm, .slice A3 x1.fEntries.length c4] 26 (0, 0)) :: H, R, φ41⟩ (fun _ h => h) ?_
      refine c_ret ?_
      replace hm := Option.some.inj hm
      subst hm
      refine d_retC () Try.results15 ?_ trivial (fun W h => ok_pre (H1 := [_, _, _]) (R1 := []) h (fun W hφ => (q6 _ (q21 _ (q29 _ (q33 _ (q41 _ hφ))))))) (.inr rfl)
      refine res_tmp ?_
      refine res_nil ?_
      exact rfl
    ·
     replace hm := ite_f hm (of_decide_eq_false h49)
     refine g_v rfl (r_pick0 rfl h49) ?_
     refine g_v rfl r_move ?_
     refine g_no rfl rfl rfl rfl rfl rfl ?_
     refine g_no rfl rfl rfl rfl rfl rfl ?_
     refine g_v rfl (r_pick0 rfl rfl) ?_
     refine g_v rfl r_move ?_
     refine g_no rfl rfl rfl rfl rfl rfl ?_
     refine g_no rfl rfl rfl rfl rfl rfl ?_
     refine g_v rfl (r_pick0 rfl rfl) ?_
     refine g_v rfl r_move ?_
     refine g_no rfl rfl rfl rfl rfl rfl ?_
     refine g_no rfl rfl rfl rfl rfl rfl ?_
     refine g_no rfl rfl rfl rfl rfl rfl ?_
     refine g_no rfl rfl rfl rfl rfl rfl ?_
     refine g_v rfl (r_pick0 rfl rfl) ?_
     refine g_v rfl r_move ?_
     refine g_no rfl rfl rfl rfl rfl rfl ?_
     refine g_no rfl rfl rfl rfl rfl rfl ?_
     refine g_v rfl (r_pick0 rfl rfl) ?_
     refine g_v rfl r_move ?_
     refine g_no rfl rfl rfl rfl rfl rfl ?_
     refine g_no rfl rfl rfl rfl rfl rfl ?_
     refine g_no rfl rfl rfl rfl rfl rfl ?_
     refine g_no rfl rfl rfl rfl rfl rfl ?_
     refine g_v rfl (r_pick0 rfl rfl) ?_
     refine g_v rfl r_move ?_
     refine g_no rfl rfl rfl rfl rfl rfl ?_
     refine g_no rfl rfl rfl rfl rfl rfl ?_
     refine g_v rfl (r_pick0 rfl rfl) ?_
     refine g_v rfl r_move ?_
     refine g_no rfl rfl rfl rfl rfl rfl ?_
     refine g_no rfl rfl rfl rfl rfl rfl ?_
     refine g_no rfl rfl rfl rfl rfl rfl ?_
     refine g_v rfl (r_pick0 rfl rfl) ?_
     refine g_v rfl r_move ?_
     refine g_no rfl rfl rfl rfl rfl rfl ?_
     refine g_no rfl rfl rfl rfl rfl rfl ?_
     refine g_v rfl (r_pick0 rfl rfl) ?_
     refine g_v rfl r_move ?_
     refine g_no rfl rfl rfl rfl rfl rfl ?_
     refine g_no rfl rfl rfl rfl rfl rfl ?_
     refine g_no rfl rfl rfl rfl rfl rfl ?_
     refine g_v rfl (r_pick0 rfl rfl) ?_
     refine g_v rfl r_assign ?_
     refine g_nil ?_
     refine d_then ?_
     refine c_flat [(0, .bool false)] ⟨rfl, trivial⟩ (fun u => ?_)
     refine c_sta ⟨w0, M, (100100, g43, .cells #[.int .i64 x35.fBase, .int .i64 x35.fBaseTerm, .slice A38 x35.fEntries.length c39] 26 (0, 0)) :: (100080, g31, .cells #[.int .i64 x23.fBase, .int .i64 x23.fBaseTerm, .slice A26 x23.fEntries.length c27] 26 (0, 0)) :: (100010, g7, .cells #[.int .i64 x1.fBase, .int .i64 x1.fBaseTerm, .slice A3 x1.fEntries.length c4] 26 (0, 0)) :: H, R, φ41⟩ (fun _ h => h) ?_
     refine c_ret ?_
     replace hm := Option.some.inj hm
     subst hm
     refine d_retC () Try.results15 ?_ trivial (fun W h => ok_pre (H1 := [_, _, _]) (R1 := []) h (fun W hφ => (q6 _ (q21 _ (q29 _ (q33 _ (q41 _ hφ))))))) (.inr rfl)
     refine res_tmp ?_
     refine res_nil ?_
     exact rfl
   ·
    replace hm := ite_f hm (bool_nt h48)
    refine g_no rfl rfl rfl rfl rfl h48 ?_
    refine g_v rfl (r_pick0 rfl h48) ?_
    refine g_v rfl r_move ?_
    refine g_no rfl rfl rfl rfl rfl rfl ?_
    refine g_v rfl (r_pick0 rfl rfl) ?_
    refine g_v rfl r_move ?_
    refine g_no rfl rfl rfl rfl rfl rfl ?_
    refine g_no rfl rfl rfl rfl rfl rfl ?_
    refine g_v rfl (r_pick0 rfl rfl) ?_
    refine g_v rfl r_move ?_
    refine g_no rfl rfl rfl rfl rfl rfl ?_
    refine g_no rfl rfl rfl rfl rfl rfl ?_
    refine g_v rfl (r_pick0 rfl rfl) ?_
    refine g_v rfl r_move ?_
    refine g_no rfl rfl rfl rfl rfl rfl ?_
    refine g_no rfl rfl rfl rfl rfl rfl ?_
    refine g_no rfl rfl rfl rfl rfl rfl ?_
    refine g_no rfl rfl rfl rfl rfl rfl ?_
    refine g_v rfl (r_pick0 rfl rfl) ?_
    refine g_v rfl r_move ?_
    refine g_no rfl rfl rfl rfl rfl rfl ?_
    refine g_no rfl rfl rfl rfl rfl rfl ?_
    refine g_v rfl (r_pick0 rfl rfl) ?_
    refine g_v rfl r_move ?_
    refine g_no rfl rfl rfl rfl rfl rfl ?_
    refine g_no rfl rfl rfl rfl rfl rfl ?_
    refine g_no rfl rfl rfl rfl rfl rfl ?_
    refine g_no rfl rfl rfl rfl rfl rfl ?_
    refine g_v rfl (r_pick0 rfl rfl) ?_
    refine g_v rfl r_move ?_
    refine g_no rfl rfl rfl rfl rfl rfl ?_
    refine g_no rfl rfl rfl rfl rfl rfl ?_
    refine g_v rfl (r_pick0 rfl rfl) ?_
    refine g_v rfl r_move ?_
    refine g_no rfl rfl rfl rfl rfl rfl ?_
    refine g_no rfl rfl rfl rfl rfl rfl ?_
    refine g_no rfl rfl rfl rfl rfl rfl ?_
    refine g_v rfl (r_pick0 rfl rfl) ?_
    refine g_v rfl r_move ?_
    refine g_no rfl rfl rfl rfl rfl rfl ?_
    refine g_no rfl rfl rfl rfl rfl rfl ?_
    refine g_v rfl (r_pick0 rfl rfl) ?_
    refine g_v rfl r_move ?_
    refine g_no rfl rfl rfl rfl rfl rfl ?_
    refine g_no rfl rfl rfl rfl rfl rfl ?_
    refine g_no rfl rfl rfl rfl rfl rfl ?_
    refine g_v rfl (r_pick0 rfl rfl) ?_
    refine g_v rfl r_assign ?_
    refine g_nil ?_
    refine d_then ?_
    refine c_flat [(0, .bool false)] ⟨rfl, trivial⟩ (fun u => ?_)
    refine c_sta ⟨w0, M, (100100, g43, .cells #[.int .i64 x35.fBase, .int .i64 x35.fBaseTerm, .slice A38 x35.fEntries.length c39] 26 (0, 0)) :: (100080, g31, .cells #[.int .i64 x23.fBase, .int .i64 x23.fBaseTerm, .slice A26 x23.fEntries.length c27] 26 (0, 0)) :: (100010, g7, .cells #[.int .i64 x1.fBase, .int .i64 x1.fBaseTerm, .slice A3 x1.fEntries.length c4] 26 (0, 0)) :: H, R, φ41⟩ (fun _ h => h) ?_
    refine c_ret ?_
    replace hm := Option.some.inj hm
    subst hm
    refine d_retC () Try.results15 ?_ trivial (fun W h => ok_pre (H1 := [_, _, _]) (R1 := []) h (fun W hφ => (q6 _ (q21 _ (q29 _ (q33 _ (q41 _ hφ))))))) (.inr rfl)
    refine res_tmp ?_
    refine res_nil ?_
    exact rfl
  ·
   replace hm := ite_f hm (of_decide_eq_false h47)
   refine g_v rfl (r_pick0 rfl h47) ?_
   refine g_v rfl r_move ?_
   refine g_no rfl rfl rfl rfl rfl rfl ?_
   refine g_no rfl rfl rfl rfl rfl rfl ?_
   refine g_v rfl (r_pick0 rfl rfl) ?_
   refine g_v rfl r_move ?_
   refine g_no rfl rfl rfl rfl rfl rfl ?_
   refine g_v rfl (r_pick0 rfl rfl) ?_
   refine g_v rfl r_move ?_
   refine g_no rfl rfl rfl rfl rfl rfl ?_
   refine g_no rfl rfl rfl rfl rfl rfl ?_
   refine g_v rfl (r_pick0 rfl rfl) ?_
   refine g_v rfl r_move ?_
   refine g_no rfl rfl rfl rfl rfl rfl ?_
   refine g_no rfl rfl rfl rfl rfl rfl ?_
   refine g_v rfl (r_pick0 rfl rfl) ?_
   refine g_v rfl r_move ?_
   refine g_no rfl rfl rfl rfl rfl rfl ?_
   refine g_no rfl rfl rfl rfl rfl rfl ?_
   refine g_no rfl rfl rfl rfl rfl rfl ?_
   refine g_no rfl rfl rfl rfl rfl rfl ?_
   refine g_v rfl (r_pick0 rfl rfl) ?_
   refine g_v rfl r_move ?_
   refine g_no rfl rfl rfl rfl rfl rfl ?_
   refine g_no rfl rfl rfl rfl rfl rfl ?_
   refine g_v rfl (r_pick0 rfl rfl) ?_
   refine g_v rfl r_move ?_
   refine g_no rfl rfl rfl rfl rfl rfl ?_
   refine g_no rfl rfl rfl rfl rfl rfl ?_
   refine g_no rfl rfl rfl rfl rfl rfl ?_
   refine g_no rfl rfl rfl rfl rfl rfl ?_
   refine g_v rfl (r_pick0 rfl rfl) ?_
   refine g_v rfl r_move ?_
   refine g_no rfl rfl rfl rfl rfl rfl ?_
   refine g_no rfl rfl rfl rfl rfl rfl ?_
   refine g_v rfl (r_pick0 rfl rfl) ?_
   refine g_v rfl r_move ?_
   refine g_no rfl rfl rfl rfl rfl rfl ?_
   refine g_no rfl rfl rfl rfl rfl rfl ?_
   refine g_no rfl rfl rfl rfl rfl rfl ?_
   refine g_v rfl (r_pick0 rfl rfl) ?_
   refine g_v rfl r_move ?_
   refine g_no rfl rfl rfl rfl rfl rfl ?_
   refine g_no rfl rfl rfl rfl rfl rfl ?_
   refine g_v rfl (r_pick0 rfl rfl) ?_
   refine g_v rfl r_move ?_
   refine g_no rfl rfl rfl rfl rfl rfl ?_
   refine g_no rfl rfl rfl rfl rfl rfl ?_
   refine g_no rfl rfl rfl rfl rfl rfl ?_
   refine g_v rfl (r_pick0 rfl rfl) ?_
   refine g_v rfl r_assign ?_
   refine g_nil ?_
   refine d_then ?_
   refine c_flat [(0, .bool false)] ⟨rfl, trivial⟩ (fun u => ?_)
   refine c_sta ⟨w0, M, (100100, g43, .cells #[.int .i64 x35.fBase, .int .i64 x35.fBaseTerm, .slice A38 x35.fEntries.length c39] 26 (0, 0)) :: (100080, g31, .cells #[.int .i64 x23.fBase, .int .i64 x23.fBaseTerm, .slice A26 x23.fEntries.length c27] 26 (0, 0)) :: (100010, g7, .cells #[.int .i64 x1.fBase, .int .i64 x1.fBaseTerm, .slice A3 x1.fEntries.length c4] 26 (0, 0)) :: H, R, φ41⟩ (fun _ h => h) ?_
   refine c_ret ?_
   replace hm := Option.some.inj hm
   subst hm
   refine d_retC () Try.results15 ?_ trivial (fun W h => ok_pre (H1 := [_, _, _]) (R1 := []) h (fun W hφ => (q6 _ (q21 _ (q29 _ (q33 _ (q41 _ hφ))))))) (.inr rfl)
   refine res_tmp ?_
   refine res_nil ?_
   exact rfl
 ·
  replace hm := ite_f hm (of_decide_eq_false h46)
  refine g_no rfl rfl rfl rfl rfl h46 ?_
  refine g_v rfl (r_pick0 rfl h46) ?_
  refine g_v rfl r_move ?_
  refine g_no rfl rfl rfl rfl rfl rfl ?_
  refine g_v rfl (r_pick0 rfl rfl) ?_
  refine g_v rfl r_move ?_
  refine g_no rfl rfl rfl rfl rfl rfl ?_
  refine g_no rfl rfl rfl rfl rfl rfl ?_
  refine g_v rfl (r_pick0 rfl rfl) ?_
  refine g_v rfl r_move ?_
  refine g_no rfl rfl rfl rfl rfl rfl ?_
  refine g_v rfl (r_pick0 rfl rfl) ?_
  refine g_v rfl r_move ?_
  refine g_no rfl rfl rfl rfl rfl rfl ?_
  refine g_no rfl rfl rfl rfl rfl rfl ?_
  refine g_v rfl (r_pick0 rfl rfl) ?_
  refine g_v rfl r_move ?_
  refine g_no rfl rfl rfl rfl rfl rfl ?_
  refine g_no rfl rfl rfl rfl rfl rfl ?_
  refine g_v rfl (r_pick0 rfl rfl) ?_
  refine g_v rfl r_move ?_
  refine g_no rfl rfl rfl rfl rfl rfl ?_
  refine g_no rfl rfl rfl rfl rfl rfl ?_
  refine g_no rfl rfl rfl rfl rfl rfl ?_
  refine g_no rfl rfl rfl rfl rfl rfl ?_
  refine g_v rfl (r_pick0 rfl rfl) ?_
  refine g_v rfl r_move ?_
  refine g_no rfl rfl rfl rfl rfl rfl ?_
  refine g_no rfl rfl rfl rfl rfl rfl ?_
  refine g_v rfl (r_pick0 rfl rfl) ?_
  refine g_v rfl r_move ?_
  refine g_no rfl rfl rfl rfl rfl rfl ?_
  refine g_no rfl rfl rfl rfl rfl rfl ?_
  refine g_no rfl rfl rfl rfl rfl rfl ?_
  refine g_no rfl rfl rfl rfl rfl rfl ?_
  refine g_v rfl (r_pick0 rfl rfl) ?_
  refine g_v rfl r_move ?_
  refine g_no rfl rfl rfl rfl rfl rfl ?_
  refine g_no rfl rfl rfl rfl rfl rfl ?_
  refine g_v rfl (r_pick0 rfl rfl) ?_
  refine g_v rfl r_move ?_
  refine g_no rfl rfl rfl rfl rfl rfl ?_
  refine g_no rfl rfl rfl rfl rfl rfl ?_
  refine g_no rfl rfl rfl rfl rfl rfl ?_
  refine g_v rfl (r_pick0 rfl rfl) ?_
  refine g_v rfl r_move ?_
  refine g_no rfl rfl rfl rfl rfl rfl ?_
  refine g_no rfl rfl rfl rfl rfl rfl ?_
  refine g_v rfl (r_pick0 rfl rfl) ?_
  refine g_v rfl r_move ?_
  refine g_no rfl rfl rfl rfl rfl rfl ?_
  refine g_no rfl rfl rfl rfl rfl rfl ?_
  refine g_no rfl rfl rfl rfl rfl rfl ?_
  refine g_v rfl (r_pick0 rfl rfl) ?_
  refine g_v rfl r_assign ?_
  refine g_nil ?_
  refine d_then ?_
  refine c_flat [(0, .bool false)] ⟨rfl, trivial⟩ (fun u => ?_)
  refine c_sta ⟨w0, M, (100100, g43, .cells #[.int .i64 x35.fBase, .int .i64 x35.fBaseTerm, .slice A38 x35.fEntries.length c39] 26 (0, 0)) :: (100080, g31, .cells #[.int .i64 x23.fBase, .int .i64 x23.fBaseTerm, .slice A26 x23.fEntries.length c27] 26 (0, 0)) :: (100010, g7, .cells #[.int .i64 x1.fBase, .int .i64 x1.fBaseTerm, .slice A3 x1.fEntries.length c4] 26 (0, 0)) :: H, R, φ41⟩ (fun _ h => h) ?_
  refine c_ret ?_
  replace hm := Option.some.inj hm
  subst hm
  refine d_retC () Try.results15 ?_ trivial (fun W h => ok_pre (H1 := [_, _, _]) (R1 := []) h (fun W hφ => (q6 _ (q21 _ (q29 _ (q33 _ (q41 _ hφ))))))) (.inr rfl)
  refine res_tmp ?_
  refine res_nil ?_
  exact rfl

noncomputable def m_law11_PlogAsks (p0 : GLog) (p1 : Int) (p2 : Int) : Option Bool :=
  (m_law11_awake).bind fun x2 =>
  (m_law11_small p0).bind fun x4 =>
  (m_law11_sound x4).bind fun x10 =>
  if x10 = true then
    (m_plog_Term x4 p1).bind fun (z16 : Int × Bool) =>
    (m_ref11_Term x4 p1).bind fun (z20 : Int × Bool) =>
    (m_plog_Get x4 p1).bind fun (z24 : GEntry × Bool) =>
    (m_ref11_Get x4 p1).bind fun (z29 : GEntry × Bool) =>
    (m_plog_Slice x4 p1 p2).bind fun x55 =>
    (m_ref11_Slice x4 p1 p2).bind fun x60 =>
    (m_law11_sameEntries x55 x60).bind fun x65 =>
    if x2 = true then
      (m_plog_Check x4).bind fun x98 =>
      (m_ref11_Check x4).bind fun x100 =>
      if x98 = x100 then
        (m_plog_Last x4).bind fun x103 =>
        (m_ref11_Last x4).bind fun x105 =>
        if x103 = x105 then
          if z16.1 = z20.1 then
            if (z16.2 == z20.2) = true then
              if z24.1 = z29.1 then
                if (z24.2 == z29.2) = true then
                  some x65
                else
                  some false
              else
                some false
            else
              some false
          else
            some false
        else
          some false
      else
        some false
    else
      some false
  else
    some x2
theorem c_law11_PlogAsks {w0 : World} {M : Nat → Prop} {H : List (Nat × Nat × Obj)} {R : List (Nat × Row)} {φ : World → Prop} (p0 : GLog) (Ap0_0 : Option Addr) (cp0_0 : Nat) (hcp0_0 : p0.fEntries.length ≤ cp0_0) (fp0_0 : ∀ W, (Sta.mk w0 M H R φ).ok W → Cl W Ap0_0 (p0.fEntries.flatMap GEntry.enc)) (p1 : Int) (p2 : Int) (r : Bool) (hm : m_law11_PlogAsks p0 p1 p2 = some r) :
    Cn Try.prog 6 #[.agg #[.int .i64 p0.fBase, .int .i64 p0.fBaseTerm, .slice Ap0_0 p0.fEntries.length cp0_0], .int .i64 p1, .int .i64 p2] ⟨w0, M, H, R, φ⟩ (fun x : Unit => .bool r) (fun x => True) (fun x => ⟨w0, M, H, R, φ⟩) := by
 unfold m_law11_PlogAsks at hm
 refine cn_intro (fn := Try.f6) (N := 97) Try.func6 rfl Try.ntmps6 rfl ?_
 refine c_seq ?_
 refine c_region ?_
 refine g_e rfl (e_box 100030 rfl) (fun g1 _ => ?_)
 refine g_v rfl r_assign ?_
 refine g_nil ?_
 refine d_then ?_
 refine c_seq ?_
 refine c_region ?_
 replace hm := bnd hm
 obtain ⟨x2, hx3, hm⟩ := hm
 refine g_cn ⟨w0, M, _, _, φ⟩ (fun _ h => h) Try.call15 rfl rfl (c_law11_awake  _ hx3) (fun _ _ => ?_)
 refine g_v rfl r_assign ?_
 refine g_nil ?_
 refine d_then ?_
 refine c_seq ?_
 refine c_region ?_
 refine g_v rfl (r_loadA (tag := 100030) rfl rfl Try.isAgg26 Try.sizeOf26 rfl rfl) ?_
 replace hm := bnd hm
 obtain ⟨x4, hx5, hm⟩ := hm
 refine g_cn ⟨w0, M, _, _, φ⟩ (fun _ h => h) Try.call17 rfl rfl (c_law11_small p0 Ap0_0 cp0_0 hcp0_0 (fun W hS => fp0_0 W (ok_pre (H1 := [_]) (R1 := []) hS (fun W h => h))) _ hx5) (fun ⟨A6, c7⟩ hc7 => ?_)
 refine g_abs (fun φ9 q9' => ?_)
 have q9 : ∀ W, φ9 W → φ W := fun W h => (q9' W h).1
 have f8 := fun (W : World) (h : φ9 W) => (q9' W h).2
 refine g_storeL (tag := 100030) rfl rfl rfl rfl Try.sizeOf26 rfl rfl ?_
 refine g_nil ?_
 refine d_then ?_
 refine c_seq ?_
 refine c_region ?_
 refine g_v rfl (r_loadA (tag := 100030) rfl rfl Try.isAgg26 Try.sizeOf26 rfl rfl) ?_
 replace hm := bnd hm
 obtain ⟨x10, hx11, hm⟩ := hm
 refine g_cn ⟨w0, M, _, _, φ9⟩ (fun _ h => h) Try.call30 rfl rfl (c_law11_sound x4 A6 c7 hc7 (fun W hS => f8 W hS.now) _ hx11) (fun _ _ => ?_)
 refine g_v rfl r_assign ?_
 refine g_nil ?_
 refine d_then ?_
 refine c_flat [(1, .int .i64 p1), (2, .int .i64 p2), (3, .pointer (some ⟨g1, 0, none⟩)), (7, .bool x2), (8, .bool x10)] ⟨rfl, rfl, rfl, rfl, rfl, trivial⟩ (fun u => ?_)
 refine c_sta ⟨w0, M, (100030, g1, .cells #[.int .i64 x4.fBase, .int .i64 x4.fBaseTerm, .slice A6 x4.fEntries.length c7] 26 (0, 0)) :: H, R, φ9⟩ (fun _ h => h) ?_
 refine c_seq ?_
 refine c_seq ?_
 refine c_region ?_
 refine g_v rfl r_move ?_
 refine g_v rfl (r_not rfl) ?_
 refine g_nil ?_
 refine d_then ?_
 refine c_cond rfl (fun h12 => ?_) (fun h12 => ?_)
 ·
  have h12' : x10 = false := by revert h12; cases x10 <;> simp
  replace hm := ite_f hm (bool_nt h12')
  refine c_seq ?_
  refine c_region ?_
  refine g_v rfl r_move ?_
  refine g_v rfl r_assign ?_
  refine g_nil ?_
  refine d_then ?_
  refine c_ret ?_
  refine d_ret_then ?_
  replace hm := Option.some.inj hm
  subst hm
  refine d_retC () Try.results6 ?_ trivial (fun W h => ok_pre (H1 := [_]) (R1 := []) h (fun W hφ => (q9 _ hφ))) (.inr rfl)
  refine res_tmp ?_
  refine res_nil ?_
  exact rfl
 ·
  have h12' : x10 = true := by revert h12; cases x10 <;> simp
  replace hm := ite_t hm h12'
  refine c_skip ?_
  refine d_then ?_
  refine c_seq ?_
  refine c_region ?_
  refine g_v rfl (r_loadA (tag := 100030) rfl rfl Try.isAgg26 Try.sizeOf26 rfl rfl) ?_
  refine g_v rfl r_move ?_
  replace hm := bnd hm
  obtain ⟨⟨x13, x14⟩, hx15, hm⟩ := hm
  refine g_cn ⟨w0, M, _, _, φ9⟩ (fun _ h => h) Try.call31 rfl rfl (c_plog_Term x4 A6 c7 hc7 (fun W hS => f8 W hS.now) p1 _ hx15) (fun _ _ => ?_)
  refine g_v rfl r_move ?_
  refine g_v rfl (r_extract rfl rfl) ?_
  refine g_v rfl (r_extract rfl rfl) ?_
  refine g_v rfl r_assign ?_
  refine g_v rfl r_assign ?_
  refine g_nil ?_
  refine d_then ?_
  refine c_flat [(1, .int .i64 p1), (2, .int .i64 p2), (3, .pointer (some ⟨g1, 0, none⟩)), (7, .bool x2), (9, .int .i64 x13), (10, .bool x14)] ⟨rfl, rfl, rfl, rfl, rfl, rfl, trivial⟩ (fun u => ?_)
  refine c_sta ⟨w0, M, (100030, g1, .cells #[.int .i64 x4.fBase, .int .i64 x4.fBaseTerm, .slice A6 x4.fEntries.length c7] 26 (0, 0)) :: H, R, φ9⟩ (fun _ h => h) ?_
  refine c_seq ?_
  refine c_region ?_
  refine g_v rfl (r_loadA (tag := 100030) rfl rfl Try.isAgg26 Try.sizeOf26 rfl rfl) ?_
  refine g_v rfl r_move ?_
  replace hm := bnd hm
  obtain ⟨⟨x17, x18⟩, hx19, hm⟩ := hm
  refine g_cn ⟨w0, M, _, _, φ9⟩ (fun _ h => h) Try.call32 rfl rfl (c_ref11_Term x4 A6 c7 hc7 (fun W hS => f8 W hS.now) p1 _ hx19) (fun _ _ => ?_)
  refine g_v rfl r_move ?_
  refine g_v rfl (r_extract rfl rfl) ?_
  refine g_v rfl (r_extract rfl rfl) ?_
  refine g_v rfl r_assign ?_
  refine g_v rfl r_assign ?_
  refine g_nil ?_
  refine d_then ?_
  refine c_seq ?_
  refine c_region ?_
  refine g_v rfl (r_loadA (tag := 100030) rfl rfl Try.isAgg26 Try.sizeOf26 rfl rfl) ?_
  refine g_v rfl r_move ?_
  replace hm := bnd hm
  obtain ⟨⟨x21, x22⟩, hx23, hm⟩ := hm
  refine g_cn ⟨w0, M, _, _, φ9⟩ (fun _ h => h) Try.call21 rfl rfl (c_plog_Get x4 A6 c7 hc7 (fun W hS => f8 W hS.now) p1 _ hx23) (fun _ _ => ?_)
  refine g_v rfl r_move ?_
  refine g_v rfl (r_extract rfl rfl) ?_
  refine g_v rfl (r_extract rfl rfl) ?_
  refine g_e rfl (e_alloc 100130 Try.zeroValue35) (fun g25 _ => ?_)
  refine g_storeL (tag := 100130) rfl rfl rfl rfl Try.sizeOf35 rfl rfl ?_
  refine g_v rfl r_assign ?_
  refine g_nil ?_
  refine d_then ?_
  refine c_flat [(1, .int .i64 p1), (2, .int .i64 p2), (3, .pointer (some ⟨g1, 0, none⟩)), (7, .bool x2), (9, .int .i64 x13), (10, .bool x14), (11, .int .i64 x17), (12, .bool x18), (13, .pointer (some ⟨g25, 0, none⟩)), (14, .bool x22)] ⟨rfl, rfl, rfl, rfl, rfl, rfl, rfl, rfl, rfl, rfl, trivial⟩ (fun u => ?_)
  refine c_sta ⟨w0, M, (100130, g25, .cells #[.int .i64 x21.fTerm, .int .i64 x21.fKind, .string x21.fData] 35 (0, 0)) :: (100030, g1, .cells #[.int .i64 x4.fBase, .int .i64 x4.fBaseTerm, .slice A6 x4.fEntries.length c7] 26 (0, 0)) :: H, R, φ9⟩ (fun _ h => h) ?_
  refine c_seq ?_
  refine c_region ?_
  refine g_v rfl (r_loadA (tag := 100030) rfl rfl Try.isAgg26 Try.sizeOf26 rfl rfl) ?_
  refine g_v rfl r_move ?_
  replace hm := bnd hm
  obtain ⟨⟨x26, x27⟩, hx28, hm⟩ := hm
  refine g_cn ⟨w0, M, _, _, φ9⟩ (fun _ h => h) Try.call33 rfl rfl (c_ref11_Get x4 A6 c7 hc7 (fun W hS => f8 W hS.now) p1 _ hx28) (fun _ _ => ?_)
  refine g_v rfl r_move ?_
  refine g_v rfl (r_extract rfl rfl) ?_
  refine g_v rfl (r_extract rfl rfl) ?_
  refine g_e rfl (e_alloc 100150 Try.zeroValue35) (fun g30 _ => ?_)
  refine g_storeL (tag := 100150) rfl rfl rfl rfl Try.sizeOf35 rfl rfl ?_
  refine g_v rfl r_assign ?_
  refine g_nil ?_
  refine d_then ?_
  refine c_flat [(1, .int .i64 p1), (2, .int .i64 p2), (3, .pointer (some ⟨g1, 0, none⟩)), (7, .bool x2), (9, .int .i64 x13), (10, .bool x14), (11, .int .i64 x17), (12, .bool x18), (13, .pointer (some ⟨g25, 0, none⟩)), (14, .bool x22), (15, .pointer (some ⟨g30, 0, none⟩)), (16, .bool x27)] ⟨rfl, rfl, rfl, rfl, rfl, rfl, rfl, rfl, rfl, rfl, rfl, rfl, trivial⟩ (fun u => ?_)
  refine c_sta ⟨w0, M, (100150, g30, .cells #[.int .i64 x26.fTerm, .int .i64 x26.fKind, .string x26.fData] 35 (0, 0)) :: (100130, g25, .cells #[.int .i64 x21.fTerm, .int .i64 x21.fKind, .string x21.fData] 35 (0, 0)) :: (100030, g1, .cells #[.int .i64 x4.fBase, .int .i64 x4.fBaseTerm, .slice A6 x4.fEntries.length c7] 26 (0, 0)) :: H, R, φ9⟩ (fun _ h => h) ?_
  refine c_seq ?_
  refine ga_start (n := 10) ⟨w0, M, (100150, g30, .cells #[.int .i64 x26.fTerm, .int .i64 x26.fKind, .string x26.fData] 35 (0, 0)) :: (100130, g25, .cells #[.int .i64 x21.fTerm, .int .i64 x21.fKind, .string x21.fData] 35 (0, 0)) :: (100030, g1, .cells #[.int .i64 x4.fBase, .int .i64 x4.fBaseTerm, .slice A6 x4.fEntries.length c7] 26 (0, 0)) :: H, R, φ9⟩ [] #[false, false, false, false, false, false, false, false, false, false] (fun W h => h.phi (fun W hφ => hφ)) mixed rfl rfl ?_
  refine ga_v (i := 0) #[true, false, false, false, false, false, false, false, false, false] rfl (by kernel_rfl) (fun _ _ _ _ h => h) rfl (r_loadA (tag := 100030) rfl rfl Try.isAgg26 Try.sizeOf26 rfl rfl) ?_
  refine ga_v (i := 1) #[true, true, false, false, false, false, false, false, false, false] rfl (by kernel_rfl) (fun _ _ _ _ h => h) rfl (r_move) ?_
  refine ga_v (i := 2) #[true, true, true, false, false, false, false, false, false, false] rfl (by kernel_rfl) (fun _ _ _ _ h => h) rfl (r_move) ?_
  refine ga_v (i := 4) #[true, true, true, false, true, false, false, false, false, false] rfl (by kernel_rfl) (fun _ _ _ _ h => h) rfl (r_loadA (tag := 100030) rfl rfl Try.isAgg26 Try.sizeOf26 rfl rfl) ?_
  refine ga_v (i := 5) #[true, true, true, false, true, true, false, false, false, false] rfl (by kernel_rfl) (fun _ _ _ _ h => h) rfl (r_move) ?_
  refine ga_v (i := 6) #[true, true, true, false, true, true, true, false, false, false] rfl (by kernel_rfl) (fun _ _ _ _ h => h) rfl (r_move) ?_
  replace hm := bnd hm
  obtain ⟨x55, hx56, hm⟩ := hm
  refine ga_cn (first := #[]) (i := 3) #[true, true, true, true, true, true, true, false, false, false] rfl (by kernel_rfl) (by decide)  ⟨w0, M, _, _, φ9⟩ (fun _ h => h) Try.call35 rfl rfl rfl (c_plog_Slice x4 A6 c7 hc7 (fun W hS => f8 W hS.now) p1 p2 _ hx56) (fun ⟨A57, c58⟩ W hc58 h => ((h.shut (t := 2000) rfl).phi (fun _ hh => hh.1)).phi (fun W hφ => hφ)) (fun ⟨A57, c58⟩ hc58 => ?_)
  refine ga_sta _ (fun W h => ok_frontR (t := 2000) (t' := 100530) h rfl) ?_
  replace hm := bnd hm
  obtain ⟨x60, hx61, hm⟩ := hm
  refine ga_cn (first := #[]) (i := 7) #[true, true, true, true, true, true, true, true, false, false] rfl (by kernel_rfl) (by decide)  ⟨w0, M, _, _, φ9⟩ (fun _ h => h) Try.call36 rfl rfl rfl (c_ref11_Slice x4 A6 c7 hc7 (fun W hS => f8 W hS.now) p1 p2 _ hx61) (fun ⟨A62, c63⟩ W hc63 h => ((((h.shut (t := 2000) rfl).phi (fun _ hh => hh.1)).shut (t := 100530) rfl).phi (fun _ hh => hh.1)).phi (fun W hφ => hφ)) (fun ⟨A62, c63⟩ hc63 => ?_)
  refine ga_sta _ (fun W h => ok_frontR (t := 2000) (t' := 100570) h rfl) ?_
  replace hm := bnd hm
  obtain ⟨x65, hx66, hm⟩ := hm
  refine ga_cn (first := #[]) (i := 8) #[true, true, true, true, true, true, true, true, true, false] rfl (by kernel_rfl) (by decide)  ⟨w0, M, _, _, φ9⟩ (fun _ h => h) Try.call34 rfl rfl rfl (c_law11_sameEntries x55 A57 c58 hc58 (fun W hS => rowCl (tag := 100530) rfl W hS) x60 A62 c63 hc63 (fun W hS => rowCl (tag := 100570) rfl W hS) _ hx66) (fun _ W _ h => ((((h.shut (t := 100570) rfl).phi (fun _ hh => hh.1)).shut (t := 100530) rfl).phi (fun _ hh => hh.1)).phi (fun W hφ => hφ)) (fun _ _ => ?_)
  refine ga_r (i := 9) #[true, true, true, true, true, true, true, true, true, true] rfl (by kernel_rfl) (by decide) rfl (r_assign) ?_
  refine ga_done (by kernel_rfl) ?_
  refine d_then ?_
  refine c_flat [(3, .pointer (some ⟨g1, 0, none⟩)), (7, .bool x2), (9, .int .i64 x13), (10, .bool x14), (11, .int .i64 x17), (12, .bool x18), (13, .pointer (some ⟨g25, 0, none⟩)), (14, .bool x22), (15, .pointer (some ⟨g30, 0, none⟩)), (16, .bool x27), (17, .bool x65)] ⟨rfl, rfl, rfl, rfl, rfl, rfl, rfl, rfl, rfl, rfl, rfl, trivial⟩ (fun u => ?_)
  refine c_sta ⟨w0, M, (100150, g30, .cells #[.int .i64 x26.fTerm, .int .i64 x26.fKind, .string x26.fData] 35 (0, 0)) :: (100130, g25, .cells #[.int .i64 x21.fTerm, .int .i64 x21.fKind, .string x21.fData] 35 (0, 0)) :: (100030, g1, .cells #[.int .i64 x4.fBase, .int .i64 x4.fBaseTerm, .slice A6 x4.fEntries.length c7] 26 (0, 0)) :: H, (100570, ⟨.slice A62 x60.length c63, 35, 3, x60.length, x60.flatMap GEntry.enc⟩) :: (100530, ⟨.slice A57 x55.length c58, 35, 3, x55.length, x55.flatMap GEntry.enc⟩) :: R, φ9⟩ (fun _ h => h) ?_
  refine c_seq ?_
  refine ga_start (n := 39) ⟨w0, M, (100150, g30, .cells #[.int .i64 x26.fTerm, .int .i64 x26.fKind, .string x26.fData] 35 (0, 0)) :: (100130, g25, .cells #[.int .i64 x21.fTerm, .int .i64 x21.fKind, .string x21.fData] 35 (0, 0)) :: (100030, g1, .cells #[.int .i64 x4.fBase, .int .i64 x4.fBaseTerm, .slice A6 x4.fEntries.length c7] 26 (0, 0)) :: H, (100570, ⟨.slice A62 x60.length c63, 35, 3, x60.length, x60.flatMap GEntry.enc⟩) :: (100530, ⟨.slice A57 x55.length c58, 35, 3, x55.length, x55.flatMap GEntry.enc⟩) :: R, φ9⟩ [] #[false, false, false, false, false, false, false, false, false, false, false, false, false, false, false, false, false, false, false, false, false, false, false, false, false, false, false, false, false, false, false, false, false, false, false, false, false, false, false] (fun W h => h.phi (fun W hφ => hφ)) mixed rfl rfl ?_
  refine ga_r (i := 0) #[true, false, false, false, false, false, false, false, false, false, false, false, false, false, false, false, false, false, false, false, false, false, false, false, false, false, false, false, false, false, false, false, false, false, false, false, false, false, false] rfl (by kernel_rfl) (by decide) rfl (r_move) ?_
  refine ga_r (i := 1) #[true, true, false, false, false, false, false, false, false, false, false, false, false, false, false, false, false, false, false, false, false, false, false, false, false, false, false, false, false, false, false, false, false, false, false, false, false, false, false] rfl (by kernel_rfl) (by decide) rfl (r_move) ?_
  refine ga_if (t := 60) rfl (fun h97 => ?_) (fun h97 => ?_)
  ·
   replace hm := ite_t hm h97
   refine ga_do (i := 2) #[true, true, true, false, false, false, false, false, false, false, false, false, false, false, false, false, false, false, false, false, false, false, false, false, false, false, false, false, false, false, false, false, false, false, false, false, false, false, false] rfl (by kernel_rfl) (fun _ _ _ _ h => h) rfl rfl rfl rfl rfl h97 (r_loadA (tag := 100030) rfl rfl Try.isAgg26 Try.sizeOf26 rfl rfl) ?_
   refine ga_do (i := 4) #[true, true, true, false, true, false, false, false, false, false, false, false, false, false, false, false, false, false, false, false, false, false, false, false, false, false, false, false, false, false, false, false, false, false, false, false, false, false, false] rfl (by kernel_rfl) (fun _ _ _ _ h => h) rfl rfl rfl rfl rfl h97 (r_loadA (tag := 100030) rfl rfl Try.isAgg26 Try.sizeOf26 rfl rfl) ?_
   replace hm := bnd hm
   obtain ⟨x98, hx99, hm⟩ := hm
   refine ga_cnG (first := #[]) (i := 3) #[true, true, true, true, true, false, false, false, false, false, false, false, false, false, false, false, false, false, false, false, false, false, false, false, false, false, false, false, false, false, false, false, false, false, false, false, false, false, false] rfl (by kernel_rfl) (by decide) rfl rfl rfl rfl h97  ⟨w0, M, _, _, φ9⟩ (fun _ h => h) Try.call19 rfl rfl rfl (c_plog_Check x4 A6 c7 hc7 (fun W hS => f8 W hS.now) _ hx99) (fun _ W _ h => h.phi (fun W hφ => hφ)) (fun _ _ => ?_)
   replace hm := bnd hm
   obtain ⟨x100, hx101, hm⟩ := hm
   refine ga_cnG (first := #[]) (i := 5) #[true, true, true, true, true, true, false, false, false, false, false, false, false, false, false, false, false, false, false, false, false, false, false, false, false, false, false, false, false, false, false, false, false, false, false, false, false, false, false] rfl (by kernel_rfl) (by decide) rfl rfl rfl rfl h97  ⟨w0, M, _, _, φ9⟩ (fun _ h => h) Try.call37 rfl rfl rfl (c_ref11_Check x4 A6 c7 hc7 (fun W hS => f8 W hS.now) _ hx101) (fun _ W _ h => h.phi (fun W hφ => hφ)) (fun _ _ => ?_)
   refine ga_rG (i := 6) #[true, true, true, true, true, true, true, false, false, false, false, false, false, false, false, false, false, false, false, false, false, false, false, false, false, false, false, false, false, false, false, false, false, false, false, false, false, false, false] rfl (by kernel_rfl) (by decide) rfl rfl rfl rfl rfl h97 (r_eql rfl rfl) ?_
   refine ga_r (i := 7) #[true, true, true, true, true, true, true, true, false, false, false, false, false, false, false, false, false, false, false, false, false, false, false, false, false, false, false, false, false, false, false, false, false, false, false, false, false, false, false] rfl (by kernel_rfl) (by decide) rfl (r_pick1 rfl h97) ?_
   refine ga_r (i := 8) #[true, true, true, true, true, true, true, true, true, false, false, false, false, false, false, false, false, false, false, false, false, false, false, false, false, false, false, false, false, false, false, false, false, false, false, false, false, false, false] rfl (by kernel_rfl) (by decide) rfl (r_move) ?_
   refine ga_if (t := 67) rfl (fun h102 => ?_) (fun h102 => ?_)
   ·
    replace hm := ite_t hm (of_decide_eq_true h102)
    refine ga_do (i := 9) #[true, true, true, true, true, true, true, true, true, true, false, false, false, false, false, false, false, false, false, false, false, false, false, false, false, false, false, false, false, false, false, false, false, false, false, false, false, false, false] rfl (by kernel_rfl) (fun _ _ _ _ h => h) rfl rfl rfl rfl rfl h102 (r_loadA (tag := 100030) rfl rfl Try.isAgg26 Try.sizeOf26 rfl rfl) ?_
    refine ga_do (i := 11) #[true, true, true, true, true, true, true, true, true, true, false, true, false, false, false, false, false, false, false, false, false, false, false, false, false, false, false, false, false, false, false, false, false, false, false, false, false, false, false] rfl (by kernel_rfl) (fun _ _ _ _ h => h) rfl rfl rfl rfl rfl h102 (r_loadA (tag := 100030) rfl rfl Try.isAgg26 Try.sizeOf26 rfl rfl) ?_
    replace hm := bnd hm
    obtain ⟨x103, hx104, hm⟩ := hm
    refine ga_cnG (first := #[]) (i := 10) #[true, true, true, true, true, true, true, true, true, true, true, true, false, false, false, false, false, false, false, false, false, false, false, false, false, false, false, false, false, false, false, false, false, false, false, false, false, false, false] rfl (by kernel_rfl) (by decide) rfl rfl rfl rfl h102  ⟨w0, M, _, _, φ9⟩ (fun _ h => h) Try.call38 rfl rfl rfl (c_plog_Last x4 A6 c7 hc7 (fun W hS => f8 W hS.now) _ hx104) (fun _ W _ h => h.phi (fun W hφ => hφ)) (fun _ _ => ?_)
    replace hm := bnd hm
    obtain ⟨x105, hx106, hm⟩ := hm
    refine ga_cnG (first := #[]) (i := 12) #[true, true, true, true, true, true, true, true, true, true, true, true, true, false, false, false, false, false, false, false, false, false, false, false, false, false, false, false, false, false, false, false, false, false, false, false, false, false, false] rfl (by kernel_rfl) (by decide) rfl rfl rfl rfl h102  ⟨w0, M, _, _, φ9⟩ (fun _ h => h) Try.call39 rfl rfl rfl (c_ref11_Last x4 A6 c7 hc7 (fun W hS => f8 W hS.now) _ hx106) (fun _ W _ h => h.phi (fun W hφ => hφ)) (fun _ _ => ?_)
    refine ga_rG (i := 13) #[true, true, true, true, true, true, true, true, true, true, true, true, true, true, false, false, false, false, false, false, false, false, false, false, false, false, false, false, false, false, false, false, false, false, false, false, false, false, false] rfl (by kernel_rfl) (by decide) rfl rfl rfl rfl rfl h102 (r_eql rfl rfl) ?_
    refine ga_r (i := 14) #[true, true, true, true, true, true, true, true, true, true, true, true, true, true, true, false, false, false, false, false, false, false, false, false, false, false, false, false, false, false, false, false, false, false, false, false, false, false, false] rfl (by kernel_rfl) (by decide) rfl (r_pick1 rfl h102) ?_
    refine ga_r (i := 15) #[true, true, true, true, true, true, true, true, true, true, true, true, true, true, true, true, false, false, false, false, false, false, false, false, false, false, false, false, false, false, false, false, false, false, false, false, false, false, false] rfl (by kernel_rfl) (by decide) rfl (r_move) ?_
    refine ga_if (t := 74) rfl (fun h107 => ?_) (fun h107 => ?_)
    ·
     replace hm := ite_t hm (of_decide_eq_true h107)
     refine ga_do (i := 16) #[true, true, true, true, true, true, true, true, true, true, true, true, true, true, true, true, true, false, false, false, false, false, false, false, false, false, false, false, false, false, false, false, false, false, false, false, false, false, false] rfl (by kernel_rfl) (fun _ _ _ _ h => h) rfl rfl rfl rfl rfl h107 (r_move) ?_
     refine ga_rG (i := 17) #[true, true, true, true, true, true, true, true, true, true, true, true, true, true, true, true, true, true, false, false, false, false, false, false, false, false, false, false, false, false, false, false, false, false, false, false, false, false, false] rfl (by kernel_rfl) (by decide) rfl rfl rfl rfl rfl h107 (r_move) ?_
     refine ga_rG (i := 18) #[true, true, true, true, true, true, true, true, true, true, true, true, true, true, true, true, true, true, true, false, false, false, false, false, false, false, false, false, false, false, false, false, false, false, false, false, false, false, false] rfl (by kernel_rfl) (by decide) rfl rfl rfl rfl rfl h107 (r_eql rfl rfl) ?_
     refine ga_r (i := 19) #[true, true, true, true, true, true, true, true, true, true, true, true, true, true, true, true, true, true, true, true, false, false, false, false, false, false, false, false, false, false, false, false, false, false, false, false, false, false, false] rfl (by kernel_rfl) (by decide) rfl (r_pick1 rfl h107) ?_
     refine ga_r (i := 20) #[true, true, true, true, true, true, true, true, true, true, true, true, true, true, true, true, true, true, true, true, true, false, false, false, false, false, false, false, false, false, false, false, false, false, false, false, false, false, false] rfl (by kernel_rfl) (by decide) rfl (r_move) ?_
     refine ga_if (t := 79) rfl (fun h108 => ?_) (fun h108 => ?_)
     ·
      replace hm := ite_t hm (of_decide_eq_true h108)
      refine ga_do (i := 21) #[true, true, true, true, true, true, true, true, true, true, true, true, true, true, true, true, true, true, true, true, true, true, false, false, false, false, false, false, false, false, false, false, false, false, false, false, false, false, false] rfl (by kernel_rfl) (fun _ _ _ _ h => h) rfl rfl rfl rfl rfl h108 (r_move) ?_
      refine ga_rG (i := 22) #[true, true, true, true, true, true, true, true, true, true, true, true, true, true, true, true, true, true, true, true, true, true, true, false, false, false, false, false, false, false, false, false, false, false, false, false, false, false, false] rfl (by kernel_rfl) (by decide) rfl rfl rfl rfl rfl h108 (r_move) ?_
      refine ga_rG (i := 23) #[true, true, true, true, true, true, true, true, true, true, true, true, true, true, true, true, true, true, true, true, true, true, true, true, false, false, false, false, false, false, false, false, false, false, false, false, false, false, false] rfl (by kernel_rfl) (by decide) rfl rfl rfl rfl rfl h108 (r_eqlBo Try.underlying4 rfl rfl) ?_
      refine ga_r (i := 24) #[true, true, true, true, true, true, true, true, true, true, true, true, true, true, true, true, true, true, true, true, true, true, true, true, true, false, false, false, false, false, false, false, false, false, false, false, false, false, false] rfl (by kernel_rfl) (by decide) rfl (r_pick1 rfl h108) ?_
      refine ga_r (i := 25) #[true, true, true, true, true, true, true, true, true, true, true, true, true, true, true, true, true, true, true, true, true, true, true, true, true, true, false, false, false, false, false, false, false, false, false, false, false, false, false] rfl (by kernel_rfl) (by decide) rfl (r_move) ?_
      refine ga_if (t := 84) rfl (fun h109 => ?_) (fun h109 => ?_)
      ·
       replace hm := ite_t hm h109
       refine ga_do (i := 26) #[true, true, true, true, true, true, true, true, true, true, true, true, true, true, true, true, true, true, true, true, true, true, true, true, true, true, true, false, false, false, false, false, false, false, false, false, false, false, false] rfl (by kernel_rfl) (fun _ _ _ _ h => h) rfl rfl rfl rfl rfl h109 (r_loadA (tag := 100130) rfl rfl Try.isAgg35 Try.sizeOf35 rfl rfl) ?_
       refine ga_rG (i := 27) #[true, true, true, true, true, true, true, true, true, true, true, true, true, true, true, true, true, true, true, true, true, true, true, true, true, true, true, true, false, false, false, false, false, false, false, false, false, false, false] rfl (by kernel_rfl) (by decide) rfl rfl rfl rfl rfl h109 (r_loadA (tag := 100150) rfl rfl Try.isAgg35 Try.sizeOf35 rfl rfl) ?_
       refine ga_rG (i := 28) #[true, true, true, true, true, true, true, true, true, true, true, true, true, true, true, true, true, true, true, true, true, true, true, true, true, true, true, true, true, false, false, false, false, false, false, false, false, false, false] rfl (by kernel_rfl) (by decide) rfl rfl rfl rfl rfl h109 (r_eqlA rfl rfl eqg35 (eqq35 x21 x26)) ?_
       refine ga_r (i := 29) #[true, true, true, true, true, true, true, true, true, true, true, true, true, true, true, true, true, true, true, true, true, true, true, true, true, true, true, true, true, true, false, false, false, false, false, false, false, false, false] rfl (by kernel_rfl) (by decide) rfl (r_pick1 rfl h109) ?_
       refine ga_r (i := 30) #[true, true, true, true, true, true, true, true, true, true, true, true, true, true, true, true, true, true, true, true, true, true, true, true, true, true, true, true, true, true, true, false, false, false, false, false, false, false, false] rfl (by kernel_rfl) (by decide) rfl (r_move) ?_
       refine ga_if (t := 89) rfl (fun h110 => ?_) (fun h110 => ?_)
       ·
        replace hm := ite_t hm (of_decide_eq_true h110)
        refine ga_do (i := 31) #[true, true, true, true, true, true, true, true, true, true, true, true, true, true, true, true, true, true, true, true, true, true, true, true, true, true, true, true, true, true, true, true, false, false, false, false, false, false, false] rfl (by kernel_rfl) (fun _ _ _ _ h => h) rfl rfl rfl rfl rfl h110 (r_move) ?_
        refine ga_rG (i := 32) #[true, true, true, true, true, true, true, true, true, true, true, true, true, true, true, true, true, true, true, true, true, true, true, true, true, true, true, true, true, true, true, true, true, false, false, false, false, false, false] rfl (by kernel_rfl) (by decide) rfl rfl rfl rfl rfl h110 (r_move) ?_
        refine ga_rG (i := 33) #[true, true, true, true, true, true, true, true, true, true, true, true, true, true, true, true, true, true, true, true, true, true, true, true, true, true, true, true, true, true, true, true, true, true, false, false, false, false, false] rfl (by kernel_rfl) (by decide) rfl rfl rfl rfl rfl h110 (r_eqlBo Try.underlying4 rfl rfl) ?_
        refine ga_r (i := 34) #[true, true, true, true, true, true, true, true, true, true, true, true, true, true, true, true, true, true, true, true, true, true, true, true, true, true, true, true, true, true, true, true, true, true, true, false, false, false, false] rfl (by kernel_rfl) (by decide) rfl (r_pick1 rfl h110) ?_
        refine ga_r (i := 35) #[true, true, true, true, true, true, true, true, true, true, true, true, true, true, true, true, true, true, true, true, true, true, true, true, true, true, true, true, true, true, true, true, true, true, true, true, false, false, false] rfl (by kernel_rfl) (by decide) rfl (r_move) ?_
        refine ga_if (t := 94) rfl (fun h111 => ?_) (fun h111 => ?_)
        ·
         replace hm := ite_t hm h111
         refine ga_rG (i := 36) #[true, true, true, true, true, true, true, true, true, true, true, true, true, true, true, true, true, true, true, true, true, true, true, true, true, true, true, true, true, true, true, true, true, true, true, true, true, false, false] rfl (by kernel_rfl) (by decide) rfl rfl rfl rfl rfl h111 (r_move) ?_
         refine ga_r (i := 37) #[true, true, true, true, true, true, true, true, true, true, true, true, true, true, true, true, true, true, true, true, true, true, true, true, true, true, true, true, true, true, true, true, true, true, true, true, true, true, false] rfl (by kernel_rfl) (by decide) rfl (r_pick1 rfl h111) ?_
         refine ga_r (i := 38) #[true, true, true, true, true, true, true, true, true, true, true, true, true, true, true, true, true, true, true, true, true, true, true, true, true, true, true, true, true, true, true, true, true, true, true, true, true, true, true] rfl (by kernel_rfl) (by decide) rfl (r_assign) ?_
         refine ga_done (by kernel_rfl) ?_
         refine d_then ?_
         refine c_flat [(6, .bool x65)] ⟨rfl, trivial⟩ (fun u => ?_)
         refine c_sta ⟨w0, M, (100150, g30, .cells #[.int .i64 x26.fTerm, .int .i64 x26.fKind, .string x26.fData] 35 (0, 0)) :: (100130, g25, .cells #[.int .i64 x21.fTerm, .int .i64 x21.fKind, .string x21.fData] 35 (0, 0)) :: (100030, g1, .cells #[.int .i64 x4.fBase, .int .i64 x4.fBaseTerm, .slice A6 x4.fEntries.length c7] 26 (0, 0)) :: H, (100570, ⟨.slice A62 x60.length c63, 35, 3, x60.length, x60.flatMap GEntry.enc⟩) :: (100530, ⟨.slice A57 x55.length c58, 35, 3, x55.length, x55.flatMap GEntry.enc⟩) :: R, φ9⟩ (fun _ h => h) ?_
         refine c_ret ?_
         replace hm := Option.some.inj hm
         subst hm
         refine d_retC () Try.results6 ?_ trivial (fun W h => ok_pre (H1 := [_, _, _]) (R1 := [_, _]) h (fun W hφ => (q9 _ hφ))) (.inr rfl)
         refine res_tmp ?_
         refine res_nil ?_
         exact rfl
        ·
         replace hm := ite_f hm (bool_nt h111)
         refine ga_no (i := 36) #[true, true, true, true, true, true, true, true, true, true, true, true, true, true, true, true, true, true, true, true, true, true, true, true, true, true, true, true, true, true, true, true, true, true, true, true, true, false, false] rfl (by kernel_rfl) (fun _ _ _ _ h => h) rfl rfl rfl rfl rfl h111 ?_
         refine ga_r (i := 37) #[true, true, true, true, true, true, true, true, true, true, true, true, true, true, true, true, true, true, true, true, true, true, true, true, true, true, true, true, true, true, true, true, true, true, true, true, true, true, false] rfl (by kernel_rfl) (by decide) rfl (r_pick0 rfl h111) ?_
         refine ga_r (i := 38) #[true, true, true, true, true, true, true, true, true, true, true, true, true, true, true, true, true, true, true, true, true, true, true, true, true, true, true, true, true, true, true, true, true, true, true, true, true, true, true] rfl (by kernel_rfl) (by decide) rfl (r_assign) ?_
         refine ga_done (by kernel_rfl) ?_
         refine d_then ?_
         refine c_flat [(6, .bool false)] ⟨rfl, trivial⟩ (fun u => ?_)
         refine c_sta ⟨w0, M, (100150, g30, .cells #[.int .i64 x26.fTerm, .int .i64 x26.fKind, .string x26.fData] 35 (0, 0)) :: (100130, g25, .cells #[.int .i64 x21.fTerm, .int .i64 x21.fKind, .string x21.fData] 35 (0, 0)) :: (100030, g1, .cells #[.int .i64 x4.fBase, .int .i64 x4.fBaseTerm, .slice A6 x4.fEntries.length c7] 26 (0, 0)) :: H, (100570, ⟨.slice A62 x60.length c63, 35, 3, x60.length, x60.flatMap GEntry.enc⟩) :: (100530, ⟨.slice A57 x55.length c58, 35, 3, x55.length, x55.flatMap GEntry.enc⟩) :: R, φ9⟩ (fun _ h => h) ?_
         refine c_ret ?_
         replace hm := Option.some.inj hm
         subst hm
         refine d_retC () Try.results6 ?_ trivial (fun W h => ok_pre (H1 := [_, _, _]) (R1 := [_, _]) h (fun W hφ => (q9 _ hφ))) (.inr rfl)
         refine res_tmp ?_
         refine res_nil ?_
         exact rfl
       ·
        replace hm := ite_f hm (of_decide_eq_false h110)
        refine ga_no (i := 31) #[true, true, true, true, true, true, true, true, true, true, true, true, true, true, true, true, true, true, true, true, true, true, true, true, true, true, true, true, true, true, true, true, false, false, false, false, false, false, false] rfl (by kernel_rfl) (fun _ _ _ _ h => h) rfl rfl rfl rfl rfl h110 ?_
        refine ga_no (i := 32) #[true, true, true, true, true, true, true, true, true, true, true, true, true, true, true, true, true, true, true, true, true, true, true, true, true, true, true, true, true, true, true, true, true, false, false, false, false, false, false] rfl (by kernel_rfl) (fun _ _ _ _ h => h) rfl rfl rfl rfl rfl h110 ?_
        refine ga_no (i := 33) #[true, true, true, true, true, true, true, true, true, true, true, true, true, true, true, true, true, true, true, true, true, true, true, true, true, true, true, true, true, true, true, true, true, true, false, false, false, false, false] rfl (by kernel_rfl) (fun _ _ _ _ h => h) rfl rfl rfl rfl rfl h110 ?_
        refine ga_r (i := 34) #[true, true, true, true, true, true, true, true, true, true, true, true, true, true, true, true, true, true, true, true, true, true, true, true, true, true, true, true, true, true, true, true, true, true, true, false, false, false, false] rfl (by kernel_rfl) (by decide) rfl (r_pick0 rfl h110) ?_
        refine ga_r (i := 35) #[true, true, true, true, true, true, true, true, true, true, true, true, true, true, true, true, true, true, true, true, true, true, true, true, true, true, true, true, true, true, true, true, true, true, true, true, false, false, false] rfl (by kernel_rfl) (by decide) rfl (r_move) ?_
        refine ga_no (i := 36) #[true, true, true, true, true, true, true, true, true, true, true, true, true, true, true, true, true, true, true, true, true, true, true, true, true, true, true, true, true, true, true, true, true, true, true, true, true, false, false] rfl (by kernel_rfl) (fun _ _ _ _ h => h) rfl rfl rfl rfl rfl rfl ?_
        refine ga_r (i := 37) #[true, true, true, true, true, true, true, true, true, true, true, true, true, true, true, true, true, true, true, true, true, true, true, true, true, true, true, true, true, true, true, true, true, true, true, true, true, true, false] rfl (by kernel_rfl) (by decide) rfl (r_pick0 rfl rfl) ?_
        refine ga_r (i := 38) #[true, true, true, true, true, true, true, true, true, true, true, true, true, true, true, true, true, true, true, true, true, true, true, true, true, true, true, true, true, true, true, true, true, true, true, true, true, true, true] rfl (by kernel_rfl) (by decide) rfl (r_assign) ?_
        refine ga_done (by kernel_rfl) ?_
        refine d_then ?_
        refine c_flat [(6, .bool false)] ⟨rfl, trivial⟩ (fun u => ?_)
        refine c_sta ⟨w0, M, (100150, g30, .cells #[.int .i64 x26.fTerm, .int .i64 x26.fKind, .string x26.fData] 35 (0, 0)) :: (100130, g25, .cells #[.int .i64 x21.fTerm, .int .i64 x21.fKind, .string x21.fData] 35 (0, 0)) :: (100030, g1, .cells #[.int .i64 x4.fBase, .int .i64 x4.fBaseTerm, .slice A6 x4.fEntries.length c7] 26 (0, 0)) :: H, (100570, ⟨.slice A62 x60.length c63, 35, 3, x60.length, x60.flatMap GEntry.enc⟩) :: (100530, ⟨.slice A57 x55.length c58, 35, 3, x55.length, x55.flatMap GEntry.enc⟩) :: R, φ9⟩ (fun _ h => h) ?_
        refine c_ret ?_
        replace hm := Option.some.inj hm
        subst hm
        refine d_retC () Try.results6 ?_ trivial (fun W h => ok_pre (H1 := [_, _, _]) (R1 := [_, _]) h (fun W hφ => (q9 _ hφ))) (.inr rfl)
        refine res_tmp ?_
        refine res_nil ?_
        exact rfl
      ·
       replace hm := ite_f hm (bool_nt h109)
       refine ga_no (i := 26) #[true, true, true, true, true, true, true, true, true, true, true, true, true, true, true, true, true, true, true, true, true, true, true, true, true, true, true, false, false, false, false, false, false, false, false, false, false, false, false] rfl (by kernel_rfl) (fun _ _ _ _ h => h) rfl rfl rfl rfl rfl h109 ?_
       refine ga_no (i := 27) #[true, true, true, true, true, true, true, true, true, true, true, true, true, true, true, true, true, true, true, true, true, true, true, true, true, true, true, true, false, false, false, false, false, false, false, false, false, false, false] rfl (by kernel_rfl) (fun _ _ _ _ h => h) rfl rfl rfl rfl rfl h109 ?_
       refine ga_no (i := 28) #[true, true, true, true, true, true, true, true, true, true, true, true, true, true, true, true, true, true, true, true, true, true, true, true, true, true, true, true, true, false, false, false, false, false, false, false, false, false, false] rfl (by kernel_rfl) (fun _ _ _ _ h => h) rfl rfl rfl rfl rfl h109 ?_
       refine ga_r (i := 29) #[true, true, true, true, true, true, true, true, true, true, true, true, true, true, true, true, true, true, true, true, true, true, true, true, true, true, true, true, true, true, false, false, false, false, false, false, false, false, false] rfl (by kernel_rfl) (by decide) rfl (r_pick0 rfl h109) ?_
       refine ga_r (i := 30) #[true, true, true, true, true, true, true, true, true, true, true, true, true, true, true, true, true, true, true, true, true, true, true, true, true, true, true, true, true, true, true, false, false, false, false, false, false, false, false] rfl (by kernel_rfl) (by decide) rfl (r_move) ?_
       refine ga_no (i := 31) #[true, true, true, true, true, true, true, true, true, true, true, true, true, true, true, true, true, true, true, true, true, true, true, true, true, true, true, true, true, true, true, true, false, false, false, false, false, false, false] rfl (by kernel_rfl) (fun _ _ _ _ h => h) rfl rfl rfl rfl rfl rfl ?_
       refine ga_no (i := 32) #[true, true, true, true, true, true, true, true, true, true, true, true, true, true, true, true, true, true, true, true, true, true, true, true, true, true, true, true, true, true, true, true, true, false, false, false, false, false, false] rfl (by kernel_rfl) (fun _ _ _ _ h => h) rfl rfl rfl rfl rfl rfl ?_
       refine ga_no (i := 33) #[true, true, true, true, true, true, true, true, true, true, true, true, true, true, true, true, true, true, true, true, true, true, true, true, true, true, true, true, true, true, true, true, true, true, false, false, false, false, false] rfl (by kernel_rfl) (fun _ _ _ _ h => h) rfl rfl rfl rfl rfl rfl ?_
       refine ga_r (i := 34) #[true, true, true, true, true, true, true, true, true, true, true, true, true, true, true, true, true, true, true, true, true, true, true, true, true, true, true, true, true, true, true, true, true, true, true, false, false, false, false] rfl (by kernel_rfl) (by decide) rfl (r_pick0 rfl rfl) ?_
       refine ga_r (i := 35) #[true, true, true, true, true, true, true, true, true, true, true, true, true, true, true, true, true, true, true, true, true, true, true, true, true, true, true, true, true, true, true, true, true, true, true, true, false, false, false] rfl (by kernel_rfl) (by decide) rfl (r_move) ?_
       refine ga_no (i := 36) #[true, true, true, true, true, true, true, true, true, true, true, true, true, true, true, true, true, true, true, true, true, true, true, true, true, true, true, true, true, true, true, true, true, true, true, true, true, false, false] rfl (by kernel_rfl) (fun _ _ _ _ h => h) rfl rfl rfl rfl rfl rfl ?_
       refine ga_r (i := 37) #[true, true, true, true, true, true, true, true, true, true, true, true, true, true, true, true, true, true, true, true, true, true, true, true, true, true, true, true, true, true, true, true, true, true, true, true, true, true, false] rfl (by kernel_rfl) (by decide) rfl (r_pick0 rfl rfl) ?_
       refine ga_r (i := 38) #[true, true, true, true, true, true, true, true, true, true, true, true, true, true, true, true, true, true, true, true, true, true, true, true, true, true, true, true, true, true, true, true, true, true, true, true, true, true, true] rfl (by kernel_rfl) (by decide) rfl (r_assign) ?_
       refine ga_done (by kernel_rfl) ?_
       refine d_then ?_
       refine c_flat [(6, .bool false)] ⟨rfl, trivial⟩ (fun u => ?_)
       refine c_sta ⟨w0, M, (100150, g30, .cells #[.int .i64 x26.fTerm, .int .i64 x26.fKind, .string x26.fData] 35 (0, 0)) :: (100130, g25, .cells #[.int .i64 x21.fTerm, .int .i64 x21.fKind, .string x21.fData] 35 (0, 0)) :: (100030, g1, .cells #[.int .i64 x4.fBase, .int .i64 x4.fBaseTerm, .slice A6 x4.fEntries.length c7] 26 (0, 0)) :: H, (100570, ⟨.slice A62 x60.length c63, 35, 3, x60.length, x60.flatMap GEntry.enc⟩) :: (100530, ⟨.slice A57 x55.length c58, 35, 3, x55.length, x55.flatMap GEntry.enc⟩) :: R, φ9⟩ (fun _ h => h) ?_
       refine c_ret ?_
       replace hm := Option.some.inj hm
       subst hm
       refine d_retC () Try.results6 ?_ trivial (fun W h => ok_pre (H1 := [_, _, _]) (R1 := [_, _]) h (fun W hφ => (q9 _ hφ))) (.inr rfl)
       refine res_tmp ?_
       refine res_nil ?_
       exact rfl
     ·
      replace hm := ite_f hm (of_decide_eq_false h108)
      refine ga_no (i := 21) #[true, true, true, true, true, true, true, true, true, true, true, true, true, true, true, true, true, true, true, true, true, true, false, false, false, false, false, false, false, false, false, false, false, false, false, false, false, false, false] rfl (by kernel_rfl) (fun _ _ _ _ h => h) rfl rfl rfl rfl rfl h108 ?_
      refine ga_no (i := 22) #[true, true, true, true, true, true, true, true, true, true, true, true, true, true, true, true, true, true, true, true, true, true, true, false, false, false, false, false, false, false, false, false, false, false, false, false, false, false, false] rfl (by kernel_rfl) (fun _ _ _ _ h => h) rfl rfl rfl rfl rfl h108 ?_
      refine ga_no (i := 23) #[true, true, true, true, true, true, true, true, true, true, true, true, true, true, true, true, true, true, true, true, true, true, true, true, false, false, false, false, false, false, false, false, false, false, false, false, false, false, false] rfl (by kernel_rfl) (fun _ _ _ _ h => h) rfl rfl rfl rfl rfl h108 ?_
      refine ga_r (i := 24) #[true, true, true, true, true, true, true, true, true, true, true, true, true, true, true, true, true, true, true, true, true, true, true, true, true, false, false, false, false, false, false, false, false, false, false, false, false, false, false] rfl (by kernel_rfl) (by decide) rfl (r_pick0 rfl h108) ?_
      refine ga_r (i := 25) #[true, true, true, true, true, true, true, true, true, true, true, true, true, true, true, true, true, true, true, true, true, true, true, true, true, true, false, false, false, false, false, false, false, false, false, false, false, false, false] rfl (by kernel_rfl) (by decide) rfl (r_move) ?_
      refine ga_no (i := 26) #[true, true, true, true, true, true, true, true, true, true, true, true, true, true, true, true, true, true, true, true, true, true, true, true, true, true, true, false, false, false, false, false, false, false, false, false, false, false, false] rfl (by kernel_rfl) (fun _ _ _ _ h => h) rfl rfl rfl rfl rfl rfl ?_
      refine ga_no (i := 27) #[true, true, true, true, true, true, true, true, true, true, true, true, true, true, true, true, true, true, true, true, true, true, true, true, true, true, true, true, false, false, false, false, false, false, false, false, false, false, false] rfl (by kernel_rfl) (fun _ _ _ _ h => h) rfl rfl rfl rfl rfl rfl ?_
      refine ga_no (i := 28) #[true, true, true, true, true, true, true, true, true, true, true, true, true, true, true, true, true, true, true, true, true, true, true, true, true, true, true, true, true, false, false, false, false, false, false, false, false, false, false] rfl (by kernel_rfl) (fun _ _ _ _ h => h) rfl rfl rfl rfl rfl rfl ?_
      refine ga_r (i := 29) #[true, true, true, true, true, true, true, true, true, true, true, true, true, true, true, true, true, true, true, true, true, true, true, true, true, true, true, true, true, true, false, false, false, false, false, false, false, false, false] rfl (by kernel_rfl) (by decide) rfl (r_pick0 rfl rfl) ?_
      refine ga_r (i := 30) #[true, true, true, true, true, true, true, true, true, true, true, true, true, true, true, true, true, true, true, true, true, true, true, true, true, true, true, true, true, true, true, false, false, false, false, false, false, false, false] rfl (by kernel_rfl) (by decide) rfl (r_move) ?_
      refine ga_no (i := 31) #[true, true, true, true, true, true, true, true, true, true, true, true, true, true, true, true, true, true, true, true, true, true, true, true, true, true, true, true, true, true, true, true, false, false, false, false, false, false, false] rfl (by kernel_rfl) (fun _ _ _ _ h => h) rfl rfl rfl rfl rfl rfl ?_
      refine ga_no (i := 32) #[true, true, true, true, true, true, true, true, true, true, true, true, true, true, true, true, true, true, true, true, true, true, true, true, true, true, true, true, true, true, true, true, true, false, false, false, false, false, false] rfl (by kernel_rfl) (fun _ _ _ _ h => h) rfl rfl rfl rfl rfl rfl ?_
      refine ga_no (i := 33) #[true, true, true, true, true, true, true, true, true, true, true, true, true, true, true, true, true, true, true, true, true, true, true, true, true, true, true, true, true, true, true, true, true, true, false, false, false, false, false] rfl (by kernel_rfl) (fun _ _ _ _ h => h) rfl rfl rfl rfl rfl rfl ?_
      refine ga_r (i := 34) #[true, true, true, true, true, true, true, true, true, true, true, true, true, true, true, true, true, true, true, true, true, true, true, true, true, true, true, true, true, true, true, true, true, true, true, false, false, false, false] rfl (by kernel_rfl) (by decide) rfl (r_pick0 rfl rfl) ?_
      refine ga_r (i := 35) #[true, true, true, true, true, true, true, true, true, true, true, true, true, true, true, true, true, true, true, true, true, true, true, true, true, true, true, true, true, true, true, true, true, true, true, true, false, false, false] rfl (by kernel_rfl) (by decide) rfl (r_move) ?_
      refine ga_no (i := 36) #[true, true, true, true, true, true, true, true, true, true, true, true, true, true, true, true, true, true, true, true, true, true, true, true, true, true, true, true, true, true, true, true, true, true, true, true, true, false, false] rfl (by kernel_rfl) (fun _ _ _ _ h => h) rfl rfl rfl rfl rfl rfl ?_
      refine ga_r (i := 37) #[true, true, true, true, true, true, true, true, true, true, true, true, true, true, true, true, true, true, true, true, true, true, true, true, true, true, true, true, true, true, true, true, true, true, true, true, true, true, false] rfl (by kernel_rfl) (by decide) rfl (r_pick0 rfl rfl) ?_
      refine ga_r (i := 38) #[true, true, true, true, true, true, true, true, true, true, true, true, true, true, true, true, true, true, true, true, true, true, true, true, true, true, true, true, true, true, true, true, true, true, true, true, true, true, true] rfl (by kernel_rfl) (by decide) rfl (r_assign) ?_
      refine ga_done (by kernel_rfl) ?_
      refine d_then ?_
      refine c_flat [(6, .bool false)] ⟨rfl, trivial⟩ (fun u => ?_)
      refine c_sta ⟨w0, M, (100150, g30, .cells #[.int .i64 x26.fTerm, .int .i64 x26.fKind, .string x26.fData] 35 (0, 0)) :: (100130, g25, .cells #[.int .i64 x21.fTerm, .int .i64 x21.fKind, .string x21.fData] 35 (0, 0)) :: (100030, g1, .cells #[.int .i64 x4.fBase, .int .i64 x4.fBaseTerm, .slice A6 x4.fEntries.length c7] 26 (0, 0)) :: H, (100570, ⟨.slice A62 x60.length c63, 35, 3, x60.length, x60.flatMap GEntry.enc⟩) :: (100530, ⟨.slice A57 x55.length c58, 35, 3, x55.length, x55.flatMap GEntry.enc⟩) :: R, φ9⟩ (fun _ h => h) ?_
      refine c_ret ?_
      replace hm := Option.some.inj hm
      subst hm
      refine d_retC () Try.results6 ?_ trivial (fun W h => ok_pre (H1 := [_, _, _]) (R1 := [_, _]) h (fun W hφ => (q9 _ hφ))) (.inr rfl)
      refine res_tmp ?_
      refine res_nil ?_
      exact rfl
    ·
     replace hm := ite_f hm (of_decide_eq_false h107)
     refine ga_no (i := 16) #[true, true, true, true, true, true, true, true, true, true, true, true, true, true, true, true, true, false, false, false, false, false, false, false, false, false, false, false, false, false, false, false, false, false, false, false, false, false, false] rfl (by kernel_rfl) (fun _ _ _ _ h => h) rfl rfl rfl rfl rfl h107 ?_
     refine ga_no (i := 17) #[true, true, true, true, true, true, true, true, true, true, true, true, true, true, true, true, true, true, false, false, false, false, false, false, false, false, false, false, false, false, false, false, false, false, false, false, false, false, false] rfl (by kernel_rfl) (fun _ _ _ _ h => h) rfl rfl rfl rfl rfl h107 ?_
     refine ga_no (i := 18) #[true, true, true, true, true, true, true, true, true, true, true, true, true, true, true, true, true, true, true, false, false, false, false, false, false, false, false, false, false, false, false, false, false, false, false, false, false, false, false] rfl (by kernel_rfl) (fun _ _ _ _ h => h) rfl rfl rfl rfl rfl h107 ?_
     refine ga_r (i := 19) #[true, true, true, true, true, true, true, true, true, true, true, true, true, true, true, true, true, true, true, true, false, false, false, false, false, false, false, false, false, false, false, false, false, false, false, false, false, false, false] rfl (by kernel_rfl) (by decide) rfl (r_pick0 rfl h107) ?_
     refine ga_r (i := 20) #[true, true, true, true, true, true, true, true, true, true, true, true, true, true, true, true, true, true, true, true, true, false, false, false, false, false, false, false, false, false, false, false, false, false, false, false, false, false, false] rfl (by kernel_rfl) (by decide) rfl (r_move) ?_
     refine ga_no (i := 21) #[true, true, true, true, true, true, true, true, true, true, true, true, true, true, true, true, true, true, true, true, true, true, false, false, false, false, false, false, false, false, false, false, false, false, false, false, false, false, false] rfl (by kernel_rfl) (fun _ _ _ _ h => h) rfl rfl rfl rfl rfl rfl ?_
     refine ga_no (i := 22) #[true, true, true, true, true, true, true, true, true, true, true, true, true, true, true, true, true, true, true, true, true, true, true, false, false, false, false, false, false, false, false, false, false, false, false, false, false, false, false] rfl (by kernel_rfl) (fun _ _ _ _ h => h) rfl rfl rfl rfl rfl rfl ?_
     refine ga_no (i := 23) #[true, true, true, true, true, true, true, true, true, true, true, true, true, true, true, true, true, true, true, true, true, true, true, true, false, false, false, false, false, false, false, false, false, false, false, false, false, false, false] rfl (by kernel_rfl) (fun _ _ _ _ h => h) rfl rfl rfl rfl rfl rfl ?_
     refine ga_r (i := 24) #[true, true, true, true, true, true, true, true, true, true, true, true, true, true, true, true, true, true, true, true, true, true, true, true, true, false, false, false, false, false, false, false, false, false, false, false, false, false, false] rfl (by kernel_rfl) (by decide) rfl (r_pick0 rfl rfl) ?_
     refine ga_r (i := 25) #[true, true, true, true, true, true, true, true, true, true, true, true, true, true, true, true, true, true, true, true, true, true, true, true, true, true, false, false, false, false, false, false, false, false, false, false, false, false, false] rfl (by kernel_rfl) (by decide) rfl (r_move) ?_
     refine ga_no (i := 26) #[true, true, true, true, true, true, true, true, true, true, true, true, true, true, true, true, true, true, true, true, true, true, true, true, true, true, true, false, false, false, false, false, false, false, false, false, false, false, false] rfl (by kernel_rfl) (fun _ _ _ _ h => h) rfl rfl rfl rfl rfl rfl ?_
     refine ga_no (i := 27) #[true, true, true, true, true, true, true, true, true, true, true, true, true, true, true, true, true, true, true, true, true, true, true, true, true, true, true, true, false, false, false, false, false, false, false, false, false, false, false] rfl (by kernel_rfl) (fun _ _ _ _ h => h) rfl rfl rfl rfl rfl rfl ?_
     refine ga_no (i := 28) #[true, true, true, true, true, true, true, true, true, true, true, true, true, true, true, true, true, true, true, true, true, true, true, true, true, true, true, true, true, false, false, false, false, false, false, false, false, false, false] rfl (by kernel_rfl) (fun _ _ _ _ h => h) rfl rfl rfl rfl rfl rfl ?_
     refine ga_r (i := 29) #[true, true, true, true, true, true, true, true, true, true, true, true, true, true, true, true, true, true, true, true, true, true, true, true, true, true, true, true, true, true, false, false, false, false, false, false, false, false, false] rfl (by kernel_rfl) (by decide) rfl (r_pick0 rfl rfl) ?_
     refine ga_r (i := 30) #[true, true, true, true, true, true, true, true, true, true, true, true, true, true, true, true, true, true, true, true, true, true, true, true, true, true, true, true, true, true, true, false, false, false, false, false, false, false, false] rfl (by kernel_rfl) (by decide) rfl (r_move) ?_
     refine ga_no (i := 31) #[true, true, true, true, true, true, true, true, true, true, true, true, true, true, true, true, true, true, true, true, true, true, true, true, true, true, true, true, true, true, true, true, false, false, false, false, false, false, false] rfl (by kernel_rfl) (fun _ _ _ _ h => h) rfl rfl rfl rfl rfl rfl ?_
     refine ga_no (i := 32) #[true, true, true, true, true, true, true, true, true, true, true, true, true, true, true, true, true, true, true, true, true, true, true, true, true, true, true, true, true, true, true, true, true, false, false, false, false, false, false] rfl (by kernel_rfl) (fun _ _ _ _ h => h) rfl rfl rfl rfl rfl rfl ?_
     refine ga_no (i := 33) #[true, true, true, true, true, true, true, true, true, true, true, true, true, true, true, true, true, true, true, true, true, true, true, true, true, true, true, true, true, true, true, true, true, true, false, false, false, false, false] rfl (by kernel_rfl) (fun _ _ _ _ h => h) rfl rfl rfl rfl rfl rfl ?_
     refine ga_r (i := 34) #[true, true, true, true, true, true, true, true, true, true, true, true, true, true, true, true, true, true, true, true, true, true, true, true, true, true, true, true, true, true, true, true, true, true, true, false, false, false, false] rfl (by kernel_rfl) (by decide) rfl (r_pick0 rfl rfl) ?_
     refine ga_r (i := 35) #[true, true, true, true, true, true, true, true, true, true, true, true, true, true, true, true, true, true, true, true, true, true, true, true, true, true, true, true, true, true, true, true, true, true, true, true, false, false, false] rfl (by kernel_rfl) (by decide) rfl (r_move) ?_
     refine ga_no (i := 36) #[true, true, true, true, true, true, true, true, true, true, true, true, true, true, true, true, true, true, true, true, true, true, true, true, true, true, true, true, true, true, true, true, true, true, true, true, true, false, false] rfl (by kernel_rfl) (fun _ _ _ _ h => h) rfl rfl rfl rfl rfl rfl ?_
     refine ga_r (i := 37) #[true, true, true, true, true, true, true, true, true, true, true, true, true, true, true, true, true, true, true, true, true, true, true, true, true, true, true, true, true, true, true, true, true, true, true, true, true, true, false] rfl (by kernel_rfl) (by decide) rfl (r_pick0 rfl rfl) ?_
     refine ga_r (i := 38) #[true, true, true, true, true, true, true, true, true, true, true, true, true, true, true, true, true, true, true, true, true, true, true, true, true, true, true, true, true, true, true, true, true, true, true, true, true, true, true] rfl (by kernel_rfl) (by decide) rfl (r_assign) ?_
     refine ga_done (by kernel_rfl) ?_
     refine d_then ?_
     refine c_flat [(6, .bool false)] ⟨rfl, trivial⟩ (fun u => ?_)
     refine c_sta ⟨w0, M, (100150, g30, .cells #[.int .i64 x26.fTerm, .int .i64 x26.fKind, .string x26.fData] 35 (0, 0)) :: (100130, g25, .cells #[.int .i64 x21.fTerm, .int .i64 x21.fKind, .string x21.fData] 35 (0, 0)) :: (100030, g1, .cells #[.int .i64 x4.fBase, .int .i64 x4.fBaseTerm, .slice A6 x4.fEntries.length c7] 26 (0, 0)) :: H, (100570, ⟨.slice A62 x60.length c63, 35, 3, x60.length, x60.flatMap GEntry.enc⟩) :: (100530, ⟨.slice A57 x55.length c58, 35, 3, x55.length, x55.flatMap GEntry.enc⟩) :: R, φ9⟩ (fun _ h => h) ?_
     refine c_ret ?_
     replace hm := Option.some.inj hm
     subst hm
     refine d_retC () Try.results6 ?_ trivial (fun W h => ok_pre (H1 := [_, _, _]) (R1 := [_, _]) h (fun W hφ => (q9 _ hφ))) (.inr rfl)
     refine res_tmp ?_
     refine res_nil ?_
     exact rfl
   ·
    replace hm := ite_f hm (of_decide_eq_false h102)
    refine ga_no (i := 9) #[true, true, true, true, true, true, true, true, true, true, false, false, false, false, false, false, false, false, false, false, false, false, false, false, false, false, false, false, false, false, false, false, false, false, false, false, false, false, false] rfl (by kernel_rfl) (fun _ _ _ _ h => h) rfl rfl rfl rfl rfl h102 ?_
    refine ga_no (i := 10) #[true, true, true, true, true, true, true, true, true, true, true, false, false, false, false, false, false, false, false, false, false, false, false, false, false, false, false, false, false, false, false, false, false, false, false, false, false, false, false] rfl (by kernel_rfl) (fun _ _ _ _ h => h) rfl rfl rfl rfl rfl h102 ?_
    refine ga_no (i := 11) #[true, true, true, true, true, true, true, true, true, true, true, true, false, false, false, false, false, false, false, false, false, false, false, false, false, false, false, false, false, false, false, false, false, false, false, false, false, false, false] rfl (by kernel_rfl) (fun _ _ _ _ h => h) rfl rfl rfl rfl rfl h102 ?_
    refine ga_no (i := 12) #[true, true, true, true, true, true, true, true, true, true, true, true, true, false, false, false, false, false, false, false, false, false, false, false, false, false, false, false, false, false, false, false, false, false, false, false, false, false, false] rfl (by kernel_rfl) (fun _ _ _ _ h => h) rfl rfl rfl rfl rfl h102 ?_
    refine ga_no (i := 13) #[true, true, true, true, true, true, true, true, true, true, true, true, true, true, false, false, false, false, false, false, false, false, false, false, false, false, false, false, false, false, false, false, false, false, false, false, false, false, false] rfl (by kernel_rfl) (fun _ _ _ _ h => h) rfl rfl rfl rfl rfl h102 ?_
    refine ga_r (i := 14) #[true, true, true, true, true, true, true, true, true, true, true, true, true, true, true, false, false, false, false, false, false, false, false, false, false, false, false, false, false, false, false, false, false, false, false, false, false, false, false] rfl (by kernel_rfl) (by decide) rfl (r_pick0 rfl h102) ?_
    refine ga_r (i := 15) #[true, true, true, true, true, true, true, true, true, true, true, true, true, true, true, true, false, false, false, false, false, false, false, false, false, false, false, false, false, false, false, false, false, false, false, false, false, false, false] rfl (by kernel_rfl) (by decide) rfl (r_move) ?_
    refine ga_no (i := 16) #[true, true, true, true, true, true, true, true, true, true, true, true, true, true, true, true, true, false, false, false, false, false, false, false, false, false, false, false, false, false, false, false, false, false, false, false, false, false, false] rfl (by kernel_rfl) (fun _ _ _ _ h => h) rfl rfl rfl rfl rfl rfl ?_
    refine ga_no (i := 17) #[true, true, true, true, true, true, true, true, true, true, true, true, true, true, true, true, true, true, false, false, false, false, false, false, false, false, false, false, false, false, false, false, false, false, false, false, false, false, false] rfl (by kernel_rfl) (fun _ _ _ _ h => h) rfl rfl rfl rfl rfl rfl ?_
    refine ga_no (i := 18) #[true, true, true, true, true, true, true, true, true, true, true, true, true, true, true, true, true, true, true, false, false, false, false, false, false, false, false, false, false, false, false, false, false, false, false, false, false, false, false] rfl (by kernel_rfl) (fun _ _ _ _ h => h) rfl rfl rfl rfl rfl rfl ?_
    refine ga_r (i := 19) #[true, true, true, true, true, true, true, true, true, true, true, true, true, true, true, true, true, true, true, true, false, false, false, false, false, false, false, false, false, false, false, false, false, false, false, false, false, false, false] rfl (by kernel_rfl) (by decide) rfl (r_pick0 rfl rfl) ?_
    refine ga_r (i := 20) #[true, true, true, true, true, true, true, true, true, true, true, true, true, true, true, true, true, true, true, true, true, false, false, false, false, false, false, false, false, false, false, false, false, false, false, false, false, false, false] rfl (by kernel_rfl) (by decide) rfl (r_move) ?_
    refine ga_no (i := 21) #[true, true, true, true, true, true, true, true, true, true, true, true, true, true, true, true, true, true, true, true, true, true, false, false, false, false, false, false, false, false, false, false, false, false, false, false, false, false, false] rfl (by kernel_rfl) (fun _ _ _ _ h => h) rfl rfl rfl rfl rfl rfl ?_
    refine ga_no (i := 22) #[true, true, true, true, true, true, true, true, true, true, true, true, true, true, true, true, true, true, true, true, true, true, true, false, false, false, false, false, false, false, false, false, false, false, false, false, false, false, false] rfl (by kernel_rfl) (fun _ _ _ _ h => h) rfl rfl rfl rfl rfl rfl ?_
    refine ga_no (i := 23) #[true, true, true, true, true, true, true, true, true, true, true, true, true, true, true, true, true, true, true, true, true, true, true, true, false, false, false, false, false, false, false, false, false, false, false, false, false, false, false] rfl (by kernel_rfl) (fun _ _ _ _ h => h) rfl rfl rfl rfl rfl rfl ?_
    refine ga_r (i := 24) #[true, true, true, true, true, true, true, true, true, true, true, true, true, true, true, true, true, true, true, true, true, true, true, true, true, false, false, false, false, false, false, false, false, false, false, false, false, false, false] rfl (by kernel_rfl) (by decide) rfl (r_pick0 rfl rfl) ?_
    refine ga_r (i := 25) #[true, true, true, true, true, true, true, true, true, true, true, true, true, true, true, true, true, true, true, true, true, true, true, true, true, true, false, false, false, false, false, false, false, false, false, false, false, false, false] rfl (by kernel_rfl) (by decide) rfl (r_move) ?_
    refine ga_no (i := 26) #[true, true, true, true, true, true, true, true, true, true, true, true, true, true, true, true, true, true, true, true, true, true, true, true, true, true, true, false, false, false, false, false, false, false, false, false, false, false, false] rfl (by kernel_rfl) (fun _ _ _ _ h => h) rfl rfl rfl rfl rfl rfl ?_
    refine ga_no (i := 27) #[true, true, true, true, true, true, true, true, true, true, true, true, true, true, true, true, true, true, true, true, true, true, true, true, true, true, true, true, false, false, false, false, false, false, false, false, false, false, false] rfl (by kernel_rfl) (fun _ _ _ _ h => h) rfl rfl rfl rfl rfl rfl ?_
    refine ga_no (i := 28) #[true, true, true, true, true, true, true, true, true, true, true, true, true, true, true, true, true, true, true, true, true, true, true, true, true, true, true, true, true, false, false, false, false, false, false, false, false, false, false] rfl (by kernel_rfl) (fun _ _ _ _ h => h) rfl rfl rfl rfl rfl rfl ?_
    refine ga_r (i := 29) #[true, true, true, true, true, true, true, true, true, true, true, true, true, true, true, true, true, true, true, true, true, true, true, true, true, true, true, true, true, true, false, false, false, false, false, false, false, false, false] rfl (by kernel_rfl) (by decide) rfl (r_pick0 rfl rfl) ?_
    refine ga_r (i := 30) #[true, true, true, true, true, true, true, true, true, true, true, true, true, true, true, true, true, true, true, true, true, true, true, true, true, true, true, true, true, true, true, false, false, false, false, false, false, false, false] rfl (by kernel_rfl) (by decide) rfl (r_move) ?_
    refine ga_no (i := 31) #[true, true, true, true, true, true, true, true, true, true, true, true, true, true, true, true, true, true, true, true, true, true, true, true, true, true, true, true, true, true, true, true, false, false, false, false, false, false, false] rfl (by kernel_rfl) (fun _ _ _ _ h => h) rfl rfl rfl rfl rfl rfl ?_
    refine ga_no (i := 32) #[true, true, true, true, true, true, true, true, true, true, true, true, true, true, true, true, true, true, true, true, true, true, true, true, true, true, true, true, true, true, true, true, true, false, false, false, false, false, false] rfl (by kernel_rfl) (fun _ _ _ _ h => h) rfl rfl rfl rfl rfl rfl ?_
    refine ga_no (i := 33) #[true, true, true, true, true, true, true, true, true, true, true, true, true, true, true, true, true, true, true, true, true, true, true, true, true, true, true, true, true, true, true, true, true, true, false, false, false, false, false] rfl (by kernel_rfl) (fun _ _ _ _ h => h) rfl rfl rfl rfl rfl rfl ?_
    refine ga_r (i := 34) #[true, true, true, true, true, true, true, true, true, true, true, true, true, true, true, true, true, true, true, true, true, true, true, true, true, true, true, true, true, true, true, true, true, true, true, false, false, false, false] rfl (by kernel_rfl) (by decide) rfl (r_pick0 rfl rfl) ?_
    refine ga_r (i := 35) #[true, true, true, true, true, true, true, true, true, true, true, true, true, true, true, true, true, true, true, true, true, true, true, true, true, true, true, true, true, true, true, true, true, true, true, true, false, false, false] rfl (by kernel_rfl) (by decide) rfl (r_move) ?_
    refine ga_no (i := 36) #[true, true, true, true, true, true, true, true, true, true, true, true, true, true, true, true, true, true, true, true, true, true, true, true, true, true, true, true, true, true, true, true, true, true, true, true, true, false, false] rfl (by kernel_rfl) (fun _ _ _ _ h => h) rfl rfl rfl rfl rfl rfl ?_
    refine ga_r (i := 37) #[true, true, true, true, true, true, true, true, true, true, true, true, true, true, true, true, true, true, true, true, true, true, true, true, true, true, true, true, true, true, true, true, true, true, true, true, true, true, false] rfl (by kernel_rfl) (by decide) rfl (r_pick0 rfl rfl) ?_
    refine ga_r (i := 38) #[true, true, true, true, true, true, true, true, true, true, true, true, true, true, true, true, true, true, true, true, true, true, true, true, true, true, true, true, true, true, true, true, true, true, true, true, true, true, true] rfl (by kernel_rfl) (by decide) rfl (r_assign) ?_
    refine ga_done (by kernel_rfl) ?_
    refine d_then ?_
    refine c_flat [(6, .bool false)] ⟨rfl, trivial⟩ (fun u => ?_)
    refine c_sta ⟨w0, M, (100150, g30, .cells #[.int .i64 x26.fTerm, .int .i64 x26.fKind, .string x26.fData] 35 (0, 0)) :: (100130, g25, .cells #[.int .i64 x21.fTerm, .int .i64 x21.fKind, .string x21.fData] 35 (0, 0)) :: (100030, g1, .cells #[.int .i64 x4.fBase, .int .i64 x4.fBaseTerm, .slice A6 x4.fEntries.length c7] 26 (0, 0)) :: H, (100570, ⟨.slice A62 x60.length c63, 35, 3, x60.length, x60.flatMap GEntry.enc⟩) :: (100530, ⟨.slice A57 x55.length c58, 35, 3, x55.length, x55.flatMap GEntry.enc⟩) :: R, φ9⟩ (fun _ h => h) ?_
    refine c_ret ?_
    replace hm := Option.some.inj hm
    subst hm
    refine d_retC () Try.results6 ?_ trivial (fun W h => ok_pre (H1 := [_, _, _]) (R1 := [_, _]) h (fun W hφ => (q9 _ hφ))) (.inr rfl)
    refine res_tmp ?_
    refine res_nil ?_
    exact rfl
  ·
   replace hm := ite_f hm (bool_nt h97)
   refine ga_no (i := 2) #[true, true, true, false, false, false, false, false, false, false, false, false, false, false, false, false, false, false, false, false, false, false, false, false, false, false, false, false, false, false, false, false, false, false, false, false, false, false, false] rfl (by kernel_rfl) (fun _ _ _ _ h => h) rfl rfl rfl rfl rfl h97 ?_
   refine ga_no (i := 3) #[true, true, true, true, false, false, false, false, false, false, false, false, false, false, false, false, false, false, false, false, false, false, false, false, false, false, false, false, false, false, false, false, false, false, false, false, false, false, false] rfl (by kernel_rfl) (fun _ _ _ _ h => h) rfl rfl rfl rfl rfl h97 ?_
   refine ga_no (i := 4) #[true, true, true, true, true, false, false, false, false, false, false, false, false, false, false, false, false, false, false, false, false, false, false, false, false, false, false, false, false, false, false, false, false, false, false, false, false, false, false] rfl (by kernel_rfl) (fun _ _ _ _ h => h) rfl rfl rfl rfl rfl h97 ?_
   refine ga_no (i := 5) #[true, true, true, true, true, true, false, false, false, false, false, false, false, false, false, false, false, false, false, false, false, false, false, false, false, false, false, false, false, false, false, false, false, false, false, false, false, false, false] rfl (by kernel_rfl) (fun _ _ _ _ h => h) rfl rfl rfl rfl rfl h97 ?_
   refine ga_no (i := 6) #[true, true, true, true, true, true, true, false, false, false, false, false, false, false, false, false, false, false, false, false, false, false, false, false, false, false, false, false, false, false, false, false, false, false, false, false, false, false, false] rfl (by kernel_rfl) (fun _ _ _ _ h => h) rfl rfl rfl rfl rfl h97 ?_
   refine ga_r (i := 7) #[true, true, true, true, true, true, true, true, false, false, false, false, false, false, false, false, false, false, false, false, false, false, false, false, false, false, false, false, false, false, false, false, false, false, false, false, false, false, false] rfl (by kernel_rfl) (by decide) rfl (r_pick0 rfl h97) ?_
   refine ga_r (i := 8) #[true, true, true, true, true, true, true, true, true, false, false, false, false, false, false, false, false, false, false, false, false, false, false, false, false, false, false, false, false, false, false, false, false, false, false, false, false, false, false] rfl (by kernel_rfl) (by decide) rfl (r_move) ?_
   refine ga_no (i := 9) #[true, true, true, true, true, true, true, true, true, true, false, false, false, false, false, false, false, false, false, false, false, false, false, false, false, false, false, false, false, false, false, false, false, false, false, false, false, false, false] rfl (by kernel_rfl) (fun _ _ _ _ h => h) rfl rfl rfl rfl rfl rfl ?_
   refine ga_no (i := 10) #[true, true, true, true, true, true, true, true, true, true, true, false, false, false, false, false, false, false, false, false, false, false, false, false, false, false, false, false, false, false, false, false, false, false, false, false, false, false, false] rfl (by kernel_rfl) (fun _ _ _ _ h => h) rfl rfl rfl rfl rfl rfl ?_
   refine ga_no (i := 11) #[true, true, true, true, true, true, true, true, true, true, true, true, false, false, false, false, false, false, false, false, false, false, false, false, false, false, false, false, false, false, false, false, false, false, false, false, false, false, false] rfl (by kernel_rfl) (fun _ _ _ _ h => h) rfl rfl rfl rfl rfl rfl ?_
   refine ga_no (i := 12) #[true, true, true, true, true, true, true, true, true, true, true, true, true, false, false, false, false, false, false, false, false, false, false, false, false, false, false, false, false, false, false, false, false, false, false, false, false, false, false] rfl (by kernel_rfl) (fun _ _ _ _ h => h) rfl rfl rfl rfl rfl rfl ?_
   refine ga_no (i := 13) #[true, true, true, true, true, true, true, true, true, true, true, true, true, true, false, false, false, false, false, false, false, false, false, false, false, false, false, false, false, false, false, false, false, false, false, false, false, false, false] rfl (by kernel_rfl) (fun _ _ _ _ h => h) rfl rfl rfl rfl rfl rfl ?_
   refine ga_r (i := 14) #[true, true, true, true, true, true, true, true, true, true, true, true, true, true, true, false, false, false, false, false, false, false, false, false, false, false, false, false, false, false, false, false, false, false, false, false, false, false, false] rfl (by kernel_rfl) (by decide) rfl (r_pick0 rfl rfl) ?_
   refine ga_r (i := 15) #[true, true, true, true, true, true, true, true, true, true, true, true, true, true, true, true, false, false, false, false, false, false, false, false, false, false, false, false, false, false, false, false, false, false, false, false, false, false, false] rfl (by kernel_rfl) (by decide) rfl (r_move) ?_
   refine ga_no (i := 16) #[true, true, true, true, true, true, true, true, true, true, true, true, true, true, true, true, true, false, false, false, false, false, false, false, false, false, false, false, false, false, false, false, false, false, false, false, false, false, false] rfl (by kernel_rfl) (fun _ _ _ _ h => h) rfl rfl rfl rfl rfl rfl ?_
   refine ga_no (i := 17) #[true, true, true, true, true, true, true, true, true, true, true, true, true, true, true, true, true, true, false, false, false, false, false, false, false, false, false, false, false, false, false, false, false, false, false, false, false, false, false] rfl (by kernel_rfl) (fun _ _ _ _ h => h) rfl rfl rfl rfl rfl rfl ?_
   refine ga_no (i := 18) #[true, true, true, true, true, true, true, true, true, true, true, true, true, true, true, true, true, true, true, false, false, false, false, false, false, false, false, false, false, false, false, false, false, false, false, false, false, false, false] rfl (by kernel_rfl) (fun _ _ _ _ h => h) rfl rfl rfl rfl rfl rfl ?_
   refine ga_r (i := 19) #[true, true, true, true, true, true, true, true, true, true, true, true, true, true, true, true, true, true, true, true, false, false, false, false, false, false, false, false, false, false, false, false, false, false, false, false, false, false, false] rfl (by kernel_rfl) (by decide) rfl (r_pick0 rfl rfl) ?_
   refine ga_r (i := 20) #[true, true, true, true, true, true, true, true, true, true, true, true, true, true, true, true, true, true, true, true, true, false, false, false, false, false, false, false, false, false, false, false, false, false, false, false, false, false, false] rfl (by kernel_rfl) (by decide) rfl (r_move) ?_
   refine ga_no (i := 21) #[true, true, true, true, true, true, true, true, true, true, true, true, true, true, true, true, true, true, true, true, true, true, false, false, false, false, false, false, false, false, false, false, false, false, false, false, false, false, false] rfl (by kernel_rfl) (fun _ _ _ _ h => h) rfl rfl rfl rfl rfl rfl ?_
   refine ga_no (i := 22) #[true, true, true, true, true, true, true, true, true, true, true, true, true, true, true, true, true, true, true, true, true, true, true, false, false, false, false, false, false, false, false, false, false, false, false, false, false, false, false] rfl (by kernel_rfl) (fun _ _ _ _ h => h) rfl rfl rfl rfl rfl rfl ?_
   refine ga_no (i := 23) #[true, true, true, true, true, true, true, true, true, true, true, true, true, true, true, true, true, true, true, true, true, true, true, true, false, false, false, false, false, false, false, false, false, false, false, false, false, false, false] rfl (by kernel_rfl) (fun _ _ _ _ h => h) rfl rfl rfl rfl rfl rfl ?_
   refine ga_r (i := 24) #[true, true, true, true, true, true, true, true, true, true, true, true, true, true, true, true, true, true, true, true, true, true, true, true, true, false, false, false, false, false, false, false, false, false, false, false, false, false, false] rfl (by kernel_rfl) (by decide) rfl (r_pick0 rfl rfl) ?_
   refine ga_r (i := 25) #[true, true, true, true, true, true, true, true, true, true, true, true, true, true, true, true, true, true, true, true, true, true, true, true, true, true, false, false, false, false, false, false, false, false, false, false, false, false, false] rfl (by kernel_rfl) (by decide) rfl (r_move) ?_
   refine ga_no (i := 26) #[true, true, true, true, true, true, true, true, true, true, true, true, true, true, true, true, true, true, true, true, true, true, true, true, true, true, true, false, false, false, false, false, false, false, false, false, false, false, false] rfl (by kernel_rfl) (fun _ _ _ _ h => h) rfl rfl rfl rfl rfl rfl ?_
   refine ga_no (i := 27) #[true, true, true, true, true, true, true, true, true, true, true, true, true, true, true, true, true, true, true, true, true, true, true, true, true, true, true, true, false, false, false, false, false, false, false, false, false, false, false] rfl (by kernel_rfl) (fun _ _ _ _ h => h) rfl rfl rfl rfl rfl rfl ?_
   refine ga_no (i := 28) #[true, true, true, true, true, true, true, true, true, true, true, true, true, true, true, true, true, true, true, true, true, true, true, true, true, true, true, true, true, false, false, false, false, false, false, false, false, false, false] rfl (by kernel_rfl) (fun _ _ _ _ h => h) rfl rfl rfl rfl rfl rfl ?_
   refine ga_r (i := 29) #[true, true, true, true, true, true, true, true, true, true, true, true, true, true, true, true, true, true, true, true, true, true, true, true, true, true, true, true, true, true, false, false, false, false, false, false, false, false, false] rfl (by kernel_rfl) (by decide) rfl (r_pick0 rfl rfl) ?_
   refine ga_r (i := 30) #[true, true, true, true, true, true, true, true, true, true, true, true, true, true, true, true, true, true, true, true, true, true, true, true, true, true, true, true, true, true, true, false, false, false, false, false, false, false, false] rfl (by kernel_rfl) (by decide) rfl (r_move) ?_
   refine ga_no (i := 31) #[true, true, true, true, true, true, true, true, true, true, true, true, true, true, true, true, true, true, true, true, true, true, true, true, true, true, true, true, true, true, true, true, false, false, false, false, false, false, false] rfl (by kernel_rfl) (fun _ _ _ _ h => h) rfl rfl rfl rfl rfl rfl ?_
   refine ga_no (i := 32) #[true, true, true, true, true, true, true, true, true, true, true, true, true, true, true, true, true, true, true, true, true, true, true, true, true, true, true, true, true, true, true, true, true, false, false, false, false, false, false] rfl (by kernel_rfl) (fun _ _ _ _ h => h) rfl rfl rfl rfl rfl rfl ?_
   refine ga_no (i := 33) #[true, true, true, true, true, true, true, true, true, true, true, true, true, true, true, true, true, true, true, true, true, true, true, true, true, true, true, true, true, true, true, true, true, true, false, false, false, false, false] rfl (by kernel_rfl) (fun _ _ _ _ h => h) rfl rfl rfl rfl rfl rfl ?_
   refine ga_r (i := 34) #[true, true, true, true, true, true, true, true, true, true, true, true, true, true, true, true, true, true, true, true, true, true, true, true, true, true, true, true, true, true, true, true, true, true, true, false, false, false, false] rfl (by kernel_rfl) (by decide) rfl (r_pick0 rfl rfl) ?_
   refine ga_r (i := 35) #[true, true, true, true, true, true, true, true, true, true, true, true, true, true, true, true, true, true, true, true, true, true, true, true, true, true, true, true, true, true, true, true, true, true, true, true, false, false, false] rfl (by kernel_rfl) (by decide) rfl (r_move) ?_
   refine ga_no (i := 36) #[true, true, true, true, true, true, true, true, true, true, true, true, true, true, true, true, true, true, true, true, true, true, true, true, true, true, true, true, true, true, true, true, true, true, true, true, true, false, false] rfl (by kernel_rfl) (fun _ _ _ _ h => h) rfl rfl rfl rfl rfl rfl ?_
   refine ga_r (i := 37) #[true, true, true, true, true, true, true, true, true, true, true, true, true, true, true, true, true, true, true, true, true, true, true, true, true, true, true, true, true, true, true, true, true, true, true, true, true, true, false] rfl (by kernel_rfl) (by decide) rfl (r_pick0 rfl rfl) ?_
   refine ga_r (i := 38) #[true, true, true, true, true, true, true, true, true, true, true, true, true, true, true, true, true, true, true, true, true, true, true, true, true, true, true, true, true, true, true, true, true, true, true, true, true, true, true] rfl (by kernel_rfl) (by decide) rfl (r_assign) ?_
   refine ga_done (by kernel_rfl) ?_
   refine d_then ?_
   refine c_flat [(6, .bool false)] ⟨rfl, trivial⟩ (fun u => ?_)
   refine c_sta ⟨w0, M, (100150, g30, .cells #[.int .i64 x26.fTerm, .int .i64 x26.fKind, .string x26.fData] 35 (0, 0)) :: (100130, g25, .cells #[.int .i64 x21.fTerm, .int .i64 x21.fKind, .string x21.fData] 35 (0, 0)) :: (100030, g1, .cells #[.int .i64 x4.fBase, .int .i64 x4.fBaseTerm, .slice A6 x4.fEntries.length c7] 26 (0, 0)) :: H, (100570, ⟨.slice A62 x60.length c63, 35, 3, x60.length, x60.flatMap GEntry.enc⟩) :: (100530, ⟨.slice A57 x55.length c58, 35, 3, x55.length, x55.flatMap GEntry.enc⟩) :: R, φ9⟩ (fun _ h => h) ?_
   refine c_ret ?_
   replace hm := Option.some.inj hm
   subst hm
   refine d_retC () Try.results6 ?_ trivial (fun W h => ok_pre (H1 := [_, _, _]) (R1 := [_, _]) h (fun W hφ => (q9 _ hφ))) (.inr rfl)
   refine res_tmp ?_
   refine res_nil ?_
   exact rfl
end Go.Proofs.Ytildknbbpkbkeaa
