import Derived.Test.YtildknbbpkbkeaaV5B
set_option maxRecDepth 16384
set_option maxHeartbeats 4000000
set_option linter.unusedVariables false
set_option linter.unusedSimpArgs false
namespace Go.Proofs.Ytildknbbpkbkeaa
open Go.RowKit Go.Proofs.YtildknbbpkbkeaaW.PrintLast
theorem lit35_10 (z0 : Int) (z1 : Int) (z2 : ByteArray) (z3 : Int) (z4 : Int) (z5 : ByteArray) : Try.prog.builtSlice 35 2 [(0, .agg #[.int .i64 z0, .int .i64 z1, .string z2]), (1, .agg #[.int .i64 z3, .int .i64 z4, .string z5])] = some #[.int .i64 z0, .int .i64 z1, .string z2, .int .i64 z3, .int .i64 z4, .string z5] := by kernel_rfl
noncomputable def m_law11_example  : Option GLog :=
  some (⟨2, 1, [(⟨1, 0, (⟨#[]⟩ : ByteArray)⟩ : GEntry), (⟨2, 0, (⟨#[]⟩ : ByteArray)⟩ : GEntry)]⟩ : GLog)
theorem c_law11_example {w0 : World} {M : Nat → Prop} {H : List (Nat × Nat × Obj)} {R : List (Nat × Row)} {φ : World → Prop}  (r : GLog) (hm : m_law11_example = some r) :
    Cn Try.prog 70 #[] ⟨w0, M, H, R, φ⟩ (fun x : Option Addr × Nat => .agg #[.int .i64 r.fBase, .int .i64 r.fBaseTerm, .slice x.1 r.fEntries.length x.2]) (fun x => r.fEntries.length ≤ x.2) (fun x => ⟨w0, M, H, R, fun W => φ W ∧ Cl W x.1 (r.fEntries.flatMap GEntry.enc)⟩) := by
 unfold m_law11_example at hm
 refine cn_intro (fn := Try.f70) (N := 5) Try.func70 rfl Try.ntmps70 rfl ?_
 refine c_seq ?_
 refine c_region ?_
 refine g_e rfl (e_alloc 100000 Try.zeroValue26) (fun g1 _ => ?_)
 refine g_nil ?_
 refine d_then ?_
 refine c_seq ?_
 refine c_region ?_
 refine g_v rfl (r_build _ rfl (bld35_4 _)) ?_
 refine g_v rfl (r_build _ rfl (bld35_4 _)) ?_
 refine g_e rfl (e_lit (tag := 100030) (l := [(⟨1, 0, (⟨#[]⟩ : ByteArray)⟩ : GEntry), (⟨2, 0, (⟨#[]⟩ : ByteArray)⟩ : GEntry)]) (enc := GEntry.enc) (sz := 3) rfl Try.underlying24 (lit35_10 _ _ _ _ _ _) rfl rfl (fun _ => rfl)) (fun g2 _ => ?_)
 refine g_v rfl (r_build _ rfl (bld26_9 _ _ _ _ _)) ?_
 refine g_storeL (tag := 100000) rfl rfl rfl rfl Try.sizeOf26 rfl rfl ?_
 refine g_nil ?_
 refine d_then ?_
 refine c_ret ?_
 replace hm := Option.some.inj hm
 subst hm
 refine d_shut (tag := 100030) rfl (fun φ3 q3' => ?_)
 have q3 : ∀ W, φ3 W → φ W := fun W h => (q3' W h).1
 have f4 := fun (W : World) (h : φ3 W) => (q3' W h).2
 refine d_retC (some ⟨g2, 0, none⟩, 2) Try.results70 ?_ (Nat.le_refl _) (fun W h => ok_pre (H1 := [_]) (R1 := []) h (fun W hφ => ⟨(q3 _ hφ), (fun W h => f4 W h) W hφ⟩)) (.inr rfl)
 refine res_agg (tag := 100000) rfl rfl Try.isAgg26 Try.sizeOf26 ?_
 refine res_nil ?_
 exact rfl

theorem bld35_11  : ∀ W, (Instr.build 35 #[]).run Try.prog W = .ok (.agg #[.int .i64 0, .int .i64 0, .string (⟨#[]⟩ : ByteArray)]) W := fun _ => by kernel_rfl
noncomputable def m_plog_Get (p0 : GLog) (p1 : Int) : Option (GEntry × Bool) :=
  if p1 ≤ p0.fBase then
    some ((⟨0, 0, (⟨#[]⟩ : ByteArray)⟩ : GEntry), false)
  else
    (m_plog_Last p0).bind fun x4 =>
    if x4 < p1 then
      some ((⟨0, 0, (⟨#[]⟩ : ByteArray)⟩ : GEntry), false)
    else
      (at_ p0.fEntries (w64 ((w64 (p1 - p0.fBase)) - 1))).bind fun x7 =>
      some (x7, true)
theorem c_plog_Get {w0 : World} {M : Nat → Prop} {H : List (Nat × Nat × Obj)} {R : List (Nat × Row)} {φ : World → Prop} (p0 : GLog) (Ap0_0 : Option Addr) (cp0_0 : Nat) (hcp0_0 : p0.fEntries.length ≤ cp0_0) (fp0_0 : ∀ W, (Sta.mk w0 M H R φ).ok W → Cl W Ap0_0 (p0.fEntries.flatMap GEntry.enc)) (p1 : Int) (r : GEntry × Bool) (hm : m_plog_Get p0 p1 = some r) :
    Cn Try.prog 21 #[.agg #[.int .i64 p0.fBase, .int .i64 p0.fBaseTerm, .slice Ap0_0 p0.fEntries.length cp0_0], .int .i64 p1] ⟨w0, M, H, R, φ⟩ (fun x : Unit => .tuple #[.agg #[.int .i64 r.1.fTerm, .int .i64 r.1.fKind, .string r.1.fData], .bool r.2]) (fun x => True) (fun x => ⟨w0, M, H, R, φ⟩) := by
 unfold m_plog_Get at hm
 refine cn_intro (fn := Try.f21) (N := 26) Try.func21 rfl Try.ntmps21 rfl ?_
 refine c_seq ?_
 refine c_region ?_
 refine g_e rfl (e_box 100020 rfl) (fun g1 _ => ?_)
 refine g_e rfl (e_alloc 100040 Try.zeroValue35) (fun g2 _ => ?_)
 refine g_v rfl r_assign ?_
 refine g_nil ?_
 refine d_then ?_
 refine c_seq ?_
 refine c_seq ?_
 refine c_region ?_
 refine g_v rfl r_move ?_
 refine g_v rfl (r_field (n := 0) Try.underlying26 rfl Try.sizeOf3 rfl rfl) ?_
 refine g_v rfl (r_load (tag := 100020) rfl rfl rfl Try.isAgg3) ?_
 refine g_v rfl (r_leq rfl rfl) ?_
 refine g_v rfl r_move ?_
 refine g_if rfl rfl rfl rfl rfl (fun h3 => ?_) (fun h3 => ?_)
 ·
  replace hm := ite_f hm (of_decide_eq_false h3)
  refine g_v rfl r_move ?_
  refine g_do rfl rfl rfl rfl rfl h3 ?_
  refine g_v rfl (r_loadA (tag := 100020) rfl rfl Try.isAgg26 Try.sizeOf26 rfl rfl) ?_
  refine g_do rfl rfl rfl rfl rfl h3 ?_
  replace hm := bnd hm
  obtain ⟨x4, hx5, hm⟩ := hm
  refine g_cn ⟨w0, M, _, _, φ⟩ (fun _ h => h) Try.call38 rfl rfl (c_plog_Last p0 Ap0_0 cp0_0 hcp0_0 (fun W hS => fp0_0 W (ok_pre (H1 := [_, _]) (R1 := []) hS (fun W h => h))) _ hx5) (fun _ _ => ?_)
  refine g_do rfl rfl rfl rfl rfl h3 ?_
  refine g_v rfl (r_gtr rfl rfl) ?_
  refine g_v rfl (r_pick0 rfl h3) ?_
  refine g_nil ?_
  refine d_then ?_
  refine c_flat [(1, .int .i64 p1), (2, .pointer (some ⟨g1, 0, none⟩)), (4, .pointer (some ⟨g2, 0, none⟩)), (15, .bool (decide (x4 < p1)))] ⟨rfl, rfl, rfl, rfl, trivial⟩ (fun u => ?_)
  refine c_sta ⟨w0, M, (100040, g2, .cells #[.int .i64 0, .int .i64 0, .string (⟨#[]⟩ : ByteArray)] 35 (0, 0)) :: (100020, g1, .cells #[.int .i64 p0.fBase, .int .i64 p0.fBaseTerm, .slice Ap0_0 p0.fEntries.length cp0_0] 26 (0, 0)) :: H, R, φ⟩ (fun _ h => h) ?_
  refine c_cond rfl (fun h6 => ?_) (fun h6 => ?_)
  ·
   replace hm := ite_t hm (of_decide_eq_true h6)
   refine c_seq ?_
   refine c_region ?_
   refine g_v rfl (r_build _ rfl (bld35_11)) ?_
   refine g_storeL (tag := 100040) rfl rfl rfl rfl Try.sizeOf35 rfl rfl ?_
   refine g_v rfl r_assign ?_
   refine g_nil ?_
   refine d_then ?_
   refine c_ret ?_
   refine d_ret_then ?_
   replace hm := Option.some.inj hm
   subst hm
   refine d_retC () Try.results21 ?_ trivial (fun W h => ok_pre (H1 := [_, _]) (R1 := []) h (fun W hφ => hφ)) (.inr rfl)
   refine res_agg (tag := 100040) rfl rfl Try.isAgg35 Try.sizeOf35 ?_
   refine res_tmp ?_
   refine res_nil ?_
   exact rfl
  ·
   replace hm := ite_f hm (of_decide_eq_false h6)
   refine c_skip ?_
   refine d_then ?_
   refine c_seq ?_
   refine c_region ?_
   refine g_v rfl (r_field (n := 2) Try.underlying26 rfl Try.sizeOf24 rfl rfl) ?_
   refine g_v rfl (r_load (tag := 100020) rfl rfl rfl Try.isAgg24) ?_
   refine g_v rfl r_move ?_
   refine g_v rfl (r_field (n := 0) Try.underlying26 rfl Try.sizeOf3 rfl rfl) ?_
   refine g_v rfl (r_load (tag := 100020) rfl rfl rfl Try.isAgg3) ?_
   refine g_v rfl (r_sub rfl rfl rfl) ?_
   refine g_v rfl (r_sub rfl rfl rfl) ?_
   replace hm := bnd hm
   obtain ⟨x7, hx7, hm⟩ := hm
   refine g_know _ (fun W hS => cl_at (p := (Sta.mk w0 M H R φ).ok) (sz := 3) (fun _ => rfl) (by decide) (ok_pre (H1 := [_, _]) (R1 := []) hS (fun W h => h)) fp0_0 hx7) ?_
   rintro ⟨ad8, hA10, f9⟩
   refine g_v rfl (r_ix Try.underlying24 Try.sizeOf35 rfl hA10 rfl hx7) ?_
   refine g_v rfl (r_ldA rfl Try.isAgg35 Try.sizeOf35 (fun W hS => (f9 W (ok_pre (H1 := [_, _]) (R1 := []) hS (fun W h => h))).take 3) rfl) ?_
   refine g_storeL (tag := 100040) rfl rfl rfl rfl Try.sizeOf35 rfl rfl ?_
   refine g_v rfl r_assign ?_
   refine g_nil ?_
   refine d_then ?_
   refine c_flat [(4, .pointer (some ⟨g2, 0, none⟩)), (5, .bool true)] ⟨rfl, rfl, trivial⟩ (fun u => ?_)
   refine c_sta ⟨w0, M, (100040, g2, .cells #[.int .i64 x7.fTerm, .int .i64 x7.fKind, .string x7.fData] 35 (0, 0)) :: (100020, g1, .cells #[.int .i64 p0.fBase, .int .i64 p0.fBaseTerm, .slice Ap0_0 p0.fEntries.length cp0_0] 26 (0, 0)) :: H, R, φ⟩ (fun _ h => h) ?_
   refine c_ret ?_
   replace hm := Option.some.inj hm
   subst hm
   refine d_retC () Try.results21 ?_ trivial (fun W h => ok_pre (H1 := [_, _]) (R1 := []) h (fun W hφ => hφ)) (.inr rfl)
   refine res_agg (tag := 100040) rfl rfl Try.isAgg35 Try.sizeOf35 ?_
   refine res_tmp ?_
   refine res_nil ?_
   exact rfl
 ·
  replace hm := ite_t hm (of_decide_eq_true h3)
  refine g_no rfl rfl rfl rfl rfl h3 ?_
  refine g_no rfl rfl rfl rfl rfl h3 ?_
  refine g_no rfl rfl rfl rfl rfl h3 ?_
  refine g_v rfl (r_pick1 rfl h3) ?_
  refine g_nil ?_
  refine d_then ?_
  refine c_flat [(1, .int .i64 p1), (2, .pointer (some ⟨g1, 0, none⟩)), (4, .pointer (some ⟨g2, 0, none⟩)), (15, .bool true)] ⟨rfl, rfl, rfl, rfl, trivial⟩ (fun u => ?_)
  refine c_sta ⟨w0, M, (100040, g2, .cells #[.int .i64 0, .int .i64 0, .string (⟨#[]⟩ : ByteArray)] 35 (0, 0)) :: (100020, g1, .cells #[.int .i64 p0.fBase, .int .i64 p0.fBaseTerm, .slice Ap0_0 p0.fEntries.length cp0_0] 26 (0, 0)) :: H, R, φ⟩ (fun _ h => h) ?_
  refine c_cond1 rfl rfl ?_
  refine c_seq ?_
  refine c_region ?_
  refine g_v rfl (r_build _ rfl (bld35_11)) ?_
  refine g_storeL (tag := 100040) rfl rfl rfl rfl Try.sizeOf35 rfl rfl ?_
  refine g_v rfl r_assign ?_
  refine g_nil ?_
  refine d_then ?_
  refine c_ret ?_
  refine d_ret_then ?_
  replace hm := Option.some.inj hm
  subst hm
  refine d_retC () Try.results21 ?_ trivial (fun W h => ok_pre (H1 := [_, _]) (R1 := []) h (fun W hφ => hφ)) (.inr rfl)
  refine res_agg (tag := 100040) rfl rfl Try.isAgg35 Try.sizeOf35 ?_
  refine res_tmp ?_
  refine res_nil ?_
  exact rfl

noncomputable def m_plog_Term (p0 : GLog) (p1 : Int) : Option (Int × Bool) :=
  if p1 = p0.fBase then
    some (p0.fBaseTerm, true)
  else
    (m_plog_Get p0 p1).bind fun (z6 : GEntry × Bool) =>
    some (z6.1.fTerm, z6.2)
theorem c_plog_Term {w0 : World} {M : Nat → Prop} {H : List (Nat × Nat × Obj)} {R : List (Nat × Row)} {φ : World → Prop} (p0 : GLog) (Ap0_0 : Option Addr) (cp0_0 : Nat) (hcp0_0 : p0.fEntries.length ≤ cp0_0) (fp0_0 : ∀ W, (Sta.mk w0 M H R φ).ok W → Cl W Ap0_0 (p0.fEntries.flatMap GEntry.enc)) (p1 : Int) (r : Int × Bool) (hm : m_plog_Term p0 p1 = some r) :
    Cn Try.prog 31 #[.agg #[.int .i64 p0.fBase, .int .i64 p0.fBaseTerm, .slice Ap0_0 p0.fEntries.length cp0_0], .int .i64 p1] ⟨w0, M, H, R, φ⟩ (fun x : Unit => .tuple #[.int .i64 r.1, .bool r.2]) (fun x => True) (fun x => ⟨w0, M, H, R, φ⟩) := by
 unfold m_plog_Term at hm
 refine cn_intro (fn := Try.f31) (N := 23) Try.func31 rfl Try.ntmps31 rfl ?_
 refine c_seq ?_
 refine c_region ?_
 refine g_e rfl (e_box 100020 rfl) (fun g1 _ => ?_)
 refine g_v rfl r_assign ?_
 refine g_v rfl r_assign ?_
 refine g_nil ?_
 refine d_then ?_
 refine c_seq ?_
 refine c_seq ?_
 refine c_region ?_
 refine g_v rfl r_move ?_
 refine g_v rfl (r_field (n := 0) Try.underlying26 rfl Try.sizeOf3 rfl rfl) ?_
 refine g_v rfl (r_load (tag := 100020) rfl rfl rfl Try.isAgg3) ?_
 refine g_v rfl (r_eql rfl rfl) ?_
 refine g_nil ?_
 refine d_then ?_
 refine c_cond rfl (fun h2 => ?_) (fun h2 => ?_)
 ·
  replace hm := ite_t hm (of_decide_eq_true h2)
  refine c_seq ?_
  refine c_region ?_
  refine g_v rfl (r_field (n := 1) Try.underlying26 rfl Try.sizeOf3 rfl rfl) ?_
  refine g_v rfl (r_load (tag := 100020) rfl rfl rfl Try.isAgg3) ?_
  refine g_v rfl r_assign ?_
  refine g_v rfl r_assign ?_
  refine g_nil ?_
  refine d_then ?_
  refine c_flat [(4, .int .i64 p0.fBaseTerm), (5, .bool true)] ⟨rfl, rfl, trivial⟩ (fun u => ?_)
  refine c_sta ⟨w0, M, (100020, g1, .cells #[.int .i64 p0.fBase, .int .i64 p0.fBaseTerm, .slice Ap0_0 p0.fEntries.length cp0_0] 26 (0, 0)) :: H, R, φ⟩ (fun _ h => h) ?_
  refine c_ret ?_
  refine d_ret_then ?_
  replace hm := Option.some.inj hm
  subst hm
  refine d_retC () Try.results31 ?_ trivial (fun W h => ok_pre (H1 := [_]) (R1 := []) h (fun W hφ => hφ)) (.inr rfl)
  refine res_tmp ?_
  refine res_tmp ?_
  refine res_nil ?_
  exact rfl
 ·
  replace hm := ite_f hm (of_decide_eq_false h2)
  refine c_skip ?_
  refine d_then ?_
  refine c_seq ?_
  refine c_region ?_
  refine g_v rfl (r_loadA (tag := 100020) rfl rfl Try.isAgg26 Try.sizeOf26 rfl rfl) ?_
  refine g_v rfl r_move ?_
  replace hm := bnd hm
  obtain ⟨⟨x3, x4⟩, hx5, hm⟩ := hm
  refine g_cn ⟨w0, M, _, _, φ⟩ (fun _ h => h) Try.call21 rfl rfl (c_plog_Get p0 Ap0_0 cp0_0 hcp0_0 (fun W hS => fp0_0 W (ok_pre (H1 := [_]) (R1 := []) hS (fun W h => h))) p1 _ hx5) (fun _ _ => ?_)
  refine g_v rfl r_move ?_
  refine g_v rfl (r_extract rfl rfl) ?_
  refine g_v rfl (r_extract rfl rfl) ?_
  refine g_e rfl (e_alloc 100060 Try.zeroValue35) (fun g7 _ => ?_)
  refine g_storeL (tag := 100060) rfl rfl rfl rfl Try.sizeOf35 rfl rfl ?_
  refine g_v rfl r_assign ?_
  refine g_nil ?_
  refine d_then ?_
  refine c_flat [(6, .pointer (some ⟨g7, 0, none⟩)), (7, .bool x4)] ⟨rfl, rfl, trivial⟩ (fun u => ?_)
  refine c_sta ⟨w0, M, (100060, g7, .cells #[.int .i64 x3.fTerm, .int .i64 x3.fKind, .string x3.fData] 35 (0, 0)) :: (100020, g1, .cells #[.int .i64 p0.fBase, .int .i64 p0.fBaseTerm, .slice Ap0_0 p0.fEntries.length cp0_0] 26 (0, 0)) :: H, R, φ⟩ (fun _ h => h) ?_
  refine c_seq ?_
  refine c_region ?_
  refine g_v rfl (r_field (n := 0) Try.underlying35 rfl Try.sizeOf3 rfl rfl) ?_
  refine g_v rfl (r_load (tag := 100060) rfl rfl rfl Try.isAgg3) ?_
  refine g_v rfl r_move ?_
  refine g_v rfl r_assign ?_
  refine g_v rfl r_assign ?_
  refine g_nil ?_
  refine d_then ?_
  refine c_ret ?_
  replace hm := Option.some.inj hm
  subst hm
  refine d_retC () Try.results31 ?_ trivial (fun W h => ok_pre (H1 := [_, _]) (R1 := []) h (fun W hφ => hφ)) (.inr rfl)
  refine res_tmp ?_
  refine res_tmp ?_
  refine res_nil ?_
  exact rfl

noncomputable def m_plog_Put_j1 (p0 : GLog) : Option (GLog × Int) :=
  some (p0, 0)
noncomputable def m_plog_Put_s2 (p2 : List GEntry) (p0 : GLog) (p1 : Int) (i303 : Int) : Option (Int ⊕ (Unit ⊕ (GLog × Int))) :=
  if i303 < (p2.length : Int) then
    (at_ p2 i303).bind fun x404 =>
    (m_plog_Term p0 (w64 ((w64 (p1 + 1)) + i303))).bind fun (z412 : Int × Bool) =>
    if p0.fBase < w64 ((w64 (p1 + 1)) + i303) then
      if z412.2 = true then
        if z412.1 ≠ x404.fTerm then
          (cutLo p2 i303).bind fun l445 =>
          (m_plog_upto p0 (w64 ((w64 ((w64 (p1 + 1)) + i303)) - 1))).bind fun x446 =>
          (m_plog_Add x446 l445).bind fun x452 =>
          some (.inr (.inr (x452, w64 ((w64 (p1 + 1)) + i303))))
        else
          some (.inl (w64 (i303 + 1)))
      else
        (cutLo p2 i303).bind fun l488 =>
        (m_plog_upto p0 (w64 ((w64 ((w64 (p1 + 1)) + i303)) - 1))).bind fun x489 =>
        (m_plog_Add x489 l488).bind fun x495 =>
        some (.inr (.inr (x495, w64 ((w64 (p1 + 1)) + i303))))
    else
      some (.inl (w64 (i303 + 1)))
  else
    some (.inr (.inl ()))
noncomputable def m_plog_Put (p0 : GLog) (p1 : Int) (p2 : List GEntry) : Option (GLog × Int) :=
  if p1 < 0 then
    some (p0, 0)
  else
    (m_plog_Last p0).bind fun x4 =>
    if x4 < p1 then
      some (p0, 0)
    else
      (loop (fun s => m_plog_Put_s2 p2 p0 p1 s) 0).bind fun e => Sum.elim (fun e => m_plog_Put_j1 p0) (fun x => some x) e
theorem c_plog_Put {w0 : World} {M : Nat → Prop} {H : List (Nat × Nat × Obj)} {R : List (Nat × Row)} {φ : World → Prop} (p0 : GLog) (Ap0_0 : Option Addr) (cp0_0 : Nat) (hcp0_0 : p0.fEntries.length ≤ cp0_0) (fp0_0 : ∀ W, φ W → Cl W Ap0_0 (p0.fEntries.flatMap GEntry.enc)) (p1 : Int) (p2 : List GEntry) (Ap2_0 : Option Addr) (cp2_0 : Nat) (hcp2_0 : p2.length ≤ cp2_0) (fp2_0 : ∀ W, φ W → Cl W Ap2_0 (p2.flatMap GEntry.enc)) (r : GLog × Int) (hm : m_plog_Put p0 p1 p2 = some r) :
    Cn Try.prog 20 #[.agg #[.int .i64 p0.fBase, .int .i64 p0.fBaseTerm, .slice Ap0_0 p0.fEntries.length cp0_0], .int .i64 p1, .slice Ap2_0 p2.length cp2_0] ⟨w0, M, H, R, φ⟩ (fun x : Option Addr × Nat => .tuple #[.agg #[.int .i64 r.1.fBase, .int .i64 r.1.fBaseTerm, .slice x.1 r.1.fEntries.length x.2], .int .i64 r.2]) (fun x => r.1.fEntries.length ≤ x.2) (fun x => ⟨w0, M, H, R, fun W => φ W ∧ Cl W x.1 (r.1.fEntries.flatMap GEntry.enc)⟩) := by
 unfold m_plog_Put at hm
 refine cn_intro (fn := Try.f20) (N := 64) Try.func20 rfl Try.ntmps20 rfl ?_
 refine c_seq ?_
 refine c_region ?_
 refine g_e rfl (e_box 100030 rfl) (fun g1 _ => ?_)
 refine g_e rfl (e_alloc 100060 Try.zeroValue26) (fun g2 _ => ?_)
 refine g_v rfl r_assign ?_
 refine g_nil ?_
 refine d_then ?_
 refine c_seq ?_
 refine c_seq ?_
 refine c_region ?_
 refine g_v rfl r_move ?_
 refine g_v rfl (r_lss rfl rfl) ?_
 refine g_v rfl r_move ?_
 refine g_if rfl rfl rfl rfl rfl (fun h3 => ?_) (fun h3 => ?_)
 ·
  replace hm := ite_f hm (of_decide_eq_false h3)
  refine g_v rfl r_move ?_
  refine g_do rfl rfl rfl rfl rfl h3 ?_
  refine g_v rfl (r_loadA (tag := 100030) rfl rfl Try.isAgg26 Try.sizeOf26 rfl rfl) ?_
  refine g_do rfl rfl rfl rfl rfl h3 ?_
  replace hm := bnd hm
  obtain ⟨x4, hx5, hm⟩ := hm
  refine g_cn ⟨w0, M, _, _, φ⟩ (fun _ h => h) Try.call38 rfl rfl (c_plog_Last p0 Ap0_0 cp0_0 hcp0_0 (fun W hS => fp0_0 W hS.now) _ hx5) (fun _ _ => ?_)
  refine g_do rfl rfl rfl rfl rfl h3 ?_
  refine g_v rfl (r_gtr rfl rfl) ?_
  refine g_v rfl (r_pick0 rfl h3) ?_
  refine g_nil ?_
  refine d_then ?_
  refine c_flat [(1, .int .i64 p1), (2, .slice Ap2_0 p2.length cp2_0), (3, .pointer (some ⟨g1, 0, none⟩)), (6, .pointer (some ⟨g2, 0, none⟩)), (20, .bool (decide (x4 < p1)))] ⟨rfl, rfl, rfl, rfl, rfl, trivial⟩ (fun u => ?_)
  refine c_sta ⟨w0, M, (100060, g2, .cells #[.int .i64 0, .int .i64 0, .slice none 0 0] 26 (0, 0)) :: (100030, g1, .cells #[.int .i64 p0.fBase, .int .i64 p0.fBaseTerm, .slice Ap0_0 p0.fEntries.length cp0_0] 26 (0, 0)) :: H, R, φ⟩ (fun _ h => h) ?_
  refine c_cond rfl (fun h6 => ?_) (fun h6 => ?_)
  ·
   replace hm := ite_t hm (of_decide_eq_true h6)
   refine c_seq ?_
   refine c_region ?_
   refine g_v rfl (r_loadA (tag := 100030) rfl rfl Try.isAgg26 Try.sizeOf26 rfl rfl) ?_
   refine g_storeL (tag := 100060) rfl rfl rfl rfl Try.sizeOf26 rfl rfl ?_
   refine g_v rfl r_assign ?_
   refine g_nil ?_
   refine d_then ?_
   refine c_ret ?_
   refine d_ret_then ?_
   replace hm := Option.some.inj hm
   subst hm
   refine d_retC (Ap0_0, cp0_0) Try.results20 ?_ hcp0_0 (fun W h => ok_pre (H1 := [_, _]) (R1 := []) h (fun W hφ => ⟨hφ, (fun W h => fp0_0 W h) W hφ⟩)) (.inr rfl)
   refine res_agg (tag := 100060) rfl rfl Try.isAgg26 Try.sizeOf26 ?_
   refine res_tmp ?_
   refine res_nil ?_
   exact rfl
  ·
   replace hm := ite_f hm (of_decide_eq_false h6)
   refine c_skip ?_
   refine d_then ?_
   refine c_seq ?_
   refine c_seq ?_
   refine c_region ?_
   refine g_v rfl r_move ?_
   refine g_v rfl (r_lenL Try.underlying24 rfl) ?_
   refine g_v rfl r_move ?_
   refine g_nil ?_
   refine d_then ?_
   refine c_cut (ι := Unit) [3, 6] (fun _ => []) (fun _ => ⟨w0, M, (100060, g2, .cells #[.int .i64 0, .int .i64 0, .slice none 0 0] 26 (0, 0)) :: (100030, g1, .cells #[.int .i64 p0.fBase, .int .i64 p0.fBaseTerm, .slice Ap0_0 p0.fEntries.length cp0_0] 26 (0, 0)) :: H, R, φ⟩) (fun _ => m_plog_Put_j1 p0 = some r) ?_ (fun _ u hm => ?_)
   ·
    refine c_block ?_
    replace hm := bnd hm
    obtain ⟨out2, hl2, hr2⟩ := hm
    obtain ⟨n402', hl2⟩ := loop_lp hl2
    refine c_loopU (ι := Nat × Int) [1, 2, 3, 6, 22, 23, 24] (fun ⟨n402, i303⟩ => [(24, .int .i64 i303)]) (fun ⟨n402, i303⟩ => ⟨w0, M, (100060, g2, .cells #[.int .i64 0, .int .i64 0, .slice none 0 0] 26 (0, 0)) :: (100030, g1, .cells #[.int .i64 p0.fBase, .int .i64 p0.fBaseTerm, .slice Ap0_0 p0.fEntries.length cp0_0] 26 (0, 0)) :: H, R, φ⟩) (fun ⟨n402, i303⟩ => Lp (fun s => m_plog_Put_s2 p2 p0 p1 s) n402 i303 out2) (fun ⟨n402, i303⟩ => n402) (n402', 0) hl2 ⟨rfl, rfl, rfl, rfl, rfl, rfl, rfl, trivial⟩ (fun W h => h.phi (fun W hφ => hφ)) (fun ⟨n402, i303⟩ u hlp => ?_)
    obtain ⟨o2, hm, hnx2⟩ := lp_step hlp
    clear hlp
    replace hm : m_plog_Put_s2 p2 p0 p1 i303 = some o2 := hm
    unfold m_plog_Put_s2 at hm
    refine c_flat [(1, .int .i64 p1), (2, .slice Ap2_0 p2.length cp2_0), (3, .pointer (some ⟨g1, 0, none⟩)), (6, .pointer (some ⟨g2, 0, none⟩)), (22, .slice Ap2_0 p2.length cp2_0), (23, .int .i64 (p2.length : Int)), (24, .int .i64 i303)] ⟨rfl, rfl, rfl, rfl, rfl, rfl, rfl, trivial⟩ (fun u => ?_)
    refine c_sta ⟨w0, M, (100060, g2, .cells #[.int .i64 0, .int .i64 0, .slice none 0 0] 26 (0, 0)) :: (100030, g1, .cells #[.int .i64 p0.fBase, .int .i64 p0.fBaseTerm, .slice Ap0_0 p0.fEntries.length cp0_0] 26 (0, 0)) :: H, R, φ⟩ (fun _ h => h) ?_
    refine c_seq ?_
    refine c_region ?_
    refine g_v rfl (r_lss rfl rfl) ?_
    refine g_nil ?_
    refine d_then ?_
    refine c_seq ?_
    refine c_cond rfl (fun h403 => ?_) (fun h403 => ?_)
    ·
     replace hm := ite_t hm (of_decide_eq_true h403)
     refine c_skip ?_
     refine d_then ?_
     refine c_seq ?_
     refine c_block ?_
     refine c_seq ?_
     refine c_region ?_
     refine g_v rfl r_move ?_
     replace hm := bnd hm
     obtain ⟨x404, hx404, hm⟩ := hm
     refine g_know _ (fun W hS => cl_at (p := φ) (sz := 3) (fun _ => rfl) (by decide) hS.now fp2_0 hx404) ?_
     rintro ⟨ad405, hA407, f406⟩
     refine g_v rfl (r_ix Try.underlying24 Try.sizeOf35 rfl hA407 rfl hx404) ?_
     refine g_v rfl (r_ldA rfl Try.isAgg35 Try.sizeOf35 (fun W hS => (f406 W hS.now).take 3) rfl) ?_
     refine g_e rfl (e_alloc 100090 Try.zeroValue35) (fun g408 _ => ?_)
     refine g_v rfl r_assign ?_
     refine g_storeL (tag := 100090) rfl rfl rfl rfl Try.sizeOf35 rfl rfl ?_
     refine g_nil ?_
     refine d_then ?_
     refine c_seq ?_
     refine c_region ?_
     refine g_v rfl r_move ?_
     refine g_v rfl (r_add rfl rfl rfl) ?_
     refine g_v rfl r_move ?_
     refine g_v rfl (r_add rfl rfl rfl) ?_
     refine g_v rfl r_assign ?_
     refine g_nil ?_
     refine d_then ?_
     refine c_flat [(1, .int .i64 p1), (2, .slice Ap2_0 p2.length cp2_0), (3, .pointer (some ⟨g1, 0, none⟩)), (6, .pointer (some ⟨g2, 0, none⟩)), (8, .int .i64 i303), (9, .pointer (some ⟨g408, 0, none⟩)), (10, .int .i64 (w64 ((w64 (p1 + 1)) + i303))), (22, .slice Ap2_0 p2.length cp2_0), (23, .int .i64 (p2.length : Int)), (24, .int .i64 i303)] ⟨rfl, rfl, rfl, rfl, rfl, rfl, rfl, rfl, rfl, rfl, trivial⟩ (fun u => ?_)
     refine c_sta ⟨w0, M, (100090, g408, .cells #[.int .i64 x404.fTerm, .int .i64 x404.fKind, .string x404.fData] 35 (0, 0)) :: (100060, g2, .cells #[.int .i64 0, .int .i64 0, .slice none 0 0] 26 (0, 0)) :: (100030, g1, .cells #[.int .i64 p0.fBase, .int .i64 p0.fBaseTerm, .slice Ap0_0 p0.fEntries.length cp0_0] 26 (0, 0)) :: H, R, φ⟩ (fun _ h => h) ?_
     refine c_seq ?_
     refine c_region ?_
     refine g_v rfl (r_loadA (tag := 100030) rfl rfl Try.isAgg26 Try.sizeOf26 rfl rfl) ?_
     refine g_v rfl r_move ?_
     replace hm := bnd hm
     obtain ⟨⟨x409, x410⟩, hx411, hm⟩ := hm
     refine g_cn ⟨w0, M, _, _, φ⟩ (fun _ h => h) Try.call31 rfl rfl (c_plog_Term p0 Ap0_0 cp0_0 hcp0_0 (fun W hS => fp0_0 W hS.now) (w64 ((w64 (p1 + 1)) + i303)) _ hx411) (fun _ _ => ?_)
     refine g_v rfl r_move ?_
     refine g_v rfl (r_extract rfl rfl) ?_
     refine g_v rfl (r_extract rfl rfl) ?_
     refine g_v rfl r_assign ?_
     refine g_v rfl r_assign ?_
     refine g_nil ?_
     refine d_then ?_
     refine c_seq ?_
     refine c_region ?_
     refine g_v rfl r_move ?_
     refine g_v rfl (r_field (n := 0) Try.underlying26 rfl Try.sizeOf3 rfl rfl) ?_
     refine g_v rfl (r_load (tag := 100030) rfl rfl rfl Try.isAgg3) ?_
     refine g_v rfl (r_gtr rfl rfl) ?_
     refine g_v rfl r_move ?_
     refine g_if rfl rfl rfl rfl rfl (fun h413 => ?_) (fun h413 => ?_)
     ·
      replace hm := ite_t hm (of_decide_eq_true h413)
      refine g_v rfl r_move ?_
      refine g_do rfl rfl rfl rfl rfl h413 ?_
      refine g_v rfl (r_not rfl) ?_
      refine g_do rfl rfl rfl rfl rfl h413 ?_
      refine g_v rfl r_move ?_
      refine g_if rfl rfl rfl rfl rfl (fun h414 => ?_) (fun h414 => ?_)
      ·
       have h414' : x410 = true := by revert h414; cases x410 <;> simp
       replace hm := ite_t hm h414'
       refine g_v rfl r_move ?_
       refine g_do rfl rfl rfl rfl rfl h414 ?_
       refine g_v rfl (r_field (n := 0) Try.underlying35 rfl Try.sizeOf3 rfl rfl) ?_
       refine g_do rfl rfl rfl rfl rfl h414 ?_
       refine g_v rfl (r_load (tag := 100090) rfl rfl rfl Try.isAgg3) ?_
       refine g_do rfl rfl rfl rfl rfl h414 ?_
       refine g_v rfl (r_neq rfl rfl) ?_
       refine g_do rfl rfl rfl rfl rfl h413 ?_
       refine g_v rfl (r_pick0 rfl h414) ?_
       refine g_v rfl (r_pick1 rfl h413) ?_
       refine g_nil ?_
       refine d_then ?_
       refine c_flat [(1, .int .i64 p1), (2, .slice Ap2_0 p2.length cp2_0), (3, .pointer (some ⟨g1, 0, none⟩)), (6, .pointer (some ⟨g2, 0, none⟩)), (8, .int .i64 i303), (10, .int .i64 (w64 ((w64 (p1 + 1)) + i303))), (22, .slice Ap2_0 p2.length cp2_0), (23, .int .i64 (p2.length : Int)), (24, .int .i64 i303), (52, .bool (decide (x409 ≠ x404.fTerm)))] ⟨rfl, rfl, rfl, rfl, rfl, rfl, rfl, rfl, rfl, rfl, trivial⟩ (fun u => ?_)
       refine c_sta ⟨w0, M, (100090, g408, .cells #[.int .i64 x404.fTerm, .int .i64 x404.fKind, .string x404.fData] 35 (0, 0)) :: (100060, g2, .cells #[.int .i64 0, .int .i64 0, .slice none 0 0] 26 (0, 0)) :: (100030, g1, .cells #[.int .i64 p0.fBase, .int .i64 p0.fBaseTerm, .slice Ap0_0 p0.fEntries.length cp0_0] 26 (0, 0)) :: H, R, φ⟩ (fun _ h => h) ?_
       refine c_cond rfl (fun h415 => ?_) (fun h415 => ?_)
       ·
        replace hm := ite_t hm (of_decide_eq_true h415)
        refine c_seq ?_
        refine ga_start (n := 11) ⟨w0, M, (100090, g408, .cells #[.int .i64 x404.fTerm, .int .i64 x404.fKind, .string x404.fData] 35 (0, 0)) :: (100060, g2, .cells #[.int .i64 0, .int .i64 0, .slice none 0 0] 26 (0, 0)) :: (100030, g1, .cells #[.int .i64 p0.fBase, .int .i64 p0.fBaseTerm, .slice Ap0_0 p0.fEntries.length cp0_0] 26 (0, 0)) :: H, R, φ⟩ [9] #[false, false, false, false, false, false, false, false, false, false, false] (fun W h => h.phi (fun W hφ => hφ)) mixed rfl rfl ?_
        refine ga_v (i := 0) #[true, false, false, false, false, false, false, false, false, false, false] rfl (by kernel_rfl) (fun _ _ _ _ h => h) rfl (r_loadA (tag := 100030) rfl rfl Try.isAgg26 Try.sizeOf26 rfl rfl) ?_
        refine ga_v (i := 1) #[true, true, false, false, false, false, false, false, false, false, false] rfl (by kernel_rfl) (fun _ _ _ _ h => h) rfl (r_move) ?_
        refine ga_v (i := 2) #[true, true, true, false, false, false, false, false, false, false, false] rfl (by kernel_rfl) (fun _ _ _ _ h => h) rfl (r_sub rfl rfl rfl) ?_
        refine ga_v (i := 4) #[true, true, true, false, true, false, false, false, false, false, false] rfl (by kernel_rfl) (fun _ _ _ _ h => h) rfl (r_move) ?_
        refine ga_v (i := 5) #[true, true, true, false, true, true, false, false, false, false, false] rfl (by kernel_rfl) (fun _ _ _ _ h => h) rfl (r_move) ?_
        replace hm := bnd hm
        obtain ⟨l445, hl445, hm⟩ := hm
        have f444 := fun (W : World) (h : φ W) => cl_cutLo (enc := GEntry.enc) (sz := 3) (c := cp2_0) (fun _ => rfl) hcp2_0 hl445 (fp2_0 W h)
        refine ga_v (i := 6) #[true, true, true, false, true, true, true, false, false, false, false] rfl (by kernel_rfl) (fun _ _ _ _ h => h) rfl (r_lcutLo Try.underlying24 Try.sizeOf35 rfl hcp2_0 rfl hl445) ?_
        refine ga_p (i := 8) #[true, true, true, false, true, true, true, false, true, false, false] rfl (.inl rfl) (by kernel_rfl) (fun _ _ _ _ h => h) rfl ?_
        replace hm := bnd hm
        obtain ⟨x446, hx447, hm⟩ := hm
        refine ga_cn (first := #[]) (i := 3) #[true, true, true, true, true, true, true, false, true, false, false] rfl (by kernel_rfl) (by decide)  ⟨w0, M, _, _, φ⟩ (fun _ h => h) Try.call73 rfl rfl rfl (c_plog_upto p0 Ap0_0 cp0_0 hcp0_0 (fun W h => fp0_0 W h) (w64 ((w64 ((w64 (p1 + 1)) + i303)) - 1)) _ hx447) (fun ⟨A448, c449⟩ W hc449 h => (h.phi (fun _ hh => hh.1)).phi (fun W hφ => hφ)) (fun ⟨A448, c449⟩ hc449 => ?_)
        refine ga_abs (fun φ451 q451' => ?_)
        have q451 : ∀ W, φ451 W → φ W := fun W h => (q451' W h).1
        have f450 := fun (W : World) (h : φ451 W) => (q451' W h).2
        replace hm := bnd hm
        obtain ⟨x452, hx453, hm⟩ := hm
        refine ga_cn (first := #[]) (i := 7) #[true, true, true, true, true, true, true, true, true, false, false] rfl (by kernel_rfl) (by decide)  ⟨w0, M, _, _, φ451⟩ (fun _ h => h) Try.call72 rfl rfl rfl (c_plog_Add x446 A448 c449 hc449 (fun W h => f450 W h) l445 (if cp2_0 = (i303).toNat then Ap2_0 else Ap2_0.map (·.add ((i303).toNat * 3))) (cp2_0 - (i303).toNat) (cutLo_len hcp2_0 hl445) (fun W h => f444 W (q451 _ h)) _ hx453) (fun ⟨A454, c455⟩ W hc455 h => (h.phi (fun _ hh => hh.1)).phi (fun W hφ => (q451 _ hφ))) (fun ⟨A454, c455⟩ hc455 => ?_)
        refine ga_abs (fun φ457 q457' => ?_)
        have q457 : ∀ W, φ457 W → φ451 W := fun W h => (q457' W h).1
        have f456 := fun (W : World) (h : φ457 W) => (q457' W h).2
        refine ga_lastL (i := 9) (tag := 100060) #[true, true, true, true, true, true, true, true, true, true, false] rfl (by kernel_rfl) (by decide) rfl rfl rfl rfl Try.sizeOf26 rfl rfl ?_
        refine gz_p (i := 10) #[true, true, true, true, true, true, true, true, true, true, true] rfl (.inr rfl) (by kernel_rfl) (fun _ _ _ _ h => h) rfl ?_
        refine gz_done (by kernel_rfl) ?_
        refine d_then ?_
        refine c_flat [(6, .pointer (some ⟨g2, 0, none⟩)), (7, .int .i64 (w64 ((w64 (p1 + 1)) + i303)))] ⟨rfl, rfl, trivial⟩ (fun u => ?_)
        refine c_sta ⟨w0, M, (100090, g408, .cells #[.int .i64 x404.fTerm, .int .i64 x404.fKind, .string x404.fData] 35 (0, 0)) :: (100060, g2, .cells #[.int .i64 x452.fBase, .int .i64 x452.fBaseTerm, .slice A454 x452.fEntries.length c455] 26 (0, 0)) :: (100030, g1, .cells #[.int .i64 p0.fBase, .int .i64 p0.fBaseTerm, .slice Ap0_0 p0.fEntries.length cp0_0] 26 (0, 0)) :: H, R, φ457⟩ (fun _ h => h) ?_
        refine c_ret ?_
        refine d_ret_block ?_
        refine d_ret_then ?_
        refine d_ret_then ?_
        refine d_ret_block ?_
        refine d_ret_then ?_
        refine d_ret_then ?_
        replace hm := nx_out (C := (fun e => Sum.elim (fun e => m_plog_Put_j1 p0) (fun x => some x) e = some r)) hm hnx2 hr2
        replace hm : some (x452, w64 ((w64 (p1 + 1)) + i303)) = some r := hm
        replace hm := Option.some.inj hm
        subst hm
        refine d_retC (A454, c455) Try.results20 ?_ hc455 (fun W h => ok_pre (H1 := [_, _, _]) (R1 := []) h (fun W hφ => ⟨(q451 _ (q457 _ hφ)), (fun W h => f456 W h) W hφ⟩)) (.inr rfl)
        refine res_agg (tag := 100060) rfl rfl Try.isAgg26 Try.sizeOf26 ?_
        refine res_tmp ?_
        refine res_nil ?_
        exact rfl
       ·
        replace hm := ite_f hm (of_decide_eq_false h415)
        refine c_skip ?_
        refine d_normal_block ?_
        refine d_then ?_
        refine c_region ?_
        refine g_v rfl (r_add rfl rfl rfl) ?_
        refine g_v rfl r_move ?_
        refine g_nil ?_
        obtain ⟨n458, hn458, hlp⟩ := nx_inl hm hnx2
        exact d_round (n458, w64 (i303 + 1)) hlp hn458 ⟨rfl, rfl, rfl, rfl, rfl, rfl, rfl, trivial⟩ (fun W h => (h.dropH (t := 100090) rfl).phi (fun W hφ => hφ))
      ·
       have h414' : x410 = false := by revert h414; cases x410 <;> simp
       replace hm := ite_f hm (bool_nt h414')
       refine g_no rfl rfl rfl rfl rfl h414 ?_
       refine g_no rfl rfl rfl rfl rfl h414 ?_
       refine g_no rfl rfl rfl rfl rfl h414 ?_
       refine g_do rfl rfl rfl rfl rfl h413 ?_
       refine g_v rfl (r_pick1 rfl h414) ?_
       refine g_v rfl (r_pick1 rfl h413) ?_
       refine g_nil ?_
       refine d_then ?_
       refine c_flat [(1, .int .i64 p1), (2, .slice Ap2_0 p2.length cp2_0), (3, .pointer (some ⟨g1, 0, none⟩)), (6, .pointer (some ⟨g2, 0, none⟩)), (8, .int .i64 i303), (10, .int .i64 (w64 ((w64 (p1 + 1)) + i303))), (22, .slice Ap2_0 p2.length cp2_0), (23, .int .i64 (p2.length : Int)), (24, .int .i64 i303), (52, .bool true)] ⟨rfl, rfl, rfl, rfl, rfl, rfl, rfl, rfl, rfl, rfl, trivial⟩ (fun u => ?_)
       refine c_sta ⟨w0, M, (100090, g408, .cells #[.int .i64 x404.fTerm, .int .i64 x404.fKind, .string x404.fData] 35 (0, 0)) :: (100060, g2, .cells #[.int .i64 0, .int .i64 0, .slice none 0 0] 26 (0, 0)) :: (100030, g1, .cells #[.int .i64 p0.fBase, .int .i64 p0.fBaseTerm, .slice Ap0_0 p0.fEntries.length cp0_0] 26 (0, 0)) :: H, R, φ⟩ (fun _ h => h) ?_
       refine c_cond1 rfl rfl ?_
       refine c_seq ?_
       refine ga_start (n := 11) ⟨w0, M, (100090, g408, .cells #[.int .i64 x404.fTerm, .int .i64 x404.fKind, .string x404.fData] 35 (0, 0)) :: (100060, g2, .cells #[.int .i64 0, .int .i64 0, .slice none 0 0] 26 (0, 0)) :: (100030, g1, .cells #[.int .i64 p0.fBase, .int .i64 p0.fBaseTerm, .slice Ap0_0 p0.fEntries.length cp0_0] 26 (0, 0)) :: H, R, φ⟩ [9] #[false, false, false, false, false, false, false, false, false, false, false] (fun W h => h.phi (fun W hφ => hφ)) mixed rfl rfl ?_
       refine ga_v (i := 0) #[true, false, false, false, false, false, false, false, false, false, false] rfl (by kernel_rfl) (fun _ _ _ _ h => h) rfl (r_loadA (tag := 100030) rfl rfl Try.isAgg26 Try.sizeOf26 rfl rfl) ?_
       refine ga_v (i := 1) #[true, true, false, false, false, false, false, false, false, false, false] rfl (by kernel_rfl) (fun _ _ _ _ h => h) rfl (r_move) ?_
       refine ga_v (i := 2) #[true, true, true, false, false, false, false, false, false, false, false] rfl (by kernel_rfl) (fun _ _ _ _ h => h) rfl (r_sub rfl rfl rfl) ?_
       refine ga_v (i := 4) #[true, true, true, false, true, false, false, false, false, false, false] rfl (by kernel_rfl) (fun _ _ _ _ h => h) rfl (r_move) ?_
       refine ga_v (i := 5) #[true, true, true, false, true, true, false, false, false, false, false] rfl (by kernel_rfl) (fun _ _ _ _ h => h) rfl (r_move) ?_
       replace hm := bnd hm
       obtain ⟨l488, hl488, hm⟩ := hm
       have f487 := fun (W : World) (h : φ W) => cl_cutLo (enc := GEntry.enc) (sz := 3) (c := cp2_0) (fun _ => rfl) hcp2_0 hl488 (fp2_0 W h)
       refine ga_v (i := 6) #[true, true, true, false, true, true, true, false, false, false, false] rfl (by kernel_rfl) (fun _ _ _ _ h => h) rfl (r_lcutLo Try.underlying24 Try.sizeOf35 rfl hcp2_0 rfl hl488) ?_
       refine ga_p (i := 8) #[true, true, true, false, true, true, true, false, true, false, false] rfl (.inl rfl) (by kernel_rfl) (fun _ _ _ _ h => h) rfl ?_
       replace hm := bnd hm
       obtain ⟨x489, hx490, hm⟩ := hm
       refine ga_cn (first := #[]) (i := 3) #[true, true, true, true, true, true, true, false, true, false, false] rfl (by kernel_rfl) (by decide)  ⟨w0, M, _, _, φ⟩ (fun _ h => h) Try.call73 rfl rfl rfl (c_plog_upto p0 Ap0_0 cp0_0 hcp0_0 (fun W h => fp0_0 W h) (w64 ((w64 ((w64 (p1 + 1)) + i303)) - 1)) _ hx490) (fun ⟨A491, c492⟩ W hc492 h => (h.phi (fun _ hh => hh.1)).phi (fun W hφ => hφ)) (fun ⟨A491, c492⟩ hc492 => ?_)
       refine ga_abs (fun φ494 q494' => ?_)
       have q494 : ∀ W, φ494 W → φ W := fun W h => (q494' W h).1
       have f493 := fun (W : World) (h : φ494 W) => (q494' W h).2
       replace hm := bnd hm
       obtain ⟨x495, hx496, hm⟩ := hm
       refine ga_cn (first := #[]) (i := 7) #[true, true, true, true, true, true, true, true, true, false, false] rfl (by kernel_rfl) (by decide)  ⟨w0, M, _, _, φ494⟩ (fun _ h => h) Try.call72 rfl rfl rfl (c_plog_Add x489 A491 c492 hc492 (fun W h => f493 W h) l488 (if cp2_0 = (i303).toNat then Ap2_0 else Ap2_0.map (·.add ((i303).toNat * 3))) (cp2_0 - (i303).toNat) (cutLo_len hcp2_0 hl488) (fun W h => f487 W (q494 _ h)) _ hx496) (fun ⟨A497, c498⟩ W hc498 h => (h.phi (fun _ hh => hh.1)).phi (fun W hφ => (q494 _ hφ))) (fun ⟨A497, c498⟩ hc498 => ?_)
       refine ga_abs (fun φ500 q500' => ?_)
       have q500 : ∀ W, φ500 W → φ494 W := fun W h => (q500' W h).1
       have f499 := fun (W : World) (h : φ500 W) => (q500' W h).2
       refine ga_lastL (i := 9) (tag := 100060) #[true, true, true, true, true, true, true, true, true, true, false] rfl (by kernel_rfl) (by decide) rfl rfl rfl rfl Try.sizeOf26 rfl rfl ?_
       refine gz_p (i := 10) #[true, true, true, true, true, true, true, true, true, true, true] rfl (.inr rfl) (by kernel_rfl) (fun _ _ _ _ h => h) rfl ?_
       refine gz_done (by kernel_rfl) ?_
       refine d_then ?_
       refine c_flat [(6, .pointer (some ⟨g2, 0, none⟩)), (7, .int .i64 (w64 ((w64 (p1 + 1)) + i303)))] ⟨rfl, rfl, trivial⟩ (fun u => ?_)
       refine c_sta ⟨w0, M, (100090, g408, .cells #[.int .i64 x404.fTerm, .int .i64 x404.fKind, .string x404.fData] 35 (0, 0)) :: (100060, g2, .cells #[.int .i64 x495.fBase, .int .i64 x495.fBaseTerm, .slice A497 x495.fEntries.length c498] 26 (0, 0)) :: (100030, g1, .cells #[.int .i64 p0.fBase, .int .i64 p0.fBaseTerm, .slice Ap0_0 p0.fEntries.length cp0_0] 26 (0, 0)) :: H, R, φ500⟩ (fun _ h => h) ?_
       refine c_ret ?_
       refine d_ret_block ?_
       refine d_ret_then ?_
       refine d_ret_then ?_
       refine d_ret_block ?_
       refine d_ret_then ?_
       refine d_ret_then ?_
       replace hm := nx_out (C := (fun e => Sum.elim (fun e => m_plog_Put_j1 p0) (fun x => some x) e = some r)) hm hnx2 hr2
       replace hm : some (x495, w64 ((w64 (p1 + 1)) + i303)) = some r := hm
       replace hm := Option.some.inj hm
       subst hm
       refine d_retC (A497, c498) Try.results20 ?_ hc498 (fun W h => ok_pre (H1 := [_, _, _]) (R1 := []) h (fun W hφ => ⟨(q494 _ (q500 _ hφ)), (fun W h => f499 W h) W hφ⟩)) (.inr rfl)
       refine res_agg (tag := 100060) rfl rfl Try.isAgg26 Try.sizeOf26 ?_
       refine res_tmp ?_
       refine res_nil ?_
       exact rfl
     ·
      replace hm := ite_f hm (of_decide_eq_false h413)
      refine g_no rfl rfl rfl rfl rfl h413 ?_
      refine g_no rfl rfl rfl rfl rfl h413 ?_
      refine g_nu rfl rfl rfl rfl rfl ?_
      refine g_nu rfl rfl rfl rfl rfl ?_
      refine g_nu rfl rfl rfl rfl rfl ?_
      refine g_nu rfl rfl rfl rfl rfl ?_
      refine g_no rfl rfl rfl rfl rfl h413 ?_
      refine g_v rfl (r_pick0 rfl h413) ?_
      refine g_nil ?_
      refine d_then ?_
      refine c_flat [(1, .int .i64 p1), (2, .slice Ap2_0 p2.length cp2_0), (3, .pointer (some ⟨g1, 0, none⟩)), (6, .pointer (some ⟨g2, 0, none⟩)), (8, .int .i64 i303), (10, .int .i64 (w64 ((w64 (p1 + 1)) + i303))), (22, .slice Ap2_0 p2.length cp2_0), (23, .int .i64 (p2.length : Int)), (24, .int .i64 i303), (52, .bool false)] ⟨rfl, rfl, rfl, rfl, rfl, rfl, rfl, rfl, rfl, rfl, trivial⟩ (fun u => ?_)
      refine c_sta ⟨w0, M, (100090, g408, .cells #[.int .i64 x404.fTerm, .int .i64 x404.fKind, .string x404.fData] 35 (0, 0)) :: (100060, g2, .cells #[.int .i64 0, .int .i64 0, .slice none 0 0] 26 (0, 0)) :: (100030, g1, .cells #[.int .i64 p0.fBase, .int .i64 p0.fBaseTerm, .slice Ap0_0 p0.fEntries.length cp0_0] 26 (0, 0)) :: H, R, φ⟩ (fun _ h => h) ?_
      refine c_cond0 rfl rfl ?_
      refine c_skip ?_
      refine d_normal_block ?_
      refine d_then ?_
      refine c_region ?_
      refine g_v rfl (r_add rfl rfl rfl) ?_
      refine g_v rfl r_move ?_
      refine g_nil ?_
      obtain ⟨n501, hn501, hlp⟩ := nx_inl hm hnx2
      exact d_round (n501, w64 (i303 + 1)) hlp hn501 ⟨rfl, rfl, rfl, rfl, rfl, rfl, rfl, trivial⟩ (fun W h => (h.dropH (t := 100090) rfl).phi (fun W hφ => hφ))
    ·
     replace hm := ite_f hm (of_decide_eq_false h403)
     refine c_exit ?_
     refine d_exit_then ?_
     refine d_exit_then ?_
     refine d_exit_block ?_
     replace hm := nx_out (C := (fun e => Sum.elim (fun e => m_plog_Put_j1 p0) (fun x => some x) e = some r)) hm hnx2 hr2
     exact d_round () hm Nat.zero_lt_one ⟨rfl, rfl, trivial⟩ (fun W h => h.phi (fun W hφ => hφ))
   ·
    unfold m_plog_Put_j1 at hm
    refine d_flat [(3, .pointer (some ⟨g1, 0, none⟩)), (6, .pointer (some ⟨g2, 0, none⟩))] ⟨rfl, rfl, trivial⟩ (fun u => ?_)
    refine d_sta ⟨w0, M, (100060, g2, .cells #[.int .i64 0, .int .i64 0, .slice none 0 0] 26 (0, 0)) :: (100030, g1, .cells #[.int .i64 p0.fBase, .int .i64 p0.fBaseTerm, .slice Ap0_0 p0.fEntries.length cp0_0] 26 (0, 0)) :: H, R, φ⟩ (fun _ h => h) ?_
    refine d_then ?_
    refine c_seq ?_
    refine c_region ?_
    refine g_v rfl (r_loadA (tag := 100030) rfl rfl Try.isAgg26 Try.sizeOf26 rfl rfl) ?_
    refine g_storeL (tag := 100060) rfl rfl rfl rfl Try.sizeOf26 rfl rfl ?_
    refine g_v rfl r_assign ?_
    refine g_nil ?_
    refine d_then ?_
    refine c_ret ?_
    replace hm := Option.some.inj hm
    subst hm
    refine d_retC (Ap0_0, cp0_0) Try.results20 ?_ hcp0_0 (fun W h => ok_pre (H1 := [_, _]) (R1 := []) h (fun W hφ => ⟨hφ, (fun W h => fp0_0 W h) W hφ⟩)) (.inr rfl)
    refine res_agg (tag := 100060) rfl rfl Try.isAgg26 Try.sizeOf26 ?_
    refine res_tmp ?_
    refine res_nil ?_
    exact rfl
 ·
  replace hm := ite_t hm (of_decide_eq_true h3)
  refine g_no rfl rfl rfl rfl rfl h3 ?_
  refine g_no rfl rfl rfl rfl rfl h3 ?_
  refine g_no rfl rfl rfl rfl rfl h3 ?_
  refine g_v rfl (r_pick1 rfl h3) ?_
  refine g_nil ?_
  refine d_then ?_
  refine c_cond1 rfl rfl ?_
  refine c_seq ?_
  refine c_region ?_
  refine g_v rfl (r_loadA (tag := 100030) rfl rfl Try.isAgg26 Try.sizeOf26 rfl rfl) ?_
  refine g_storeL (tag := 100060) rfl rfl rfl rfl Try.sizeOf26 rfl rfl ?_
  refine g_v rfl r_assign ?_
  refine g_nil ?_
  refine d_then ?_
  refine c_flat [(6, .pointer (some ⟨g2, 0, none⟩)), (7, .int .i64 0)] ⟨rfl, rfl, trivial⟩ (fun u => ?_)
  refine c_sta ⟨w0, M, (100060, g2, .cells #[.int .i64 p0.fBase, .int .i64 p0.fBaseTerm, .slice Ap0_0 p0.fEntries.length cp0_0] 26 (0, 0)) :: (100030, g1, .cells #[.int .i64 p0.fBase, .int .i64 p0.fBaseTerm, .slice Ap0_0 p0.fEntries.length cp0_0] 26 (0, 0)) :: H, R, φ⟩ (fun _ h => h) ?_
  refine c_ret ?_
  refine d_ret_then ?_
  replace hm := Option.some.inj hm
  subst hm
  refine d_retC (Ap0_0, cp0_0) Try.results20 ?_ hcp0_0 (fun W h => ok_pre (H1 := [_, _]) (R1 := []) h (fun W hφ => ⟨hφ, (fun W h => fp0_0 W h) W hφ⟩)) (.inr rfl)
  refine res_agg (tag := 100060) rfl rfl Try.isAgg26 Try.sizeOf26 ?_
  refine res_tmp ?_
  refine res_nil ?_
  exact rfl

noncomputable def m_plog_Newer (p0 : GLog) (p1 : Int) (p2 : Int) : Option Bool :=
  (m_plog_Last p0).bind fun x14 =>
  (m_plog_Term p0 x14).bind fun (z19 : Int × Bool) =>
  if z19.1 < p2 then
    some true
  else
    if p2 = z19.1 then
      (m_plog_Last p0).bind fun x22 =>
      some (decide (x22 ≤ p1))
    else
      some false
theorem c_plog_Newer {w0 : World} {M : Nat → Prop} {H : List (Nat × Nat × Obj)} {R : List (Nat × Row)} {φ : World → Prop} (p0 : GLog) (Ap0_0 : Option Addr) (cp0_0 : Nat) (hcp0_0 : p0.fEntries.length ≤ cp0_0) (fp0_0 : ∀ W, (Sta.mk w0 M H R φ).ok W → Cl W Ap0_0 (p0.fEntries.flatMap GEntry.enc)) (p1 : Int) (p2 : Int) (r : Bool) (hm : m_plog_Newer p0 p1 p2 = some r) :
    Cn Try.prog 16 #[.agg #[.int .i64 p0.fBase, .int .i64 p0.fBaseTerm, .slice Ap0_0 p0.fEntries.length cp0_0], .int .i64 p1, .int .i64 p2] ⟨w0, M, H, R, φ⟩ (fun x : Unit => .bool r) (fun x => True) (fun x => ⟨w0, M, H, R, φ⟩) := by
 unfold m_plog_Newer at hm
 refine cn_intro (fn := Try.f16) (N := 30) Try.func16 rfl Try.ntmps16 rfl ?_
 refine c_seq ?_
 refine c_region ?_
 refine g_e rfl (e_box 100030 rfl) (fun g1 _ => ?_)
 refine g_v rfl r_assign ?_
 refine g_nil ?_
 refine d_then ?_
 refine c_seq ?_
 refine ga_start (n := 9) ⟨w0, M, (100030, g1, .cells #[.int .i64 p0.fBase, .int .i64 p0.fBaseTerm, .slice Ap0_0 p0.fEntries.length cp0_0] 26 (0, 0)) :: H, R, φ⟩ [] #[false, false, false, false, false, false, false, false, false] (fun W h => h.phi (fun W hφ => hφ)) mixed rfl rfl ?_
 refine ga_v (i := 0) #[true, false, false, false, false, false, false, false, false] rfl (by kernel_rfl) (fun _ _ _ _ h => h) rfl (r_loadA (tag := 100030) rfl rfl Try.isAgg26 Try.sizeOf26 rfl rfl) ?_
 refine ga_r (i := 1) #[true, true, false, false, false, false, false, false, false] rfl (by kernel_rfl) (by decide) rfl (r_loadA (tag := 100030) rfl rfl Try.isAgg26 Try.sizeOf26 rfl rfl) ?_
 replace hm := bnd hm
 obtain ⟨x14, hx15, hm⟩ := hm
 refine ga_cn (first := #[]) (i := 2) #[true, true, true, false, false, false, false, false, false] rfl (by kernel_rfl) (by decide)  ⟨w0, M, _, _, φ⟩ (fun _ h => h) Try.call38 rfl rfl rfl (c_plog_Last p0 Ap0_0 cp0_0 hcp0_0 (fun W hS => fp0_0 W (ok_pre (H1 := [_]) (R1 := []) hS (fun W h => h))) _ hx15) (fun _ W _ h => h.phi (fun W hφ => hφ)) (fun _ _ => ?_)
 replace hm := bnd hm
 obtain ⟨⟨x16, x17⟩, hx18, hm⟩ := hm
 refine ga_cn (first := #[]) (i := 3) #[true, true, true, true, false, false, false, false, false] rfl (by kernel_rfl) (by decide)  ⟨w0, M, _, _, φ⟩ (fun _ h => h) Try.call31 rfl rfl rfl (c_plog_Term p0 Ap0_0 cp0_0 hcp0_0 (fun W hS => fp0_0 W (ok_pre (H1 := [_]) (R1 := []) hS (fun W h => h))) x14 _ hx18) (fun _ W _ h => h.phi (fun W hφ => hφ)) (fun _ _ => ?_)
 refine ga_r (i := 4) #[true, true, true, true, true, false, false, false, false] rfl (by kernel_rfl) (by decide) rfl (r_move) ?_
 refine ga_v (i := 5) #[true, true, true, true, true, true, false, false, false] rfl (by kernel_rfl) (fun _ _ _ _ h => h) rfl (r_extract rfl rfl) ?_
 refine ga_v (i := 6) #[true, true, true, true, true, true, true, false, false] rfl (by kernel_rfl) (fun _ _ _ _ h => h) rfl (r_extract rfl rfl) ?_
 refine ga_r (i := 7) #[true, true, true, true, true, true, true, true, false] rfl (by kernel_rfl) (by decide) rfl (r_assign) ?_
 refine ga_r (i := 8) #[true, true, true, true, true, true, true, true, true] rfl (by kernel_rfl) (by decide) rfl (r_assign) ?_
 refine ga_done (by kernel_rfl) ?_
 refine d_then ?_
 refine c_flat [(1, .int .i64 p1), (2, .int .i64 p2), (3, .pointer (some ⟨g1, 0, none⟩)), (7, .int .i64 x16)] ⟨rfl, rfl, rfl, rfl, trivial⟩ (fun u => ?_)
 refine c_sta ⟨w0, M, (100030, g1, .cells #[.int .i64 p0.fBase, .int .i64 p0.fBaseTerm, .slice Ap0_0 p0.fEntries.length cp0_0] 26 (0, 0)) :: H, R, φ⟩ (fun _ h => h) ?_
 refine c_seq ?_
 refine c_region ?_
 refine g_v rfl r_move ?_
 refine g_v rfl r_move ?_
 refine g_v rfl (r_gtr rfl rfl) ?_
 refine g_v rfl r_move ?_
 refine g_if rfl rfl rfl rfl rfl (fun h20 => ?_) (fun h20 => ?_)
 ·
  replace hm := ite_f hm (of_decide_eq_false h20)
  refine g_v rfl r_move ?_
  refine g_do rfl rfl rfl rfl rfl h20 ?_
  refine g_v rfl r_move ?_
  refine g_do rfl rfl rfl rfl rfl h20 ?_
  refine g_v rfl (r_eql rfl rfl) ?_
  refine g_do rfl rfl rfl rfl rfl h20 ?_
  refine g_v rfl r_move ?_
  refine g_if rfl rfl rfl rfl rfl (fun h21 => ?_) (fun h21 => ?_)
  ·
   replace hm := ite_t hm (of_decide_eq_true h21)
   refine g_v rfl r_move ?_
   refine g_do rfl rfl rfl rfl rfl h21 ?_
   refine g_v rfl (r_loadA (tag := 100030) rfl rfl Try.isAgg26 Try.sizeOf26 rfl rfl) ?_
   refine g_do rfl rfl rfl rfl rfl h21 ?_
   replace hm := bnd hm
   obtain ⟨x22, hx23, hm⟩ := hm
   refine g_cn ⟨w0, M, _, _, φ⟩ (fun _ h => h) Try.call38 rfl rfl (c_plog_Last p0 Ap0_0 cp0_0 hcp0_0 (fun W hS => fp0_0 W (ok_pre (H1 := [_]) (R1 := []) hS (fun W h => h))) _ hx23) (fun _ _ => ?_)
   refine g_do rfl rfl rfl rfl rfl h21 ?_
   refine g_v rfl (r_geq rfl rfl) ?_
   refine g_do rfl rfl rfl rfl rfl h20 ?_
   refine g_v rfl (r_pick1 rfl h21) ?_
   refine g_v rfl (r_pick0 rfl h20) ?_
   refine g_v rfl r_assign ?_
   refine g_nil ?_
   refine d_then ?_
   refine c_flat [(6, .bool (decide (x22 ≤ p1)))] ⟨rfl, trivial⟩ (fun u => ?_)
   refine c_sta ⟨w0, M, (100030, g1, .cells #[.int .i64 p0.fBase, .int .i64 p0.fBaseTerm, .slice Ap0_0 p0.fEntries.length cp0_0] 26 (0, 0)) :: H, R, φ⟩ (fun _ h => h) ?_
   refine c_ret ?_
   replace hm := Option.some.inj hm
   subst hm
   refine d_retC () Try.results16 ?_ trivial (fun W h => ok_pre (H1 := [_]) (R1 := []) h (fun W hφ => hφ)) (.inr rfl)
   refine res_tmp ?_
   refine res_nil ?_
   exact rfl
  ·
   replace hm := ite_f hm (of_decide_eq_false h21)
   refine g_no rfl rfl rfl rfl rfl h21 ?_
   refine g_no rfl rfl rfl rfl rfl h21 ?_
   refine g_no rfl rfl rfl rfl rfl h21 ?_
   refine g_do rfl rfl rfl rfl rfl h20 ?_
   refine g_v rfl (r_pick0 rfl h21) ?_
   refine g_v rfl (r_pick0 rfl h20) ?_
   refine g_v rfl r_assign ?_
   refine g_nil ?_
   refine d_then ?_
   refine c_flat [(6, .bool false)] ⟨rfl, trivial⟩ (fun u => ?_)
   refine c_sta ⟨w0, M, (100030, g1, .cells #[.int .i64 p0.fBase, .int .i64 p0.fBaseTerm, .slice Ap0_0 p0.fEntries.length cp0_0] 26 (0, 0)) :: H, R, φ⟩ (fun _ h => h) ?_
   refine c_ret ?_
   replace hm := Option.some.inj hm
   subst hm
   refine d_retC () Try.results16 ?_ trivial (fun W h => ok_pre (H1 := [_]) (R1 := []) h (fun W hφ => hφ)) (.inr rfl)
   refine res_tmp ?_
   refine res_nil ?_
   exact rfl
 ·
  replace hm := ite_t hm (of_decide_eq_true h20)
  refine g_no rfl rfl rfl rfl rfl h20 ?_
  refine g_no rfl rfl rfl rfl rfl h20 ?_
  refine g_no rfl rfl rfl rfl rfl h20 ?_
  refine g_nu rfl rfl rfl rfl rfl ?_
  refine g_nu rfl rfl rfl rfl rfl ?_
  refine g_nu rfl rfl rfl rfl rfl ?_
  refine g_nu rfl rfl rfl rfl rfl ?_
  refine g_no rfl rfl rfl rfl rfl h20 ?_
  refine g_v rfl (r_pick1 rfl h20) ?_
  refine g_v rfl r_assign ?_
  refine g_nil ?_
  refine d_then ?_
  refine c_ret ?_
  replace hm := Option.some.inj hm
  subst hm
  refine d_retC () Try.results16 ?_ trivial (fun W h => ok_pre (H1 := [_]) (R1 := []) h (fun W hφ => hφ)) (.inr rfl)
  refine res_tmp ?_
  refine res_nil ?_
  exact rfl

theorem lit3_12 (z0 : Int) (z1 : Int) : Try.prog.builtSlice 3 2 [(0, .int .i64 z0), (1, .int .i64 z1)] = some #[.int .i64 z0, .int .i64 z1] := by kernel_rfl
theorem inf5_13  : (Try.prog.info? 5).map (fun i => (i.zero, i.size, i.bytes)) = some (some (.int .u8 0), 1, 1) := by kernel_rfl
noncomputable def m_plog_Data_j1  (l36 : List Int) : Option ByteArray :=
  some (strOfNums l36)
noncomputable def m_plog_Data_s2 (p0 : List Int) (l53 : List Int) (i56 : Int) : Option (((List Int) × Int) ⊕ (List Int)) :=
  if i56 < (p0.length : Int) then
    (at_ p0 i56).bind fun x73 =>
    (at_ l53 i56).bind fun x77 =>
    (setAt l53 i56 (IntKind.u8.wrap x73)).bind fun l81 =>
    some (.inl (l81, w64 (i56 + 1)))
  else
    some (.inr l53)
noncomputable def m_plog_Data (p0 : List Int) : Option ByteArray :=
  (mkL 1 (p0.length : Int) 0).bind fun l1 =>
  (loop (fun s => m_plog_Data_s2 p0 s.1 s.2) (l1, 0)).bind fun e => m_plog_Data_j1 e
theorem c_plog_Data {w0 : World} {M : Nat → Prop} {H : List (Nat × Nat × Obj)} {R : List (Nat × Row)} {φ : World → Prop} (p0 : List Int) (Ap0_0 : Option Addr) (cp0_0 : Nat) (hcp0_0 : p0.length ≤ cp0_0) (fp0_0 : ∀ W, (Sta.mk w0 M H R φ).ok W → Cl W Ap0_0 (p0.flatMap (fun x : Int => [Value.int .i64 x]))) (r : ByteArray) (hm : m_plog_Data p0 = some r) :
    Cn Try.prog 28 #[.slice Ap0_0 p0.length cp0_0] ⟨w0, M, H, R, φ⟩ (fun x : Unit => .string r) (fun x => True) (fun x => ⟨w0, M, H, R, φ⟩) := by
 unfold m_plog_Data at hm
 refine cn_intro (fn := Try.f28) (N := 24) Try.func28 rfl Try.ntmps28 rfl ?_
 refine c_seq ?_
 refine c_region ?_
 refine g_v rfl r_assign ?_
 refine g_nil ?_
 refine d_then ?_
 refine c_seq ?_
 refine c_region ?_
 refine g_v rfl r_move ?_
 refine g_v rfl (r_lenL Try.underlying42 rfl) ?_
 replace hm := bnd hm
 obtain ⟨l1, hl1, hm⟩ := hm
 refine g_e rfl (e_make (tag := 1) (enc := (fun x : Int => [Value.int .u8 x])) Try.underlying95 inf5_13 rfl rfl rfl rfl hl1) (fun g2 _ => ?_)
 refine g_v rfl r_assign ?_
 refine g_nil ?_
 refine d_then ?_
 refine c_seq ?_
 refine c_seq ?_
 refine c_region ?_
 refine g_v rfl r_move ?_
 refine g_v rfl (r_lenL Try.underlying42 rfl) ?_
 refine g_v rfl r_move ?_
 refine g_nil ?_
 refine d_then ?_
 refine c_cut (ι := (List Int) × Option Addr × Nat) [3] (fun ⟨l36, A37, c38⟩ => [(3, .slice A37 l36.length c38)]) (fun ⟨l36, A37, c38⟩ => ⟨w0, M, H, (1, ⟨.slice A37 l36.length c38, 5, 1, l36.length, l36.flatMap (fun x : Int => [Value.int .u8 x])⟩) :: R, φ⟩) (fun ⟨l36, A37, c38⟩ => m_plog_Data_j1 l36 = some r ∧ l36.length ≤ c38) ?_ (fun ⟨l36, A37, c38⟩ u ⟨hm, hc38⟩ => ?_)
 ·
  refine c_block ?_
  replace hm := bnd hm
  obtain ⟨out2, hl2, hr2⟩ := hm
  obtain ⟨n71', hl2⟩ := loop_lp hl2
  refine c_loopU (ι := Nat × (List Int) × Int × Option Addr × Nat) [3, 9, 10, 11] (fun ⟨n71, l53, i56, A54, c55⟩ => [(3, .slice A54 l53.length c55), (11, .int .i64 i56)]) (fun ⟨n71, l53, i56, A54, c55⟩ => ⟨w0, M, H, (1, ⟨.slice A54 l53.length c55, 5, 1, l53.length, l53.flatMap (fun x : Int => [Value.int .u8 x])⟩) :: R, φ⟩) (fun ⟨n71, l53, i56, A54, c55⟩ => Lp (fun s => m_plog_Data_s2 p0 s.1 s.2) n71 (l53, i56) out2 ∧ l53.length ≤ c55) (fun ⟨n71, l53, i56, A54, c55⟩ => n71) (n71', l1, 0, some ⟨g2, 0, none⟩, l1.length) ⟨hl2, (Nat.le_refl _)⟩ ⟨rfl, rfl, rfl, rfl, trivial⟩ (fun W h => h.phi (fun W hφ => hφ)) (fun ⟨n71, l53, i56, A54, c55⟩ u ⟨hlp, hc55⟩ => ?_)
  obtain ⟨o2, hm, hnx2⟩ := lp_step hlp
  clear hlp
  replace hm : m_plog_Data_s2 p0 l53 i56 = some o2 := hm
  unfold m_plog_Data_s2 at hm
  refine c_flat [(3, .slice A54 l53.length c55), (9, .slice Ap0_0 p0.length cp0_0), (10, .int .i64 (p0.length : Int)), (11, .int .i64 i56)] ⟨rfl, rfl, rfl, rfl, trivial⟩ (fun u => ?_)
  refine c_sta ⟨w0, M, H, (1, ⟨.slice A54 l53.length c55, 5, 1, l53.length, l53.flatMap (fun x : Int => [Value.int .u8 x])⟩) :: R, φ⟩ (fun _ h => h) ?_
  refine c_seq ?_
  refine c_region ?_
  refine g_v rfl (r_lss rfl rfl) ?_
  refine g_nil ?_
  refine d_then ?_
  refine c_seq ?_
  refine c_cond rfl (fun h72 => ?_) (fun h72 => ?_)
  ·
   replace hm := ite_t hm (of_decide_eq_true h72)
   refine c_skip ?_
   refine d_then ?_
   refine c_seq ?_
   refine c_block ?_
   refine c_seq ?_
   refine c_region ?_
   refine g_v rfl r_move ?_
   replace hm := bnd hm
   obtain ⟨x73, hx73, hm⟩ := hm
   refine g_know _ (fun W hS => cl_at (p := (Sta.mk w0 M H R φ).ok) (sz := 1) (fun _ => rfl) (by decide) (ok_pre (H1 := []) (R1 := [_]) hS (fun W h => h)) fp0_0 hx73) ?_
   rintro ⟨ad74, hA76, f75⟩
   refine g_v rfl (r_ix Try.underlying42 Try.sizeOf3 rfl hA76 rfl hx73) ?_
   refine g_v rfl (r_ld rfl Try.isAgg3 (fun W hS => Cl.head (f75 W (ok_pre (H1 := []) (R1 := [_]) hS (fun W h => h))))) ?_
   refine g_v rfl r_assign ?_
   refine g_v rfl r_assign ?_
   refine g_nil ?_
   refine d_then ?_
   refine c_region ?_
   refine g_v rfl r_move ?_
   refine g_v rfl r_move ?_
   refine g_v rfl r_move ?_
   refine g_v rfl (r_conv Try.underlying3 Try.underlying5 rfl rfl) ?_
   replace hm := bnd hm
   obtain ⟨x77, hx77, hm⟩ := hm
   refine g_know _ (fun W hS => cl_at (p := (Sta.ok ⟨w0, M, H, (1, ⟨.slice A54 l53.length c55, 5, 1, l53.length, l53.flatMap (fun x : Int => [Value.int .u8 x])⟩) :: R, φ⟩)) (sz := 1) (fun _ => rfl) (by decide) hS (fun W hS => rowCl (S := ⟨w0, M, H, (1, ⟨.slice A54 l53.length c55, 5, 1, l53.length, l53.flatMap (fun x : Int => [Value.int .u8 x])⟩) :: R, φ⟩) (tag := 1) rfl W hS) hx77) ?_
   rintro ⟨ad78, hA80, f79⟩
   refine g_v rfl (r_ix Try.underlying95 Try.sizeOf5 rfl hA80 rfl hx77) ?_
   replace hm := bnd hm
   obtain ⟨l81, hl81, hm⟩ := hm
   refine g_stR (tag := 1) (enc := (fun x : Int => [Value.int .u8 x])) (l := l53) (off := 0) (vs := [.int .u8 (IntKind.u8.wrap x73)]) (add0 rfl) hA80 rfl rfl hx77 hl81 rfl (Nat.le_of_ble_eq_true rfl) (fun _ => rfl) rfl rfl Try.sizeOf5 ?_
   rw [show l53.length = l81.length from (setAt_lenE hl81).symm]
   refine g_nil ?_
   refine d_normal_block ?_
   refine d_then ?_
   refine c_flat [(3, .slice A54 l81.length c55), (9, .slice Ap0_0 p0.length cp0_0), (10, .int .i64 (p0.length : Int)), (11, .int .i64 i56)] ⟨rfl, rfl, rfl, rfl, trivial⟩ (fun u => ?_)
   refine c_sta ⟨w0, M, H, (1, ⟨.slice A54 l81.length c55, 5, 1, l81.length, l81.flatMap (fun x : Int => [Value.int .u8 x])⟩) :: R, φ⟩ (fun _ h => h) ?_
   refine c_region ?_
   refine g_v rfl (r_add rfl rfl rfl) ?_
   refine g_v rfl r_move ?_
   refine g_nil ?_
   obtain ⟨n82, hn82, hlp⟩ := nx_inl hm hnx2
   exact d_round (n82, l81, w64 (i56 + 1), A54, c55) ⟨hlp, (setAt_len hc55 hl81)⟩ hn82 ⟨rfl, rfl, rfl, rfl, trivial⟩ (fun W h => h.phi (fun W hφ => hφ))
  ·
   replace hm := ite_f hm (of_decide_eq_false h72)
   refine c_exit ?_
   refine d_exit_then ?_
   refine d_exit_then ?_
   refine d_exit_block ?_
   replace hm := nx_out (C := (fun e => m_plog_Data_j1 e = some r)) hm hnx2 hr2
   exact d_round (l53, A54, c55) ⟨hm, hc55⟩ Nat.zero_lt_one ⟨rfl, trivial⟩ (fun W h => h.phi (fun W hφ => hφ))
 ·
  unfold m_plog_Data_j1 at hm
  refine d_flat [(3, .slice A37 l36.length c38)] ⟨rfl, trivial⟩ (fun u => ?_)
  refine d_sta ⟨w0, M, H, (1, ⟨.slice A37 l36.length c38, 5, 1, l36.length, l36.flatMap (fun x : Int => [Value.int .u8 x])⟩) :: R, φ⟩ (fun _ h => h) ?_
  refine d_then ?_
  refine c_seq ?_
  refine c_region ?_
  refine g_v rfl r_move ?_
  refine g_v rfl (r_textE Try.underlying95 Try.underlying5 Try.underlying9 rfl (fun W hS => rowCl (tag := 1) rfl W hS)) ?_
  refine g_v rfl r_assign ?_
  refine g_nil ?_
  refine d_then ?_
  refine c_ret ?_
  replace hm := Option.some.inj hm
  subst hm
  refine d_retC () Try.results28 ?_ trivial (fun W h => ok_pre (H1 := []) (R1 := [_]) h (fun W hφ => hφ)) (.inr rfl)
  refine res_tmp ?_
  refine res_nil ?_
  exact rfl

noncomputable def m_law11_awake  : Option Bool :=
  (m_law11_example).bind fun x1 =>
  (m_plog_Term x1 2).bind fun (z11 : Int × Bool) =>
  (m_plog_Term x1 4).bind fun (z15 : Int × Bool) =>
  (m_plog_Term x1 5).bind fun (z19 : Int × Bool) =>
  (m_plog_Put x1 3 ([(⟨3, 0, (⟨#[]⟩ : ByteArray)⟩ : GEntry)])).bind fun (z30 : GLog × Int) =>
  (m_plog_Put x1 3 ([(⟨2, 0, (⟨#[]⟩ : ByteArray)⟩ : GEntry), (⟨2, 0, (⟨#[]⟩ : ByteArray)⟩ : GEntry)])).bind fun (z42 : GLog × Int) =>
  (m_plog_Last x1).bind fun x44 =>
  if x44 = 4 then
    if z11.1 = 1 then
      if z11.2 = true then
        if z15.1 = 2 then
          if z15.2 = true then
            if z19.2 = true then
              some false
            else
              if z30.2 = 4 then
                if (z30.1.fEntries.length : Int) = 2 then
                  if z42.2 = 5 then
                    if (z42.1.fEntries.length : Int) = 3 then
                      (m_plog_Newer x1 4 2).bind fun x56 =>
                      if x56 = true then
                        (m_plog_Newer x1 3 2).bind fun x59 =>
                        if x59 = true then
                          some false
                        else
                          (m_plog_Newer x1 1 3).bind fun x62 =>
                          if x62 = true then
                            (m_plog_Data [1, 5]).bind fun x66 =>
                            some (decide (x66 = (⟨#[1, 5]⟩ : ByteArray)))
                          else
                            some false
                      else
                        some false
                    else
                      some false
                  else
                    some false
                else
                  some false
              else
                some false
          else
            some false
        else
          some false
      else
        some false
    else
      some false
  else
    some false
theorem c_law11_awake {w0 : World} {M : Nat → Prop} {H : List (Nat × Nat × Obj)} {R : List (Nat × Row)} {φ : World → Prop}  (r : Bool) (hm : m_law11_awake = some r) :
    Cn Try.prog 15 #[] ⟨w0, M, H, R, φ⟩ (fun x : Unit => .bool r) (fun x => True) (fun x => ⟨w0, M, H, R, φ⟩) := by
 unfold m_law11_awake at hm
 refine cn_intro (fn := Try.f15) (N := 102) Try.func15 rfl Try.ntmps15 rfl ?_
 refine c_seq ?_
 refine c_region ?_
 refine g_v rfl r_assign ?_
 refine g_nil ?_
 refine d_then ?_
 refine c_seq ?_
 refine c_region ?_
 replace hm := bnd hm
 obtain ⟨x1, hx2, hm⟩ := hm
 refine g_cn ⟨w0, M, _, _, φ⟩ (fun _ h => h) Try.call70 rfl rfl (c_law11_example  _ hx2) (fun ⟨A3, c4⟩ hc4 => ?_)
 refine g_abs (fun φ6 q6' => ?_)
 have q6 : ∀ W, φ6 W → φ W := fun W h => (q6' W h).1
 have f5 := fun (W : World) (h : φ6 W) => (q6' W h).2
 refine g_e rfl (e_alloc 100010 Try.zeroValue26) (fun g7 _ => ?_)
 refine g_storeL (tag := 100010) rfl rfl rfl rfl Try.sizeOf26 rfl rfl ?_
 refine g_nil ?_
 refine d_then ?_
 refine c_seq ?_
 refine c_region ?_
 refine g_v rfl (r_loadA (tag := 100010) rfl rfl Try.isAgg26 Try.sizeOf26 rfl rfl) ?_
 replace hm := bnd hm
 obtain ⟨⟨x8, x9⟩, hx10, hm⟩ := hm
 refine g_cn ⟨w0, M, _, _, φ6⟩ (fun _ h => h) Try.call31 rfl rfl (c_plog_Term x1 A3 c4 hc4 (fun W hS => f5 W hS.now) 2 _ hx10) (fun _ _ => ?_)
 refine g_v rfl r_move ?_
 refine g_v rfl (r_extract rfl rfl) ?_
 refine g_v rfl (r_extract rfl rfl) ?_
 refine g_v rfl r_assign ?_
 refine g_v rfl r_assign ?_
 refine g_nil ?_
 refine d_then ?_
 refine c_flat [(1, .pointer (some ⟨g7, 0, none⟩)), (2, .int .i64 x8), (3, .bool x9)] ⟨rfl, rfl, rfl, trivial⟩ (fun u => ?_)
 refine c_sta ⟨w0, M, (100010, g7, .cells #[.int .i64 x1.fBase, .int .i64 x1.fBaseTerm, .slice A3 x1.fEntries.length c4] 26 (0, 0)) :: H, R, φ6⟩ (fun _ h => h) ?_
 refine c_seq ?_
 refine c_region ?_
 refine g_v rfl (r_loadA (tag := 100010) rfl rfl Try.isAgg26 Try.sizeOf26 rfl rfl) ?_
 replace hm := bnd hm
 obtain ⟨⟨x12, x13⟩, hx14, hm⟩ := hm
 refine g_cn ⟨w0, M, _, _, φ6⟩ (fun _ h => h) Try.call31 rfl rfl (c_plog_Term x1 A3 c4 hc4 (fun W hS => f5 W hS.now) 4 _ hx14) (fun _ _ => ?_)
 refine g_v rfl r_move ?_
 refine g_v rfl (r_extract rfl rfl) ?_
 refine g_v rfl (r_extract rfl rfl) ?_
 refine g_v rfl r_assign ?_
 refine g_v rfl r_assign ?_
 refine g_nil ?_
 refine d_then ?_
 refine c_seq ?_
 refine c_region ?_
 refine g_v rfl (r_loadA (tag := 100010) rfl rfl Try.isAgg26 Try.sizeOf26 rfl rfl) ?_
 replace hm := bnd hm
 obtain ⟨⟨x16, x17⟩, hx18, hm⟩ := hm
 refine g_cn ⟨w0, M, _, _, φ6⟩ (fun _ h => h) Try.call31 rfl rfl (c_plog_Term x1 A3 c4 hc4 (fun W hS => f5 W hS.now) 5 _ hx18) (fun _ _ => ?_)
 refine g_v rfl r_move ?_
 refine g_v rfl (r_extract rfl rfl) ?_
 refine g_v rfl (r_extract rfl rfl) ?_
 refine g_v rfl r_assign ?_
 refine g_v rfl r_assign ?_
 refine g_nil ?_
 refine d_then ?_
 refine c_flat [(1, .pointer (some ⟨g7, 0, none⟩)), (2, .int .i64 x8), (3, .bool x9), (4, .int .i64 x12), (5, .bool x13), (7, .bool x17)] ⟨rfl, rfl, rfl, rfl, rfl, rfl, trivial⟩ (fun u => ?_)
 refine c_sta ⟨w0, M, (100010, g7, .cells #[.int .i64 x1.fBase, .int .i64 x1.fBaseTerm, .slice A3 x1.fEntries.length c4] 26 (0, 0)) :: H, R, φ6⟩ (fun _ h => h) ?_
 refine c_seq ?_
 refine c_region ?_
 refine g_v rfl (r_loadA (tag := 100010) rfl rfl Try.isAgg26 Try.sizeOf26 rfl rfl) ?_
 refine g_v rfl (r_build _ rfl (bld35_4 _)) ?_
 refine g_e rfl (e_lit (tag := 100310) (l := [(⟨3, 0, (⟨#[]⟩ : ByteArray)⟩ : GEntry)]) (enc := GEntry.enc) (sz := 3) rfl Try.underlying24 (lit35_5 _ _ _) rfl rfl (fun _ => rfl)) (fun g20 _ => ?_)
 refine g_shut (tag := 100310) rfl (fun φ21 q21' => ?_)
 have q21 : ∀ W, φ21 W → φ6 W := fun W h => (q21' W h).1
 have f22 := fun (W : World) (h : φ21 W) => (q21' W h).2
 replace hm := bnd hm
 obtain ⟨⟨x23, x24⟩, hx25, hm⟩ := hm
 refine g_cn ⟨w0, M, _, _, φ21⟩ (fun _ h => h) Try.call20 rfl rfl (c_plog_Put x1 A3 c4 hc4 (fun W h => f5 W (q21 _ h)) 3 ([(⟨3, 0, (⟨#[]⟩ : ByteArray)⟩ : GEntry)]) (some ⟨g20, 0, none⟩) 1 (Nat.le_refl _) (fun W h => f22 W h) _ hx25) (fun ⟨A26, c27⟩ hc27 => ?_)
 refine g_abs (fun φ29 q29' => ?_)
 have q29 : ∀ W, φ29 W → φ21 W := fun W h => (q29' W h).1
 have f28 := fun (W : World) (h : φ29 W) => (q29' W h).2
 refine g_v rfl r_move ?_
 refine g_v rfl (r_extract rfl rfl) ?_
 refine g_v rfl (r_extract rfl rfl) ?_
 refine g_e rfl (e_alloc 100080 Try.zeroValue26) (fun g31 _ => ?_)
 refine g_storeL (tag := 100080) rfl rfl rfl rfl Try.sizeOf26 rfl rfl ?_
 refine g_v rfl r_assign ?_
 refine g_nil ?_
 refine d_then ?_
 refine c_flat [(1, .pointer (some ⟨g7, 0, none⟩)), (2, .int .i64 x8), (3, .bool x9), (4, .int .i64 x12), (5, .bool x13), (7, .bool x17), (8, .pointer (some ⟨g31, 0, none⟩)), (9, .int .i64 x24)] ⟨rfl, rfl, rfl, rfl, rfl, rfl, rfl, rfl, trivial⟩ (fun u => ?_)
 refine c_sta ⟨w0, M, (100080, g31, .cells #[.int .i64 x23.fBase, .int .i64 x23.fBaseTerm, .slice A26 x23.fEntries.length c27] 26 (0, 0)) :: (100010, g7, .cells #[.int .i64 x1.fBase, .int .i64 x1.fBaseTerm, .slice A3 x1.fEntries.length c4] 26 (0, 0)) :: H, R, φ29⟩ (fun _ h => h) ?_
 refine c_seq ?_
 refine c_region ?_
 refine g_v rfl (r_loadA (tag := 100010) rfl rfl Try.isAgg26 Try.sizeOf26 rfl rfl) ?_
 refine g_v rfl (r_build _ rfl (bld35_4 _)) ?_
 refine g_v rfl (r_build _ rfl (bld35_4 _)) ?_
 refine g_e rfl (e_lit (tag := 100390) (l := [(⟨2, 0, (⟨#[]⟩ : ByteArray)⟩ : GEntry), (⟨2, 0, (⟨#[]⟩ : ByteArray)⟩ : GEntry)]) (enc := GEntry.enc) (sz := 3) rfl Try.underlying24 (lit35_10 _ _ _ _ _ _) rfl rfl (fun _ => rfl)) (fun g32 _ => ?_)
 refine g_shut (tag := 100390) rfl (fun φ33 q33' => ?_)
 have q33 : ∀ W, φ33 W → φ29 W := fun W h => (q33' W h).1
 have f34 := fun (W : World) (h : φ33 W) => (q33' W h).2
 replace hm := bnd hm
 obtain ⟨⟨x35, x36⟩, hx37, hm⟩ := hm
 refine g_cn ⟨w0, M, _, _, φ33⟩ (fun _ h => h) Try.call20 rfl rfl (c_plog_Put x1 A3 c4 hc4 (fun W h => f5 W (q21 _ (q29 _ (q33 _ h)))) 3 ([(⟨2, 0, (⟨#[]⟩ : ByteArray)⟩ : GEntry), (⟨2, 0, (⟨#[]⟩ : ByteArray)⟩ : GEntry)]) (some ⟨g32, 0, none⟩) 2 (Nat.le_refl _) (fun W h => f34 W h) _ hx37) (fun ⟨A38, c39⟩ hc39 => ?_)
 refine g_abs (fun φ41 q41' => ?_)
 have q41 : ∀ W, φ41 W → φ33 W := fun W h => (q41' W h).1
 have f40 := fun (W : World) (h : φ41 W) => (q41' W h).2
 refine g_v rfl r_move ?_
 refine g_v rfl (r_extract rfl rfl) ?_
 refine g_v rfl (r_extract rfl rfl) ?_
 refine g_e rfl (e_alloc 100100 Try.zeroValue26) (fun g43 _ => ?_)
 refine g_storeL (tag := 100100) rfl rfl rfl rfl Try.sizeOf26 rfl rfl ?_
 refine g_v rfl r_assign ?_
 refine g_nil ?_
 refine d_then ?_
 refine c_flat [(1, .pointer (some ⟨g7, 0, none⟩)), (2, .int .i64 x8), (3, .bool x9), (4, .int .i64 x12), (5, .bool x13), (7, .bool x17), (8, .pointer (some ⟨g31, 0, none⟩)), (9, .int .i64 x24), (10, .pointer (some ⟨g43, 0, none⟩)), (11, .int .i64 x36)] ⟨rfl, rfl, rfl, rfl, rfl, rfl, rfl, rfl, rfl, rfl, trivial⟩ (fun u => ?_)
 refine c_sta ⟨w0, M, (100100, g43, .cells #[.int .i64 x35.fBase, .int .i64 x35.fBaseTerm, .slice A38 x35.fEntries.length c39] 26 (0, 0)) :: (100080, g31, .cells #[.int .i64 x23.fBase, .int .i64 x23.fBaseTerm, .slice A26 x23.fEntries.length c27] 26 (0, 0)) :: (100010, g7, .cells #[.int .i64 x1.fBase, .int .i64 x1.fBaseTerm, .slice A3 x1.fEntries.length c4] 26 (0, 0)) :: H, R, φ41⟩ (fun _ h => h) ?_
 refine c_seq ?_
 refine c_region ?_
 refine g_v rfl (r_loadA (tag := 100010) rfl rfl Try.isAgg26 Try.sizeOf26 rfl rfl) ?_
 replace hm := bnd hm
 obtain ⟨x44, hx45, hm⟩ := hm
 refine g_cn ⟨w0, M, _, _, φ41⟩ (fun _ h => h) Try.call38 rfl rfl (c_plog_Last x1 A3 c4 hc4 (fun W hS => f5 W (q21 _ (q29 _ (q33 _ (q41 _ hS.now))))) _ hx45) (fun _ _ => ?_)
 refine g_v rfl (r_eql rfl rfl) ?_
 refine g_v rfl r_move ?_
 refine g_if rfl rfl rfl rfl rfl (fun h46 => ?_) (fun h46 => ?_)
 ·
  replace hm := ite_t hm (of_decide_eq_true h46)
  refine g_v rfl r_move ?_
  refine g_do rfl rfl rfl rfl rfl h46 ?_
  refine g_v rfl (r_eql rfl rfl) ?_
  refine g_v rfl (r_pick1 rfl h46) ?_
  refine g_v rfl r_move ?_
  refine g_if rfl rfl rfl rfl rfl (fun h47 => ?_) (fun h47 => ?_)
  ·
   replace hm := ite_t hm (of_decide_eq_true h47)
   refine g_v rfl r_move ?_
   refine g_v rfl (r_pick1 rfl h47) ?_
   refine g_v rfl r_move ?_
   refine g_if rfl rfl rfl rfl rfl (fun h48 => ?_) (fun h48 => ?_)
   ·
    replace hm := ite_t hm h48
    refine g_v rfl r_move ?_
    refine g_do rfl rfl rfl rfl rfl h48 ?_
    refine g_v rfl (r_eql rfl rfl) ?_
    refine g_v rfl (r_pick1 rfl h48) ?_
    refine g_v rfl r_move ?_
    refine g_if rfl rfl rfl rfl rfl (fun h49 => ?_) (fun h49 => ?_)
    ·
     replace hm := ite_t hm (of_decide_eq_true h49)
     refine g_v rfl r_move ?_
     refine g_v rfl (r_pick1 rfl h49) ?_
     refine g_v rfl r_move ?_
     refine g_if rfl rfl rfl rfl rfl (fun h50 => ?_) (fun h50 => ?_)
     ·
      replace hm := ite_t hm h50
      refine g_v rfl r_move ?_
      refine g_do rfl rfl rfl rfl rfl h50 ?_
      refine g_v rfl (r_not rfl) ?_
      refine g_v rfl (r_pick1 rfl h50) ?_
      refine g_v rfl r_move ?_
      refine g_if rfl rfl rfl rfl rfl (fun h51 => ?_) (fun h51 => ?_)
      ·
       have h51' : x17 = false := by revert h51; cases x17 <;> simp
       replace hm := ite_f hm (bool_nt h51')
       refine g_v rfl r_move ?_
       refine g_do rfl rfl rfl rfl rfl h51 ?_
       refine g_v rfl (r_eql rfl rfl) ?_
       refine g_v rfl (r_pick1 rfl h51) ?_
       refine g_v rfl r_move ?_
       refine g_if rfl rfl rfl rfl rfl (fun h52 => ?_) (fun h52 => ?_)
       ·
        replace hm := ite_t hm (of_decide_eq_true h52)
        refine g_v rfl (r_field (n := 2) Try.underlying26 rfl Try.sizeOf24 rfl rfl) ?_
        refine g_do rfl rfl rfl rfl rfl h52 ?_
        refine g_v rfl (r_load (tag := 100080) rfl rfl rfl Try.isAgg24) ?_
        refine g_do rfl rfl rfl rfl rfl h52 ?_
        refine g_v rfl (r_lenL Try.underlying24 rfl) ?_
        refine g_do rfl rfl rfl rfl rfl h52 ?_
        refine g_v rfl (r_eql rfl rfl) ?_
        refine g_v rfl (r_pick1 rfl h52) ?_
        refine g_v rfl r_move ?_
        refine g_if rfl rfl rfl rfl rfl (fun h53 => ?_) (fun h53 => ?_)
        ·
         replace hm := ite_t hm (of_decide_eq_true h53)
         refine g_v rfl r_move ?_
         refine g_do rfl rfl rfl rfl rfl h53 ?_
         refine g_v rfl (r_eql rfl rfl) ?_
         refine g_v rfl (r_pick1 rfl h53) ?_
         refine g_v rfl r_move ?_
         refine g_if rfl rfl rfl rfl rfl (fun h54 => ?_) (fun h54 => ?_)
         ·
          replace hm := ite_t hm (of_decide_eq_true h54)
          refine g_v rfl (r_field (n := 2) Try.underlying26 rfl Try.sizeOf24 rfl rfl) ?_
          refine g_do rfl rfl rfl rfl rfl h54 ?_
          refine g_v rfl (r_load (tag := 100100) rfl rfl rfl Try.isAgg24) ?_
          refine g_do rfl rfl rfl rfl rfl h54 ?_
          refine g_v rfl (r_lenL Try.underlying24 rfl) ?_
          refine g_do rfl rfl rfl rfl rfl h54 ?_
          refine g_v rfl (r_eql rfl rfl) ?_
          refine g_v rfl (r_pick1 rfl h54) ?_
          refine g_v rfl r_move ?_
          refine g_if rfl rfl rfl rfl rfl (fun h55 => ?_) (fun h55 => ?_)
          ·
           replace hm := ite_t hm (of_decide_eq_true h55)
           refine g_v rfl (r_loadA (tag := 100010) rfl rfl Try.isAgg26 Try.sizeOf26 rfl rfl) ?_
           refine g_do rfl rfl rfl rfl rfl h55 ?_
           replace hm := bnd hm
           obtain ⟨x56, hx57, hm⟩ := hm
           refine g_cn ⟨w0, M, _, _, φ41⟩ (fun _ h => h) Try.call16 rfl rfl (c_plog_Newer x1 A3 c4 hc4 (fun W hS => f5 W (q21 _ (q29 _ (q33 _ (q41 _ hS.now))))) 4 2 _ hx57) (fun _ _ => ?_)
           refine g_v rfl (r_pick1 rfl h55) ?_
           refine g_v rfl r_move ?_
           refine g_if rfl rfl rfl rfl rfl (fun h58 => ?_) (fun h58 => ?_)
           ·
            replace hm := ite_t hm h58
            refine g_v rfl (r_loadA (tag := 100010) rfl rfl Try.isAgg26 Try.sizeOf26 rfl rfl) ?_
            refine g_do rfl rfl rfl rfl rfl h58 ?_
            replace hm := bnd hm
            obtain ⟨x59, hx60, hm⟩ := hm
            refine g_cn ⟨w0, M, _, _, φ41⟩ (fun _ h => h) Try.call16 rfl rfl (c_plog_Newer x1 A3 c4 hc4 (fun W hS => f5 W (q21 _ (q29 _ (q33 _ (q41 _ hS.now))))) 3 2 _ hx60) (fun _ _ => ?_)
            refine g_do rfl rfl rfl rfl rfl h58 ?_
            refine g_v rfl (r_not rfl) ?_
            refine g_v rfl (r_pick1 rfl h58) ?_
            refine g_v rfl r_move ?_
            refine g_if rfl rfl rfl rfl rfl (fun h61 => ?_) (fun h61 => ?_)
            ·
             have h61' : x59 = false := by revert h61; cases x59 <;> simp
             replace hm := ite_f hm (bool_nt h61')
             refine g_v rfl (r_loadA (tag := 100010) rfl rfl Try.isAgg26 Try.sizeOf26 rfl rfl) ?_
             refine g_do rfl rfl rfl rfl rfl h61 ?_
             replace hm := bnd hm
             obtain ⟨x62, hx63, hm⟩ := hm
             refine g_cn ⟨w0, M, _, _, φ41⟩ (fun _ h => h) Try.call16 rfl rfl (c_plog_Newer x1 A3 c4 hc4 (fun W hS => f5 W (q21 _ (q29 _ (q33 _ (q41 _ hS.now))))) 1 3 _ hx63) (fun _ _ => ?_)
             refine g_v rfl (r_pick1 rfl h61) ?_
             refine g_v rfl r_move ?_
             refine g_if rfl rfl rfl rfl rfl (fun h64 => ?_) (fun h64 => ?_)
             ·
              replace hm := ite_t hm h64
              refine g_e rfl (e_lit (tag := 100980) (l := [1, 5]) (enc := (fun x : Int => [Value.int .i64 x])) (sz := 1) rfl Try.underlying42 (lit3_12 _ _) rfl rfl (fun _ => rfl)) (fun g65 _ => ?_)
              refine g_do rfl rfl rfl rfl rfl h64 ?_
              replace hm := bnd hm
              obtain ⟨x66, hx67, hm⟩ := hm
              refine g_cn ⟨w0, M, _, _, φ41⟩ (fun _ h => h) Try.call28 rfl rfl (c_plog_Data [1, 5] (some ⟨g65, 0, none⟩) 2 (Nat.le_refl _) (fun W hS => rowCl (tag := 100980) rfl W hS) _ hx67) (fun _ _ => ?_)
              refine g_do rfl rfl rfl rfl rfl h64 ?_
              refine g_v rfl (r_eqlT rfl rfl) ?_
              refine g_v rfl (r_pick1 rfl h64) ?_
              refine g_v rfl r_assign ?_
              refine g_nil ?_
              refine d_then ?_
              refine c_flat [(0, .bool (decide (x66 = (⟨#[1, 5]⟩ : ByteArray))))] ⟨rfl, trivial⟩ (fun u => ?_)
              refine c_sta ⟨w0, M, (100100, g43, .cells #[.int .i64 x35.fBase, .int .i64 x35.fBaseTerm, .slice A38 x35.fEntries.length c39] 26 (0, 0)) :: (100080, g31, .cells #[.int .i64 x23.fBase, .int .i64 x23.fBaseTerm, .slice A26 x23.fEntries.length c27] 26 (0, 0)) :: (100010, g7, .cells #[.int .i64 x1.fBase, .int .i64 x1.fBaseTerm, .slice A3 x1.fEntries.length c4] 26 (0, 0)) :: H, (100980, ⟨.slice (some ⟨g65, 0, none⟩) [1, 5].length 2, 3, 1, [1, 5].length, [1, 5].flatMap (fun x : Int => [Value.int .i64 x])⟩) :: R, φ41⟩ (fun _ h => h) ?_
              refine c_ret ?_
              replace hm := Option.some.inj hm
              subst hm
              refine d_retC () Try.results15 ?_ trivial (fun W h => ok_pre (H1 := [_, _, _]) (R1 := [_]) h (fun W hφ => (q6 _ (q21 _ (q29 _ (q33 _ (q41 _ hφ))))))) (.inr rfl)
              refine res_tmp ?_
              refine res_nil ?_
              exact rfl
             ·
              replace hm := ite_f hm (bool_nt h64)
              refine g_no rfl rfl rfl rfl rfl h64 ?_
              refine g_no rfl rfl rfl rfl rfl h64 ?_
              refine g_v rfl (r_pick0 rfl h64) ?_
              refine g_v rfl r_assign ?_
              refine g_nil ?_
              refine d_then ?_
              refine c_flat [(0, .bool false)] ⟨rfl, trivial⟩ (fun u => ?_)
              refine c_sta ⟨w0, M, (100100, g43, .cells #[.int .i64 x35.fBase, .int .i64 x35.fBaseTerm, .slice A38 x35.fEntries.length c39] 26 (0, 0)) :: (100080, g31, .cells #[.int .i64 x23.fBase, .int .i64 x23.fBaseTerm, .slice A26 x23.fEntries.length c27] 26 (0, 0)) :: (100010, g7, .cells #[.int .i64 x1.fBase, .int .i64 x1.fBaseTerm, .slice A3 x1.fEntries.length c4] 26 (0, 0)) :: H, R, φ41⟩ (fun _ h => h) ?_
              refine c_ret ?_
              replace hm := Option.some.inj hm
              subst hm
              refine d_retC () Try.results15 ?_ trivial (fun W h => ok_pre (H1 := [_, _, _]) (R1 := []) h (fun W hφ => (q6 _ (q21 _ (q29 _ (q33 _ (q41 _ hφ))))))) (.inr rfl)
              refine res_tmp ?_
              refine res_nil ?_
              exact rfl
            ·
             have h61' : x59 = true := by revert h61; cases x59 <;> simp
             replace hm := ite_t hm h61'
             refine g_no rfl rfl rfl rfl rfl h61 ?_
             refine g_v rfl (r_pick0 rfl h61) ?_
             refine g_v rfl r_move ?_
             refine g_no rfl rfl rfl rfl rfl rfl ?_
             refine g_no rfl rfl rfl rfl rfl rfl ?_
             refine g_no rfl rfl rfl rfl rfl rfl ?_
             refine g_v rfl (r_pick0 rfl rfl) ?_
             refine g_v rfl r_assign ?_
             refine g_nil ?_
             refine d_then ?_
             refine c_flat [(0, .bool false)] ⟨rfl, trivial⟩ (fun u => ?_)
             refine c_sta ⟨w0, M, (100100, g43, .cells #[.int .i64 x35.fBase, .int .i64 x35.fBaseTerm, .slice A38 x35.fEntries.length c39] 26 (0, 0)) :: (100080, g31, .cells #[.int .i64 x23.fBase, .int .i64 x23.fBaseTerm, .slice A26 x23.fEntries.length c27] 26 (0, 0)) :: (100010, g7, .cells #[.int .i64 x1.fBase, .int .i64 x1.fBaseTerm, .slice A3 x1.fEntries.length c4] 26 (0, 0)) :: H, R, φ41⟩ (fun _ h => h) ?_
             refine c_ret ?_
             replace hm := Option.some.inj hm
             subst hm
             refine d_retC () Try.results15 ?_ trivial (fun W h => ok_pre (H1 := [_, _, _]) (R1 := []) h (fun W hφ => (q6 _ (q21 _ (q29 _ (q33 _ (q41 _ hφ))))))) (.inr rfl)
             refine res_tmp ?_
             refine res_nil ?_
             exact rfl
           ·
            replace hm := ite_f hm (bool_nt h58)
            refine g_no rfl rfl rfl rfl rfl h58 ?_
            refine g_no rfl rfl rfl rfl rfl h58 ?_
            refine g_v rfl (r_pick0 rfl h58) ?_
            refine g_v rfl r_move ?_
            refine g_no rfl rfl rfl rfl rfl rfl ?_
            refine g_no rfl rfl rfl rfl rfl rfl ?_
            refine g_v rfl (r_pick0 rfl rfl) ?_
            refine g_v rfl r_move ?_
            refine g_no rfl rfl rfl rfl rfl rfl ?_
            refine g_no rfl rfl rfl rfl rfl rfl ?_
            refine g_no rfl rfl rfl rfl rfl rfl ?_
            refine g_v rfl (r_pick0 rfl rfl) ?_
            refine g_v rfl r_assign ?_
            refine g_nil ?_
            refine d_then ?_
            refine c_flat [(0, .bool false)] ⟨rfl, trivial⟩ (fun u => ?_)
            refine c_sta ⟨w0, M, (100100, g43, .cells #[.int .i64 x35.fBase, .int .i64 x35.fBaseTerm, .slice A38 x35.fEntries.length c39] 26 (0, 0)) :: (100080, g31, .cells #[.int .i64 x23.fBase, .int .i64 x23.fBaseTerm, .slice A26 x23.fEntries.length c27] 26 (0, 0)) :: (100010, g7, .cells #[.int .i64 x1.fBase, .int .i64 x1.fBaseTerm, .slice A3 x1.fEntries.length c4] 26 (0, 0)) :: H, R, φ41⟩ (fun _ h => h) ?_
            refine c_ret ?_
            replace hm := Option.some.inj hm
            subst hm
            refine d_retC () Try.results15 ?_ trivial (fun W h => ok_pre (H1 := [_, _, _]) (R1 := []) h (fun W hφ => (q6 _ (q21 _ (q29 _ (q33 _ (q41 _ hφ))))))) (.inr rfl)
            refine res_tmp ?_
            refine res_nil ?_
            exact rfl
          ·
           replace hm := ite_f hm (of_decide_eq_false h55)
           refine g_no rfl rfl rfl rfl rfl h55 ?_
           refine g_v rfl (r_pick0 rfl h55) ?_
           refine g_v rfl r_move ?_
           refine g_no rfl rfl rfl rfl rfl rfl ?_
           refine g_no rfl rfl rfl rfl rfl rfl ?_
           refine g_no rfl rfl rfl rfl rfl rfl ?_
           refine g_v rfl (r_pick0 rfl rfl) ?_
           refine g_v rfl r_move ?_
           refine g_no rfl rfl rfl rfl rfl rfl ?_
           refine g_no rfl rfl rfl rfl rfl rfl ?_
           refine g_v rfl (r_pick0 rfl rfl) ?_
           refine g_v rfl r_move ?_
           refine g_no rfl rfl rfl rfl rfl rfl ?_
           refine g_no rfl rfl rfl rfl rfl rfl ?_
           refine g_no rfl rfl rfl rfl rfl rfl ?_
           refine g_v rfl (r_pick0 rfl rfl) ?_
           refine g_v rfl r_assign ?_
           refine g_nil ?_
           refine d_then ?_
           refine c_flat [(0, .bool false)] ⟨rfl, trivial⟩ (fun u => ?_)
           refine c_sta ⟨w0, M, (100100, g43, .cells #[.int .i64 x35.fBase, .int .i64 x35.fBaseTerm, .slice A38 x35.fEntries.length c39] 26 (0, 0)) :: (100080, g31, .cells #[.int .i64 x23.fBase, .int .i64 x23.fBaseTerm, .slice A26 x23.fEntries.length c27] 26 (0, 0)) :: (100010, g7, .cells #[.int .i64 x1.fBase, .int .i64 x1.fBaseTerm, .slice A3 x1.fEntries.length c4] 26 (0, 0)) :: H, R, φ41⟩ (fun _ h => h) ?_
           refine c_ret ?_
           replace hm := Option.some.inj hm
           subst hm
           refine d_retC () Try.results15 ?_ trivial (fun W h => ok_pre (H1 := [_, _, _]) (R1 := []) h (fun W hφ => (q6 _ (q21 _ (q29 _ (q33 _ (q41 _ hφ))))))) (.inr rfl)
           refine res_tmp ?_
           refine res_nil ?_
           exact rfl
         ·
          replace hm := ite_f hm (of_decide_eq_false h54)
          refine g_no rfl rfl rfl rfl rfl h54 ?_
          refine g_no rfl rfl rfl rfl rfl h54 ?_
          refine g_no rfl rfl rfl rfl rfl h54 ?_
          refine g_v rfl (r_pick0 rfl h54) ?_
          refine g_v rfl r_move ?_
          refine g_no rfl rfl rfl rfl rfl rfl ?_
          refine g_no rfl rfl rfl rfl rfl rfl ?_
          refine g_v rfl (r_pick0 rfl rfl) ?_
          refine g_v rfl r_move ?_
          refine g_no rfl rfl rfl rfl rfl rfl ?_
          refine g_no rfl rfl rfl rfl rfl rfl ?_
          refine g_no rfl rfl rfl rfl rfl rfl ?_
          refine g_v rfl (r_pick0 rfl rfl) ?_
          refine g_v rfl r_move ?_
          refine g_no rfl rfl rfl rfl rfl rfl ?_
          refine g_no rfl rfl rfl rfl rfl rfl ?_
          refine g_v rfl (r_pick0 rfl rfl) ?_
          refine g_v rfl r_move ?_
          refine g_no rfl rfl rfl rfl rfl rfl ?_
          refine g_no rfl rfl rfl rfl rfl rfl ?_
          refine g_no rfl rfl rfl rfl rfl rfl ?_
          refine g_v rfl (r_pick0 rfl rfl) ?_
          refine g_v rfl r_assign ?_
          refine g_nil ?_
          refine d_then ?_
          refine c_flat [(0, .bool false)] ⟨rfl, trivial⟩ (fun u => ?_)
          refine c_sta ⟨w0, M, (100100, g43, .cells #[.int .i64 x35.fBase, .int .i64 x35.fBaseTerm, .slice A38 x35.fEntries.length c39] 26 (0, 0)) :: (100080, g31, .cells #[.int .i64 x23.fBase, .int .i64 x23.fBaseTerm, .slice A26 x23.fEntries.length c27] 26 (0, 0)) :: (100010, g7, .cells #[.int .i64 x1.fBase, .int .i64 x1.fBaseTerm, .slice A3 x1.fEntries.length c4] 26 (0, 0)) :: H, R, φ41⟩ (fun _ h => h) ?_
          refine c_ret ?_
          replace hm := Option.some.inj hm
          subst hm
          refine d_retC () Try.results15 ?_ trivial (fun W h => ok_pre (H1 := [_, _, _]) (R1 := []) h (fun W hφ => (q6 _ (q21 _ (q29 _ (q33 _ (q41 _ hφ))))))) (.inr rfl)
          refine res_tmp ?_
          refine res_nil ?_
          exact rfl
        ·
         replace hm := ite_f hm (of_decide_eq_false h53)
         refine g_no rfl rfl rfl rfl rfl h53 ?_
         refine g_v rfl (r_pick0 rfl h53) ?_
         refine g_v rfl r_move ?_
         refine g_no rfl rfl rfl rfl rfl rfl ?_
         refine g_no rfl rfl rfl rfl rfl rfl ?_
         refine g_no rfl rfl rfl rfl rfl rfl ?_
         refine g_no rfl rfl rfl rfl rfl rfl ?_
         refine g_v rfl (r_pick0 rfl rfl) ?_
         refine g_v rfl r_move ?_
         refine g_no rfl rfl rfl rfl rfl rfl ?_
         refine g_no rfl rfl rfl rfl rfl rfl ?_
         refine g_v rfl (r_pick0 rfl rfl) ?_
         refine g_v rfl r_move ?_
         refine g_no rfl rfl rfl rfl rfl rfl ?_
         refine g_no rfl rfl rfl rfl rfl rfl ?_
         refine g_no rfl rfl rfl rfl rfl rfl ?_
         refine g_v rfl (r_pick0 rfl rfl) ?_
         refine g_v rfl r_move ?_
         refine g_no rfl rfl rfl rfl rfl rfl ?_
         refine g_no rfl rfl rfl rfl rfl rfl ?_
         refine g_v rfl (r_pick0 rfl rfl) ?_
         refine g_v rfl r_move ?_
         refine g_no rfl rfl rfl rfl rfl rfl ?_
         refine g_no rfl rfl rfl rfl rfl rfl ?_
         refine g_no rfl rfl rfl rfl rfl rfl ?_
         refine g_v rfl (r_pick0 rfl rfl) ?_
         refine g_v rfl r_assign ?_
         refine g_nil ?_
         refine d_then ?_
         refine c_flat [(0, .bool false)] ⟨rfl, trivial⟩ (fun u => ?_)
         refine c_sta ⟨w0, M, (100100, g43, .cells #[.int .i64 x35.fBase, .int .i64 x35.fBaseTerm, .slice A38 x35.fEntries.length c39] 26 (0, 0)) :: (100080, g31, .cells #[.int .i64 x23.fBase, .int .i64 x23.fBaseTerm, .slice A26 x23.fEntries.length c27] 26 (0, 0)) :: (100010, g7, .cells #[.int .i64 x1.fBase, .int .i64 x1.fBaseTerm, .slice A3 x1.fEntries.length c4] 26 (0, 0)) :: H, R, φ41⟩ (fun _ h => h) ?_
         refine c_ret ?_
         replace hm := Option.some.inj hm
         subst hm
         refine d_retC () Try.results15 ?_ trivial (fun W h => ok_pre (H1 := [_, _, _]) (R1 := []) h (fun W hφ => (q6 _ (q21 _ (q29 _ (q33 _ (q41 _ hφ))))))) (.inr rfl)
         refine res_tmp ?_
         refine res_nil ?_
         exact rfl
       ·
        replace hm := ite_f hm (of_decide_eq_false h52)
        refine g_no rfl rfl rfl rfl rfl h52 ?_
        refine g_no rfl rfl rfl rfl rfl h52 ?_
        refine g_no rfl rfl rfl rfl rfl h52 ?_
        refine g_v rfl (r_pick0 rfl h52) ?_
        refine g_v rfl r_move ?_
        refine g_no rfl rfl rfl rfl rfl rfl ?_
        refine g_no rfl rfl rfl rfl rfl rfl ?_
        refine g_v rfl (r_pick0 rfl rfl) ?_
        refine g_v rfl r_move ?_
        refine g_no rfl rfl rfl rfl rfl rfl ?_
        refine g_no rfl rfl rfl rfl rfl rfl ?_
        refine g_no rfl rfl rfl rfl rfl rfl ?_
        refine g_no rfl rfl rfl rfl rfl rfl ?_
        refine g_v rfl (r_pick0 rfl rfl) ?_
        refine g_v rfl r_move ?_
        refine g_no rfl rfl rfl rfl rfl rfl ?_
        refine g_no rfl rfl rfl rfl rfl rfl ?_
        refine g_v rfl (r_pick0 rfl rfl) ?_
        refine g_v rfl r_move ?_
        refine g_no rfl rfl rfl rfl rfl rfl ?_
        refine g_no rfl rfl rfl rfl rfl rfl ?_
        refine g_no rfl rfl rfl rfl rfl rfl ?_
        refine g_v rfl (r_pick0 rfl rfl) ?_
        refine g_v rfl r_move ?_
        refine g_no rfl rfl rfl rfl rfl rfl ?_
        refine g_no rfl rfl rfl rfl rfl rfl ?_
        refine g_v rfl (r_pick0 rfl rfl) ?_
        refine g_v rfl r_move ?_
        refine g_no rfl rfl rfl rfl rfl rfl ?_
        refine g_no rfl rfl rfl rfl rfl rfl ?_
        refine g_no rfl rfl rfl rfl rfl rfl ?_
        refine g_v rfl (r_pick0 rfl rfl) ?_
        refine g_v rfl r_assign ?_
        refine g_nil ?_
        refine d_then ?_
        refine c_flat [(0, .bool false)] ⟨rfl, trivial⟩ (fun u => ?_)
        refine c_sta ⟨w0, M, (100100, g43, .cells #[.int .i64 x35.fBase, .int .i64 x35.fBaseTerm, .slice A38 x35.fEntries.length c39] 26 (0, 0)) :: (100080, g31, .cells #[.int .i64 x23.fBase, .int .i64 x23.fBaseTerm, .slice A26 x23.fEntries.length c27] 26 (0, 0)) :: (100010, g7, .cells #[.int .i64 x1.fBase, .int .i64 x1.fBaseTerm, .slice A3 x1.fEntries.length c4] 26 (0, 0)) :: H, R, φ41⟩ (fun _ h => h) ?_
        refine c_ret ?_
        replace hm := Option.some.inj hm
        subst hm
        refine d_retC () Try.results15 ?_ trivial (fun W h => ok_pre (H1 := [_, _, _]) (R1 := []) h (fun W hφ => (q6 _ (q21 _ (q29 _ (q33 _ (q41 _ hφ))))))) (.inr rfl)
        refine res_tmp ?_
        refine res_nil ?_
        exact rfl
      ·
       have h51' : x17 = true := by revert h51; cases x17 <;> simp
       replace hm := ite_t hm h51'
       refine g_no rfl rfl rfl rfl rfl h51 ?_
       refine g_v rfl (r_pick0 rfl h51) ?_
       refine g_v rfl r_move ?_
       refine g_no rfl rfl rfl rfl rfl rfl ?_
       refine g_no rfl rfl rfl rfl rfl rfl ?_
       refine g_no rfl rfl rfl rfl rfl rfl ?_
       refine g_no rfl rfl rfl rfl rfl rfl ?_
       refine g_v rfl (r_pick0 rfl rfl) ?_
       refine g_v rfl r_move ?_
       refine g_no rfl rfl rfl rfl rfl rfl ?_
       refine g_no rfl rfl rfl rfl rfl rfl ?_
       refine g_v rfl (r_pick0 rfl rfl) ?_
       refine g_v rfl r_move ?_
       refine g_no rfl rfl rfl rfl rfl rfl ?_
       refine g_no rfl rfl rfl rfl rfl rfl ?_
       refine g_no rfl rfl rfl rfl rfl rfl ?_
       refine g_no rfl rfl rfl rfl rfl rfl ?_
       refine g_v rfl (r_pick0 rfl rfl) ?_
       refine g_v rfl r_move ?_
       refine g_no rfl rfl rfl rfl rfl rfl ?_
       refine g_no rfl rfl rfl rfl rfl rfl ?_
       refine g_v rfl (r_pick0 rfl rfl) ?_
       refine g_v rfl r_move ?_
       refine g_no rfl rfl rfl rfl rfl rfl ?_
       refine g_no rfl rfl rfl rfl rfl rfl ?_
       refine g_no rfl rfl rfl rfl rfl rfl ?_
       refine g_v rfl (r_pick0 rfl rfl) ?_
       refine g_v rfl r_move ?_
       refine g_no rfl rfl rfl rfl rfl rfl ?_
       refine g_no rfl rfl rfl rfl rfl rfl ?_
       refine g_v rfl (r_pick0 rfl rfl) ?_
       refine g_v rfl r_move ?_
       refine g_no rfl rfl rfl rfl rfl rfl ?_
       refine g_no rfl rfl rfl rfl rfl rfl ?_
       refine g_no rfl rfl rfl rfl rfl rfl ?_
       refine g_v rfl (r_pick0 rfl rfl) ?_
       refine g_v rfl r_assign ?_
       refine g_nil ?_
       refine d_then ?_
       refine c_flat [(0, .bool false)] ⟨rfl, trivial⟩ (fun u => ?_)
       refine c_sta ⟨w0, M, (100100, g43, .cells #[.int .i64 x35.fBase, .int .i64 x35.fBaseTerm, .slice A38 x35.fEntries.length c39] 26 (0, 0)) :: (100080, g31, .cells #[.int .i64 x23.fBase, .int .i64 x23.fBaseTerm, .slice A26 x23.fEntries.length c27] 26 (0, 0)) :: (100010, g7, .cells #[.int .i64 x1.fBase, .int .i64 x1.fBaseTerm, .slice A3 x1.fEntries.length c4] 26 (0, 0)) :: H, R, φ41⟩ (fun _ h => h) ?_
       refine c_ret ?_
       replace hm := Option.some.inj hm
       subst hm
       refine d_retC () Try.results15 ?_ trivial (fun W h => ok_pre (H1 := [_, _, _]) (R1 := []) h (fun W hφ => (q6 _ (q21 _ (q29 _ (q33 _ (q41 _ hφ))))))) (.inr rfl)
       refine res_tmp ?_
       refine res_nil ?_
       exact rfl
     ·
      replace hm := ite_f hm (bool_nt h50)
      refine g_no rfl rfl rfl rfl rfl h50 ?_
      refine g_v rfl (r_pick0 rfl h50) ?_
      refine g_v rfl r_move ?_
      refine g_no rfl rfl rfl rfl rfl rfl ?_
      refine g_no rfl rfl rfl rfl rfl rfl ?_
      refine g_v rfl (r_pick0 rfl rfl) ?_
      refine g_v rfl r_move ?_
      refine g_no rfl rfl rfl rfl rfl rfl ?_
      refine g_no rfl rfl rfl rfl rfl rfl ?_
      refine g_no rfl rfl rfl rfl rfl rfl ?_
      refine g_no rfl rfl rfl rfl rfl rfl ?_
      refine g_v rfl (r_pick0 rfl rfl) ?_
      refine g_v rfl r_move ?_
      refine g_no rfl rfl rfl rfl rfl rfl ?_
      refine g_no rfl rfl rfl rfl rfl rfl ?_
      refine g_v rfl (r_pick0 rfl rfl) ?_
      refine g_v rfl r_move ?_
      refine g_no rfl rfl rfl rfl rfl rfl ?_
      refine g_no rfl rfl rfl rfl rfl rfl ?_
      refine g_no rfl rfl rfl rfl rfl rfl ?_
      refine g_no rfl rfl rfl rfl rfl rfl ?_
      refine g_v rfl (r_pick0 rfl rfl) ?_
      refine g_v rfl r_move ?_
      refine g_no rfl rfl rfl rfl rfl rfl ?_
      refine g_no rfl rfl rfl rfl rfl rfl ?_
      refine g_v rfl (r_pick0 rfl rfl) ?_
      refine g_v rfl r_move ?_
      refine g_no rfl rfl rfl rfl rfl rfl ?_
      refine g_no rfl rfl rfl rfl rfl rfl ?_
      refine g_no rfl rfl rfl rfl rfl rfl ?_
      refine g_v rfl (r_pick0 rfl rfl) ?_
      refine g_v rfl r_move ?_
      refine g_no rfl rfl rfl rfl rfl rfl ?_
      refine g_no rfl rfl rfl rfl rfl rfl ?_
      refine g_v rfl (r_pick0 rfl rfl) ?_
      refine g_v rfl r_move ?_
      refine g_no rfl rfl rfl rfl rfl rfl ?_
      refine g_no rfl rfl rfl rfl rfl rfl ?_
      refine g_no rfl rfl rfl rfl rfl rfl ?_
      refine g_v rfl (r_pick0 rfl rfl) ?_
      refine g_v rfl r_assign ?_
      refine g_nil ?_
      refine d_then ?_
      refine c_flat [(0, .bool false)] ⟨rfl, trivial⟩ (fun u => ?_)
      refine c_sta ⟨w0, M, (100100, g43, .cells #[.int .i64 x35.fBase, .int .i64 x35.fBaseTerm, .slice A38 x35.fEntries.length c39] 26 (0, 0)) :: (100080, g31, .cells #[.int .i64 x23.fBase, .int .i64 x23.fBaseTerm, .slice A26 x23.fEntries.length c27] 26 (0, 0)) :: (100010, g7, .cells #[.int .i64 x1.fBase, .int .i64 x1.fBaseTerm, .slice A3 x1.fEntries.length c4] 26 (0, 0)) :: H, R, φ41⟩ (fun _ h => h) ?_
      refine c_ret ?_
      replace hm := Option.some.inj hm
      subst hm
      refine d_retC () Try.results15 ?_ trivial (fun W h => ok_pre (H1 := [_, _, _]) (R1 := []) h (fun W hφ => (q6 _ (q21 _ (q29 _ (q33 _ (q41 _ hφ))))))) (.inr rfl)
      refine res_tmp ?_
      refine res_nil ?_
      exact rfl
    ·
     replace hm := ite_f hm (of_decide_eq_false h49)
     refine g_v rfl (r_pick0 rfl h49) ?_
     refine g_v rfl r_move ?_
     refine g_no rfl rfl rfl rfl rfl rfl ?_
     refine g_no rfl rfl rfl rfl rfl rfl ?_
     refine g_v rfl (r_pick0 rfl rfl) ?_
     refine g_v rfl r_move ?_
     refine g_no rfl rfl rfl rfl rfl rfl ?_
     refine g_no rfl rfl rfl rfl rfl rfl ?_
     refine g_v rfl (r_pick0 rfl rfl) ?_
     refine g_v rfl r_move ?_
     refine g_no rfl rfl rfl rfl rfl rfl ?_
     refine g_no rfl rfl rfl rfl rfl rfl ?_
     refine g_no rfl rfl rfl rfl rfl rfl ?_
     refine g_no rfl rfl rfl rfl rfl rfl ?_
     refine g_v rfl (r_pick0 rfl rfl) ?_
     refine g_v rfl r_move ?_
     refine g_no rfl rfl rfl rfl rfl rfl ?_
     refine g_no rfl rfl rfl rfl rfl rfl ?_
     refine g_v rfl (r_pick0 rfl rfl) ?_
     refine g_v rfl r_move ?_
     refine g_no rfl rfl rfl rfl rfl rfl ?_
     refine g_no rfl rfl rfl rfl rfl rfl ?_
     refine g_no rfl rfl rfl rfl rfl rfl ?_
     refine g_no rfl rfl rfl rfl rfl rfl ?_
     refine g_v rfl (r_pick0 rfl rfl) ?_
     refine g_v rfl r_move ?_
     refine g_no rfl rfl rfl rfl rfl rfl ?_
     refine g_no rfl rfl rfl rfl rfl rfl ?_
     refine g_v rfl (r_pick0 rfl rfl) ?_
     refine g_v rfl r_move ?_
     refine g_no rfl rfl rfl rfl rfl rfl ?_
     refine g_no rfl rfl rfl rfl rfl rfl ?_
     refine g_no rfl rfl rfl rfl rfl rfl ?_
     refine g_v rfl (r_pick0 rfl rfl) ?_
     refine g_v rfl r_move ?_
     refine g_no rfl rfl rfl rfl rfl rfl ?_
     refine g_no rfl rfl rfl rfl rfl rfl ?_
     refine g_v rfl (r_pick0 rfl rfl) ?_
     refine g_v rfl r_move ?_
     refine g_no rfl rfl rfl rfl rfl rfl ?_
     refine g_no rfl rfl rfl rfl rfl rfl ?_
     refine g_no rfl rfl rfl rfl rfl rfl ?_
     refine g_v rfl (r_pick0 rfl rfl) ?_
     refine g_v rfl r_assign ?_
     refine g_nil ?_
     refine d_then ?_
     refine c_flat [(0, .bool false)] ⟨rfl, trivial⟩ (fun u => ?_)
     refine c_sta ⟨w0, M, (100100, g43, .cells #[.int .i64 x35.fBase, .int .i64 x35.fBaseTerm, .slice A38 x35.fEntries.length c39] 26 (0, 0)) :: (100080, g31, .cells #[.int .i64 x23.fBase, .int .i64 x23.fBaseTerm, .slice A26 x23.fEntries.length c27] 26 (0, 0)) :: (100010, g7, .cells #[.int .i64 x1.fBase, .int .i64 x1.fBaseTerm, .slice A3 x1.fEntries.length c4] 26 (0, 0)) :: H, R, φ41⟩ (fun _ h => h) ?_
     refine c_ret ?_
     replace hm := Option.some.inj hm
     subst hm
     refine d_retC () Try.results15 ?_ trivial (fun W h => ok_pre (H1 := [_, _, _]) (R1 := []) h (fun W hφ => (q6 _ (q21 _ (q29 _ (q33 _ (q41 _ hφ))))))) (.inr rfl)
     refine res_tmp ?_
     refine res_nil ?_
     exact rfl
   ·
    replace hm := ite_f hm (bool_nt h48)
    refine g_no rfl rfl rfl rfl rfl h48 ?_
    refine g_v rfl (r_pick0 rfl h48) ?_
    refine g_v rfl r_move ?_
    refine g_no rfl rfl rfl rfl rfl rfl ?_
    refine g_v rfl (r_pick0 rfl rfl) ?_
    refine g_v rfl r_move ?_
    refine g_no rfl rfl rfl rfl rfl rfl ?_
    refine g_no rfl rfl rfl rfl rfl rfl ?_
    refine g_v rfl (r_pick0 rfl rfl) ?_
    refine g_v rfl r_move ?_
    refine g_no rfl rfl rfl rfl rfl rfl ?_
    refine g_no rfl rfl rfl rfl rfl rfl ?_
    refine g_v rfl (r_pick0 rfl rfl) ?_
    refine g_v rfl r_move ?_
    refine g_no rfl rfl rfl rfl rfl rfl ?_
    refine g_no rfl rfl rfl rfl rfl rfl ?_
    refine g_no rfl rfl rfl rfl rfl rfl ?_
    refine g_no rfl rfl rfl rfl rfl rfl ?_
    refine g_v rfl (r_pick0 rfl rfl) ?_
    refine g_v rfl r_move ?_
    refine g_no rfl rfl rfl rfl rfl rfl ?_
    refine g_no rfl rfl rfl rfl rfl rfl ?_
    refine g_v rfl (r_pick0 rfl rfl) ?_
    refine g_v rfl r_move ?_
    refine g_no rfl rfl rfl rfl rfl rfl ?_
    refine g_no rfl rfl rfl rfl rfl rfl ?_
    refine g_no rfl rfl rfl rfl rfl rfl ?_
    refine g_no rfl rfl rfl rfl rfl rfl ?_
    refine g_v rfl (r_pick0 rfl rfl) ?_
    refine g_v rfl r_move ?_
    refine g_no rfl rfl rfl rfl rfl rfl ?_
    refine g_no rfl rfl rfl rfl rfl rfl ?_
    refine g_v rfl (r_pick0 rfl rfl) ?_
    refine g_v rfl r_move ?_
    refine g_no rfl rfl rfl rfl rfl rfl ?_
    refine g_no rfl rfl rfl rfl rfl rfl ?_
    refine g_no rfl rfl rfl rfl rfl rfl ?_
    refine g_v rfl (r_pick0 rfl rfl) ?_
    refine g_v rfl r_move ?_
    refine g_no rfl rfl rfl rfl rfl rfl ?_
    refine g_no rfl rfl rfl rfl rfl rfl ?_
    refine g_v rfl (r_pick0 rfl rfl) ?_
    refine g_v rfl r_move ?_
    refine g_no rfl rfl rfl rfl rfl rfl ?_
    refine g_no rfl rfl rfl rfl rfl rfl ?_
    refine g_no rfl rfl rfl rfl rfl rfl ?_
    refine g_v rfl (r_pick0 rfl rfl) ?_
    refine g_v rfl r_assign ?_
    refine g_nil ?_
    refine d_then ?_
    refine c_flat [(0, .bool false)] ⟨rfl, trivial⟩ (fun u => ?_)
    refine c_sta ⟨w0, M, (100100, g43, .cells #[.int .i64 x35.fBase, .int .i64 x35.fBaseTerm, .slice A38 x35.fEntries.length c39] 26 (0, 0)) :: (100080, g31, .cells #[.int .i64 x23.fBase, .int .i64 x23.fBaseTerm, .slice A26 x23.fEntries.length c27] 26 (0, 0)) :: (100010, g7, .cells #[.int .i64 x1.fBase, .int .i64 x1.fBaseTerm, .slice A3 x1.fEntries.length c4] 26 (0, 0)) :: H, R, φ41⟩ (fun _ h => h) ?_
    refine c_ret ?_
    replace hm := Option.some.inj hm
    subst hm
    refine d_retC () Try.results15 ?_ trivial (fun W h => ok_pre (H1 := [_, _, _]) (R1 := []) h (fun W hφ => (q6 _ (q21 _ (q29 _ (q33 _ (q41 _ hφ))))))) (.inr rfl)
    refine res_tmp ?_
    refine res_nil ?_
    exact rfl
  ·
   replace hm := ite_f hm (of_decide_eq_false h47)
   refine g_v rfl (r_pick0 rfl h47) ?_
   refine g_v rfl r_move ?_
   refine g_no rfl rfl rfl rfl rfl rfl ?_
   refine g_no rfl rfl rfl rfl rfl rfl ?_
   refine g_v rfl (r_pick0 rfl rfl) ?_
   refine g_v rfl r_move ?_
   refine g_no rfl rfl rfl rfl rfl rfl ?_
   refine g_v rfl (r_pick0 rfl rfl) ?_
   refine g_v rfl r_move ?_
   refine g_no rfl rfl rfl rfl rfl rfl ?_
   refine g_no rfl rfl rfl rfl rfl rfl ?_
   refine g_v rfl (r_pick0 rfl rfl) ?_
   refine g_v rfl r_move ?_
   refine g_no rfl rfl rfl rfl rfl rfl ?_
   refine g_no rfl rfl rfl rfl rfl rfl ?_
   refine g_v rfl (r_pick0 rfl rfl) ?_
   refine g_v rfl r_move ?_
   refine g_no rfl rfl rfl rfl rfl rfl ?_
   refine g_no rfl rfl rfl rfl rfl rfl ?_
   refine g_no rfl rfl rfl rfl rfl rfl ?_
   refine g_no rfl rfl rfl rfl rfl rfl ?_
   refine g_v rfl (r_pick0 rfl rfl) ?_
   refine g_v rfl r_move ?_
   refine g_no rfl rfl rfl rfl rfl rfl ?_
   refine g_no rfl rfl rfl rfl rfl rfl ?_
   refine g_v rfl (r_pick0 rfl rfl) ?_
   refine g_v rfl r_move ?_
   refine g_no rfl rfl rfl rfl rfl rfl ?_
   refine g_no rfl rfl rfl rfl rfl rfl ?_
   refine g_no rfl rfl rfl rfl rfl rfl ?_
   refine g_no rfl rfl rfl rfl rfl rfl ?_
   refine g_v rfl (r_pick0 rfl rfl) ?_
   refine g_v rfl r_move ?_
   refine g_no rfl rfl rfl rfl rfl rfl ?_
   refine g_no rfl rfl rfl rfl rfl rfl ?_
   refine g_v rfl (r_pick0 rfl rfl) ?_
   refine g_v rfl r_move ?_
   refine g_no rfl rfl rfl rfl rfl rfl ?_
   refine g_no rfl rfl rfl rfl rfl rfl ?_
   refine g_no rfl rfl rfl rfl rfl rfl ?_
   refine g_v rfl (r_pick0 rfl rfl) ?_
   refine g_v rfl r_move ?_
   refine g_no rfl rfl rfl rfl rfl rfl ?_
   refine g_no rfl rfl rfl rfl rfl rfl ?_
   refine g_v rfl (r_pick0 rfl rfl) ?_
   refine g_v rfl r_move ?_
   refine g_no rfl rfl rfl rfl rfl rfl ?_
   refine g_no rfl rfl rfl rfl rfl rfl ?_
   refine g_no rfl rfl rfl rfl rfl rfl ?_
   refine g_v rfl (r_pick0 rfl rfl) ?_
   refine g_v rfl r_assign ?_
   refine g_nil ?_
   refine d_then ?_
   refine c_flat [(0, .bool false)] ⟨rfl, trivial⟩ (fun u => ?_)
   refine c_sta ⟨w0, M, (100100, g43, .cells #[.int .i64 x35.fBase, .int .i64 x35.fBaseTerm, .slice A38 x35.fEntries.length c39] 26 (0, 0)) :: (100080, g31, .cells #[.int .i64 x23.fBase, .int .i64 x23.fBaseTerm, .slice A26 x23.fEntries.length c27] 26 (0, 0)) :: (100010, g7, .cells #[.int .i64 x1.fBase, .int .i64 x1.fBaseTerm, .slice A3 x1.fEntries.length c4] 26 (0, 0)) :: H, R, φ41⟩ (fun _ h => h) ?_
   refine c_ret ?_
   replace hm := Option.some.inj hm
   subst hm
   refine d_retC () Try.results15 ?_ trivial (fun W h => ok_pre (H1 := [_, _, _]) (R1 := []) h (fun W hφ => (q6 _ (q21 _ (q29 _ (q33 _ (q41 _ hφ))))))) (.inr rfl)
   refine res_tmp ?_
   refine res_nil ?_
   exact rfl
 ·
  replace hm := ite_f hm (of_decide_eq_false h46)
  refine g_no rfl rfl rfl rfl rfl h46 ?_
  refine g_v rfl (r_pick0 rfl h46) ?_
  refine g_v rfl r_move ?_
  refine g_no rfl rfl rfl rfl rfl rfl ?_
  refine g_v rfl (r_pick0 rfl rfl) ?_
  refine g_v rfl r_move ?_
  refine g_no rfl rfl rfl rfl rfl rfl ?_
  refine g_no rfl rfl rfl rfl rfl rfl ?_
  refine g_v rfl (r_pick0 rfl rfl) ?_
  refine g_v rfl r_move ?_
  refine g_no rfl rfl rfl rfl rfl rfl ?_
  refine g_v rfl (r_pick0 rfl rfl) ?_
  refine g_v rfl r_move ?_
  refine g_no rfl rfl rfl rfl rfl rfl ?_
  refine g_no rfl rfl rfl rfl rfl rfl ?_
  refine g_v rfl (r_pick0 rfl rfl) ?_
  refine g_v rfl r_move ?_
  refine g_no rfl rfl rfl rfl rfl rfl ?_
  refine g_no rfl rfl rfl rfl rfl rfl ?_
  refine g_v rfl (r_pick0 rfl rfl) ?_
  refine g_v rfl r_move ?_
  refine g_no rfl rfl rfl rfl rfl rfl ?_
  refine g_no rfl rfl rfl rfl rfl rfl ?_
  refine g_no rfl rfl rfl rfl rfl rfl ?_
  refine g_no rfl rfl rfl rfl rfl rfl ?_
  refine g_v rfl (r_pick0 rfl rfl) ?_
  refine g_v rfl r_move ?_
  refine g_no rfl rfl rfl rfl rfl rfl ?_
  refine g_no rfl rfl rfl rfl rfl rfl ?_
  refine g_v rfl (r_pick0 rfl rfl) ?_
  refine g_v rfl r_move ?_
  refine g_no rfl rfl rfl rfl rfl rfl ?_
  refine g_no rfl rfl rfl rfl rfl rfl ?_
  refine g_no rfl rfl rfl rfl rfl rfl ?_
  refine g_no rfl rfl rfl rfl rfl rfl ?_
  refine g_v rfl (r_pick0 rfl rfl) ?_
  refine g_v rfl r_move ?_
  refine g_no rfl rfl rfl rfl rfl rfl ?_
  refine g_no rfl rfl rfl rfl rfl rfl ?_
  refine g_v rfl (r_pick0 rfl rfl) ?_
  refine g_v rfl r_move ?_
  refine g_no rfl rfl rfl rfl rfl rfl ?_
  refine g_no rfl rfl rfl rfl rfl rfl ?_
  refine g_no rfl rfl rfl rfl rfl rfl ?_
  refine g_v rfl (r_pick0 rfl rfl) ?_
  refine g_v rfl r_move ?_
  refine g_no rfl rfl rfl rfl rfl rfl ?_
  refine g_no rfl rfl rfl rfl rfl rfl ?_
  refine g_v rfl (r_pick0 rfl rfl) ?_
  refine g_v rfl r_move ?_
  refine g_no rfl rfl rfl rfl rfl rfl ?_
  refine g_no rfl rfl rfl rfl rfl rfl ?_
  refine g_no rfl rfl rfl rfl rfl rfl ?_
  refine g_v rfl (r_pick0 rfl rfl) ?_
  refine g_v rfl r_assign ?_
  refine g_nil ?_
  refine d_then ?_
  refine c_flat [(0, .bool false)] ⟨rfl, trivial⟩ (fun u => ?_)
  refine c_sta ⟨w0, M, (100100, g43, .cells #[.int .i64 x35.fBase, .int .i64 x35.fBaseTerm, .slice A38 x35.fEntries.length c39] 26 (0, 0)) :: (100080, g31, .cells #[.int .i64 x23.fBase, .int .i64 x23.fBaseTerm, .slice A26 x23.fEntries.length c27] 26 (0, 0)) :: (100010, g7, .cells #[.int .i64 x1.fBase, .int .i64 x1.fBaseTerm, .slice A3 x1.fEntries.length c4] 26 (0, 0)) :: H, R, φ41⟩ (fun _ h => h) ?_
  refine c_ret ?_
  replace hm := Option.some.inj hm
  subst hm
  refine d_retC () Try.results15 ?_ trivial (fun W h => ok_pre (H1 := [_, _, _]) (R1 := []) h (fun W hφ => (q6 _ (q21 _ (q29 _ (q33 _ (q41 _ hφ))))))) (.inr rfl)
  refine res_tmp ?_
  refine res_nil ?_
  exact rfl

theorem lit9_14 (z0 : ByteArray) : Try.prog.builtSlice 9 1 [(0, .string z0)] = some #[.string z0] := by kernel_rfl
theorem inf9_15  : (Try.prog.info? 9).map (fun i => (i.zero, i.size, i.bytes)) = some (some (.string (⟨#[]⟩ : ByteArray)), 1, 16) := by kernel_rfl
theorem eqq35 (a b : GEntry) : ∀ d W, (Op.equalIn (d + 5) 35 (.agg #[.int .i64 a.fTerm, .int .i64 a.fKind, .string a.fData]) (.agg #[.int .i64 b.fTerm, .int .i64 b.fKind, .string b.fData])).run Try.prog W = .ok (decide (a = b)) W := by
  intro d W
  have h := eqs_of (d := d + 4) (xs := #[.int .i64 a.fTerm, .int .i64 a.fKind, .string a.fData]) (ys := #[.int .i64 b.fTerm, .int .i64 b.fKind, .string b.fData]) (w := W) Try.underlying35 (by kernel_rfl) (eqs_cons (a := .int .i64 a.fTerm) (b := .int .i64 b.fTerm) rfl (by kernel_rfl) (by kernel_rfl) (eqs_int Try.underlying3) (eqs_cons (a := .int .i64 a.fKind) (b := .int .i64 b.fKind) rfl (by kernel_rfl) (by kernel_rfl) (eqs_int Try.underlying3) (eqs_cons (a := .string a.fData) (b := .string b.fData) rfl (by kernel_rfl) (by kernel_rfl) (eqs_str Try.underlying9) eqs_nil)))
  refine h.trans ?_
  congr 1
  cases a; cases b
  simp only [GEntry.mk.injEq, Bool.and_true]
  simp only [Bool.decide_and]
theorem eqg35 : Try.prog.eqGuardType Try.prog.depth 35 = false := by kernel_rfl
noncomputable def m_ref11_SameLog_j1  : Option Bool :=
  some true
noncomputable def m_ref11_SameLog_s2 (p0 : GLog) (p1 : GLog) (i89 : Int) : Option (Int ⊕ (Unit ⊕ Bool)) :=
  if i89 < (p0.fEntries.length : Int) then
    (at_ p0.fEntries i89).bind fun x135 =>
    (at_ p1.fEntries i89).bind fun x139 =>
    if x135 = x139 then
      some (.inl (w64 (i89 + 1)))
    else
      some (.inr (.inr false))
  else
    some (.inr (.inl ()))
noncomputable def m_ref11_SameLog (p0 : GLog) (p1 : GLog) : Option Bool :=
  if p0.fBase ≠ p1.fBase then
    some false
  else
    if p0.fBaseTerm ≠ p1.fBaseTerm then
      some false
    else
      if (p0.fEntries.length : Int) ≠ (p1.fEntries.length : Int) then
        some false
      else
        (loop (fun s => m_ref11_SameLog_s2 p0 p1 s) 0).bind fun e => Sum.elim (fun e => m_ref11_SameLog_j1) (fun x => some x) e
theorem c_ref11_SameLog {w0 : World} {M : Nat → Prop} {H : List (Nat × Nat × Obj)} {R : List (Nat × Row)} {φ : World → Prop} (p0 : GLog) (Ap0_0 : Option Addr) (cp0_0 : Nat) (hcp0_0 : p0.fEntries.length ≤ cp0_0) (fp0_0 : ∀ W, (Sta.mk w0 M H R φ).ok W → Cl W Ap0_0 (p0.fEntries.flatMap GEntry.enc)) (p1 : GLog) (Ap1_0 : Option Addr) (cp1_0 : Nat) (hcp1_0 : p1.fEntries.length ≤ cp1_0) (fp1_0 : ∀ W, (Sta.mk w0 M H R φ).ok W → Cl W Ap1_0 (p1.fEntries.flatMap GEntry.enc)) (r : Bool) (hm : m_ref11_SameLog p0 p1 = some r) :
    Cn Try.prog 76 #[.agg #[.int .i64 p0.fBase, .int .i64 p0.fBaseTerm, .slice Ap0_0 p0.fEntries.length cp0_0], .agg #[.int .i64 p1.fBase, .int .i64 p1.fBaseTerm, .slice Ap1_0 p1.fEntries.length cp1_0]] ⟨w0, M, H, R, φ⟩ (fun x : Unit => .bool r) (fun x => True) (fun x => ⟨w0, M, H, R, φ⟩) := by
 unfold m_ref11_SameLog at hm
 refine cn_intro (fn := Try.f76) (N := 45) Try.func76 rfl Try.ntmps76 rfl ?_
 refine c_seq ?_
 refine c_region ?_
 refine g_e rfl (e_box 100020 rfl) (fun g1 _ => ?_)
 refine g_e rfl (e_box 100030 rfl) (fun g2 _ => ?_)
 refine g_v rfl r_assign ?_
 refine g_nil ?_
 refine d_then ?_
 refine c_seq ?_
 refine c_seq ?_
 refine c_region ?_
 refine g_v rfl (r_field (n := 0) Try.underlying26 rfl Try.sizeOf3 rfl rfl) ?_
 refine g_v rfl (r_load (tag := 100020) rfl rfl rfl Try.isAgg3) ?_
 refine g_v rfl (r_field (n := 0) Try.underlying26 rfl Try.sizeOf3 rfl rfl) ?_
 refine g_v rfl (r_load (tag := 100030) rfl rfl rfl Try.isAgg3) ?_
 refine g_v rfl (r_neq rfl rfl) ?_
 refine g_v rfl r_move ?_
 refine g_if rfl rfl rfl rfl rfl (fun h3 => ?_) (fun h3 => ?_)
 ·
  replace hm := ite_f hm (of_decide_eq_false h3)
  refine g_v rfl (r_field (n := 1) Try.underlying26 rfl Try.sizeOf3 rfl rfl) ?_
  refine g_do rfl rfl rfl rfl rfl h3 ?_
  refine g_v rfl (r_load (tag := 100020) rfl rfl rfl Try.isAgg3) ?_
  refine g_do rfl rfl rfl rfl rfl h3 ?_
  refine g_v rfl (r_field (n := 1) Try.underlying26 rfl Try.sizeOf3 rfl rfl) ?_
  refine g_do rfl rfl rfl rfl rfl h3 ?_
  refine g_v rfl (r_load (tag := 100030) rfl rfl rfl Try.isAgg3) ?_
  refine g_do rfl rfl rfl rfl rfl h3 ?_
  refine g_v rfl (r_neq rfl rfl) ?_
  refine g_v rfl (r_pick0 rfl h3) ?_
  refine g_v rfl r_move ?_
  refine g_if rfl rfl rfl rfl rfl (fun h4 => ?_) (fun h4 => ?_)
  ·
   replace hm := ite_f hm (of_decide_eq_false h4)
   refine g_v rfl (r_field (n := 2) Try.underlying26 rfl Try.sizeOf24 rfl rfl) ?_
   refine g_do rfl rfl rfl rfl rfl h4 ?_
   refine g_v rfl (r_load (tag := 100020) rfl rfl rfl Try.isAgg24) ?_
   refine g_do rfl rfl rfl rfl rfl h4 ?_
   refine g_v rfl (r_lenL Try.underlying24 rfl) ?_
   refine g_do rfl rfl rfl rfl rfl h4 ?_
   refine g_v rfl (r_field (n := 2) Try.underlying26 rfl Try.sizeOf24 rfl rfl) ?_
   refine g_do rfl rfl rfl rfl rfl h4 ?_
   refine g_v rfl (r_load (tag := 100030) rfl rfl rfl Try.isAgg24) ?_
   refine g_do rfl rfl rfl rfl rfl h4 ?_
   refine g_v rfl (r_lenL Try.underlying24 rfl) ?_
   refine g_do rfl rfl rfl rfl rfl h4 ?_
   refine g_v rfl (r_neq rfl rfl) ?_
   refine g_v rfl (r_pick0 rfl h4) ?_
   refine g_nil ?_
   refine d_then ?_
   refine c_flat [(2, .pointer (some ⟨g1, 0, none⟩)), (3, .pointer (some ⟨g2, 0, none⟩)), (26, .bool (decide ((p0.fEntries.length : Int) ≠ (p1.fEntries.length : Int))))] ⟨rfl, rfl, rfl, trivial⟩ (fun u => ?_)
   refine c_sta ⟨w0, M, (100030, g2, .cells #[.int .i64 p1.fBase, .int .i64 p1.fBaseTerm, .slice Ap1_0 p1.fEntries.length cp1_0] 26 (0, 0)) :: (100020, g1, .cells #[.int .i64 p0.fBase, .int .i64 p0.fBaseTerm, .slice Ap0_0 p0.fEntries.length cp0_0] 26 (0, 0)) :: H, R, φ⟩ (fun _ h => h) ?_
   refine c_cond rfl (fun h5 => ?_) (fun h5 => ?_)
   ·
    replace hm := ite_t hm (of_decide_eq_true h5)
    refine c_seq ?_
    refine c_region ?_
    refine g_v rfl r_assign ?_
    refine g_nil ?_
    refine d_then ?_
    refine c_ret ?_
    refine d_ret_then ?_
    replace hm := Option.some.inj hm
    subst hm
    refine d_retC () Try.results76 ?_ trivial (fun W h => ok_pre (H1 := [_, _]) (R1 := []) h (fun W hφ => hφ)) (.inr rfl)
    refine res_tmp ?_
    refine res_nil ?_
    exact rfl
   ·
    replace hm := ite_f hm (of_decide_eq_false h5)
    refine c_skip ?_
    refine d_then ?_
    refine c_seq ?_
    refine c_seq ?_
    refine c_region ?_
    refine g_v rfl r_assign ?_
    refine g_nil ?_
    refine d_then ?_
    refine c_cut (ι := Unit) [] (fun _ => []) (fun _ => ⟨w0, M, H, R, φ⟩) (fun _ => m_ref11_SameLog_j1 = some r) ?_ (fun _ u hm => ?_)
    ·
     refine c_block ?_
     replace hm := bnd hm
     obtain ⟨out2, hl2, hr2⟩ := hm
     obtain ⟨n117', hl2⟩ := loop_lp hl2
     refine c_loopU (ι := Nat × Int) [2, 3, 5] (fun ⟨n117, i89⟩ => [(5, .int .i64 i89)]) (fun ⟨n117, i89⟩ => ⟨w0, M, (100030, g2, .cells #[.int .i64 p1.fBase, .int .i64 p1.fBaseTerm, .slice Ap1_0 p1.fEntries.length cp1_0] 26 (0, 0)) :: (100020, g1, .cells #[.int .i64 p0.fBase, .int .i64 p0.fBaseTerm, .slice Ap0_0 p0.fEntries.length cp0_0] 26 (0, 0)) :: H, R, φ⟩) (fun ⟨n117, i89⟩ => Lp (fun s => m_ref11_SameLog_s2 p0 p1 s) n117 i89 out2) (fun ⟨n117, i89⟩ => n117) (n117', 0) hl2 ⟨rfl, rfl, rfl, trivial⟩ (fun W h => h.phi (fun W hφ => hφ)) (fun ⟨n117, i89⟩ u hlp => ?_)
     obtain ⟨o2, hm, hnx2⟩ := lp_step hlp
     clear hlp
     replace hm : m_ref11_SameLog_s2 p0 p1 i89 = some o2 := hm
     unfold m_ref11_SameLog_s2 at hm
     refine c_flat [(2, .pointer (some ⟨g1, 0, none⟩)), (3, .pointer (some ⟨g2, 0, none⟩)), (5, .int .i64 i89)] ⟨rfl, rfl, rfl, trivial⟩ (fun u => ?_)
     refine c_sta ⟨w0, M, (100030, g2, .cells #[.int .i64 p1.fBase, .int .i64 p1.fBaseTerm, .slice Ap1_0 p1.fEntries.length cp1_0] 26 (0, 0)) :: (100020, g1, .cells #[.int .i64 p0.fBase, .int .i64 p0.fBaseTerm, .slice Ap0_0 p0.fEntries.length cp0_0] 26 (0, 0)) :: H, R, φ⟩ (fun _ h => h) ?_
     refine c_seq ?_
     refine c_seq ?_
     refine c_region ?_
     refine g_v rfl r_move ?_
     refine g_v rfl (r_field (n := 2) Try.underlying26 rfl Try.sizeOf24 rfl rfl) ?_
     refine g_v rfl (r_load (tag := 100020) rfl rfl rfl Try.isAgg24) ?_
     refine g_v rfl (r_lenL Try.underlying24 rfl) ?_
     refine g_v rfl (r_lss rfl rfl) ?_
     refine g_nil ?_
     refine d_then ?_
     refine c_cond rfl (fun h118 => ?_) (fun h118 => ?_)
     ·
      replace hm := ite_t hm (of_decide_eq_true h118)
      refine c_skip ?_
      refine d_then ?_
      refine c_seq ?_
      refine c_block ?_
      refine c_seq ?_
      refine ga_start (n := 11) ⟨w0, M, (100030, g2, .cells #[.int .i64 p1.fBase, .int .i64 p1.fBaseTerm, .slice Ap1_0 p1.fEntries.length cp1_0] 26 (0, 0)) :: (100020, g1, .cells #[.int .i64 p0.fBase, .int .i64 p0.fBaseTerm, .slice Ap0_0 p0.fEntries.length cp0_0] 26 (0, 0)) :: H, R, φ⟩ [] #[false, false, false, false, false, false, false, false, false, false, false] (fun W h => h.phi (fun W hφ => hφ)) mixed rfl rfl ?_
      refine ga_v (i := 0) #[true, false, false, false, false, false, false, false, false, false, false] rfl (by kernel_rfl) (fun _ _ _ _ h => h) rfl (r_field (n := 2) Try.underlying26 rfl Try.sizeOf24 rfl rfl) ?_
      refine ga_v (i := 1) #[true, true, false, false, false, false, false, false, false, false, false] rfl (by kernel_rfl) (fun _ _ _ _ h => h) rfl (r_load (tag := 100020) rfl rfl rfl Try.isAgg24) ?_
      refine ga_v (i := 2) #[true, true, true, false, false, false, false, false, false, false, false] rfl (by kernel_rfl) (fun _ _ _ _ h => h) rfl (r_move) ?_
      replace hm := bnd hm
      obtain ⟨x135, hx135, hm⟩ := hm
      refine ga_know _ (fun W hS => cl_at (p := (Sta.mk w0 M H R φ).ok) (sz := 3) (fun _ => rfl) (by decide) (ok_pre (H1 := [_, _]) (R1 := []) hS (fun W h => h)) fp0_0 hx135) ?_
      rintro ⟨ad136, hA138, f137⟩
      refine ga_v (i := 3) #[true, true, true, true, false, false, false, false, false, false, false] rfl (by kernel_rfl) (fun _ _ _ _ h => h) rfl (r_ix Try.underlying24 Try.sizeOf35 rfl hA138 rfl hx135) ?_
      refine ga_v (i := 4) #[true, true, true, true, true, false, false, false, false, false, false] rfl (by kernel_rfl) (fun _ _ _ _ h => h) rfl (r_ldA rfl Try.isAgg35 Try.sizeOf35 (fun W hS => (f137 W (ok_pre (H1 := [_, _]) (R1 := []) hS (fun W h => h))).take 3) rfl) ?_
      refine ga_v (i := 5) #[true, true, true, true, true, true, false, false, false, false, false] rfl (by kernel_rfl) (fun _ _ _ _ h => h) rfl (r_field (n := 2) Try.underlying26 rfl Try.sizeOf24 rfl rfl) ?_
      refine ga_v (i := 6) #[true, true, true, true, true, true, true, false, false, false, false] rfl (by kernel_rfl) (fun _ _ _ _ h => h) rfl (r_load (tag := 100030) rfl rfl rfl Try.isAgg24) ?_
      refine ga_r (i := 7) #[true, true, true, true, true, true, true, true, false, false, false] rfl (by kernel_rfl) (by decide) rfl (r_move) ?_
      replace hm := bnd hm
      obtain ⟨x139, hx139, hm⟩ := hm
      refine ga_know _ (fun W hS => cl_at (p := (Sta.mk w0 M H R φ).ok) (sz := 3) (fun _ => rfl) (by decide) (ok_pre (H1 := [_, _]) (R1 := []) hS (fun W h => h)) fp1_0 hx139) ?_
      rintro ⟨ad140, hA142, f141⟩
      refine ga_r (i := 8) #[true, true, true, true, true, true, true, true, true, false, false] rfl (by kernel_rfl) (by decide) rfl (r_ix Try.underlying24 Try.sizeOf35 rfl hA142 rfl hx139) ?_
      refine ga_r (i := 9) #[true, true, true, true, true, true, true, true, true, true, false] rfl (by kernel_rfl) (by decide) rfl (r_ldA rfl Try.isAgg35 Try.sizeOf35 (fun W hS => (f141 W (ok_pre (H1 := [_, _]) (R1 := []) hS (fun W h => h))).take 3) rfl) ?_
      refine ga_r (i := 10) #[true, true, true, true, true, true, true, true, true, true, true] rfl (by kernel_rfl) (by decide) rfl (r_neqA rfl rfl eqg35 (eqq35 x135 x139)) ?_
      refine ga_done (by kernel_rfl) ?_
      refine d_then ?_
      refine c_flat [(2, .pointer (some ⟨g1, 0, none⟩)), (3, .pointer (some ⟨g2, 0, none⟩)), (5, .int .i64 i89), (44, .bool (!(decide (x135 = x139))))] ⟨rfl, rfl, rfl, rfl, trivial⟩ (fun u => ?_)
      refine c_sta ⟨w0, M, (100030, g2, .cells #[.int .i64 p1.fBase, .int .i64 p1.fBaseTerm, .slice Ap1_0 p1.fEntries.length cp1_0] 26 (0, 0)) :: (100020, g1, .cells #[.int .i64 p0.fBase, .int .i64 p0.fBaseTerm, .slice Ap0_0 p0.fEntries.length cp0_0] 26 (0, 0)) :: H, R, φ⟩ (fun _ h => h) ?_
      refine c_cond rfl (fun h143 => ?_) (fun h143 => ?_)
      ·
       have h143' : (decide (x135 = x139)) = false := by revert h143; cases (decide (x135 = x139)) <;> simp
       replace hm := ite_f hm (of_decide_eq_false h143')
       refine c_seq ?_
       refine c_region ?_
       refine g_v rfl r_assign ?_
       refine g_nil ?_
       refine d_then ?_
       refine c_ret ?_
       refine d_ret_block ?_
       refine d_ret_then ?_
       refine d_ret_then ?_
       refine d_ret_block ?_
       refine d_ret_then ?_
       refine d_ret_then ?_
       replace hm := nx_out (C := (fun e => Sum.elim (fun e => m_ref11_SameLog_j1) (fun x => some x) e = some r)) hm hnx2 hr2
       replace hm : some false = some r := hm
       replace hm := Option.some.inj hm
       subst hm
       refine d_retC () Try.results76 ?_ trivial (fun W h => ok_pre (H1 := [_, _]) (R1 := []) h (fun W hφ => hφ)) (.inr rfl)
       refine res_tmp ?_
       refine res_nil ?_
       exact rfl
      ·
       have h143' : (decide (x135 = x139)) = true := by revert h143; cases (decide (x135 = x139)) <;> simp
       replace hm := ite_t hm (of_decide_eq_true h143')
       refine c_skip ?_
       refine d_normal_block ?_
       refine d_then ?_
       refine c_region ?_
       refine g_v rfl r_move ?_
       refine g_v rfl (r_add rfl rfl rfl) ?_
       refine g_v rfl r_assign ?_
       refine g_nil ?_
       obtain ⟨n144, hn144, hlp⟩ := nx_inl hm hnx2
       exact d_round (n144, w64 (i89 + 1)) hlp hn144 ⟨rfl, rfl, rfl, trivial⟩ (fun W h => h.phi (fun W hφ => hφ))
     ·
      replace hm := ite_f hm (of_decide_eq_false h118)
      refine c_exit ?_
      refine d_exit_then ?_
      refine d_exit_then ?_
      refine d_exit_block ?_
      replace hm := nx_out (C := (fun e => Sum.elim (fun e => m_ref11_SameLog_j1) (fun x => some x) e = some r)) hm hnx2 hr2
      exact d_round () hm Nat.zero_lt_one trivial (fun W h => ((h.dropH (t := 100030) rfl).dropH (t := 100020) rfl).phi (fun W hφ => hφ))
    ·
     unfold m_ref11_SameLog_j1 at hm
     refine d_flat [] trivial (fun u => ?_)
     refine d_sta ⟨w0, M, H, R, φ⟩ (fun _ h => h) ?_
     refine d_then ?_
     refine c_seq ?_
     refine c_region ?_
     refine g_v rfl r_assign ?_
     refine g_nil ?_
     refine d_then ?_
     refine c_ret ?_
     replace hm := Option.some.inj hm
     subst hm
     refine d_retC () Try.results76 ?_ trivial (fun W h => ok_pre (H1 := []) (R1 := []) h (fun W hφ => hφ)) (.inr rfl)
     refine res_tmp ?_
     refine res_nil ?_
     exact rfl
  ·
   replace hm := ite_t hm (of_decide_eq_true h4)
   refine g_no rfl rfl rfl rfl rfl h4 ?_
   refine g_no rfl rfl rfl rfl rfl h4 ?_
   refine g_no rfl rfl rfl rfl rfl h4 ?_
   refine g_no rfl rfl rfl rfl rfl h4 ?_
   refine g_no rfl rfl rfl rfl rfl h4 ?_
   refine g_no rfl rfl rfl rfl rfl h4 ?_
   refine g_v rfl (r_pick1 rfl h4) ?_
   refine g_nil ?_
   refine d_then ?_
   refine c_flat [(2, .pointer (some ⟨g1, 0, none⟩)), (3, .pointer (some ⟨g2, 0, none⟩)), (26, .bool true)] ⟨rfl, rfl, rfl, trivial⟩ (fun u => ?_)
   refine c_sta ⟨w0, M, (100030, g2, .cells #[.int .i64 p1.fBase, .int .i64 p1.fBaseTerm, .slice Ap1_0 p1.fEntries.length cp1_0] 26 (0, 0)) :: (100020, g1, .cells #[.int .i64 p0.fBase, .int .i64 p0.fBaseTerm, .slice Ap0_0 p0.fEntries.length cp0_0] 26 (0, 0)) :: H, R, φ⟩ (fun _ h => h) ?_
   refine c_cond1 rfl rfl ?_
   refine c_seq ?_
   refine c_region ?_
   refine g_v rfl r_assign ?_
   refine g_nil ?_
   refine d_then ?_
   refine c_ret ?_
   refine d_ret_then ?_
   replace hm := Option.some.inj hm
   subst hm
   refine d_retC () Try.results76 ?_ trivial (fun W h => ok_pre (H1 := [_, _]) (R1 := []) h (fun W hφ => hφ)) (.inr rfl)
   refine res_tmp ?_
   refine res_nil ?_
   exact rfl
 ·
  replace hm := ite_t hm (of_decide_eq_true h3)
  refine g_no rfl rfl rfl rfl rfl h3 ?_
  refine g_no rfl rfl rfl rfl rfl h3 ?_
  refine g_no rfl rfl rfl rfl rfl h3 ?_
  refine g_no rfl rfl rfl rfl rfl h3 ?_
  refine g_v rfl (r_pick1 rfl h3) ?_
  refine g_v rfl r_move ?_
  refine g_no rfl rfl rfl rfl rfl rfl ?_
  refine g_no rfl rfl rfl rfl rfl rfl ?_
  refine g_no rfl rfl rfl rfl rfl rfl ?_
  refine g_no rfl rfl rfl rfl rfl rfl ?_
  refine g_no rfl rfl rfl rfl rfl rfl ?_
  refine g_no rfl rfl rfl rfl rfl rfl ?_
  refine g_no rfl rfl rfl rfl rfl rfl ?_
  refine g_v rfl (r_pick1 rfl rfl) ?_
  refine g_nil ?_
  refine d_then ?_
  refine c_flat [(2, .pointer (some ⟨g1, 0, none⟩)), (3, .pointer (some ⟨g2, 0, none⟩)), (26, .bool true)] ⟨rfl, rfl, rfl, trivial⟩ (fun u => ?_)
  refine c_sta ⟨w0, M, (100030, g2, .cells #[.int .i64 p1.fBase, .int .i64 p1.fBaseTerm, .slice Ap1_0 p1.fEntries.length cp1_0] 26 (0, 0)) :: (100020, g1, .cells #[.int .i64 p0.fBase, .int .i64 p0.fBaseTerm, .slice Ap0_0 p0.fEntries.length cp0_0] 26 (0, 0)) :: H, R, φ⟩ (fun _ h => h) ?_
  refine c_cond1 rfl rfl ?_
  refine c_seq ?_
  refine c_region ?_
  refine g_v rfl r_assign ?_
  refine g_nil ?_
  refine d_then ?_
  refine c_ret ?_
  refine d_ret_then ?_
  replace hm := Option.some.inj hm
  subst hm
  refine d_retC () Try.results76 ?_ trivial (fun W h => ok_pre (H1 := [_, _]) (R1 := []) h (fun W hφ => hφ)) (.inr rfl)
  refine res_tmp ?_
  refine res_nil ?_
  exact rfl

noncomputable def m_ref11_SameInts_j1  : Option Bool :=
  some true
noncomputable def m_ref11_SameInts_s2 (p0 : List Int) (p1 : List Int) (i85 : Int) : Option (Int ⊕ (Unit ⊕ Bool)) :=
  if i85 < (p0.length : Int) then
    (at_ p0 i85).bind fun x131 =>
    (at_ p1 i85).bind fun x135 =>
    if x131 ≠ x135 then
      some (.inr (.inr false))
    else
      some (.inl (w64 (i85 + 1)))
  else
    some (.inr (.inl ()))
noncomputable def m_ref11_SameInts (p0 : List Int) (p1 : List Int) : Option Bool :=
  if (p0.length : Int) ≠ (p1.length : Int) then
    some false
  else
    (loop (fun s => m_ref11_SameInts_s2 p0 p1 s) 0).bind fun e => Sum.elim (fun e => m_ref11_SameInts_j1) (fun x => some x) e
theorem c_ref11_SameInts {w0 : World} {M : Nat → Prop} {H : List (Nat × Nat × Obj)} {R : List (Nat × Row)} {φ : World → Prop} (p0 : List Int) (Ap0_0 : Option Addr) (cp0_0 : Nat) (hcp0_0 : p0.length ≤ cp0_0) (fp0_0 : ∀ W, (Sta.mk w0 M H R φ).ok W → Cl W Ap0_0 (p0.flatMap (fun x : Int => [Value.int .i64 x]))) (p1 : List Int) (Ap1_0 : Option Addr) (cp1_0 : Nat) (hcp1_0 : p1.length ≤ cp1_0) (fp1_0 : ∀ W, (Sta.mk w0 M H R φ).ok W → Cl W Ap1_0 (p1.flatMap (fun x : Int => [Value.int .i64 x]))) (r : Bool) (hm : m_ref11_SameInts p0 p1 = some r) :
    Cn Try.prog 25 #[.slice Ap0_0 p0.length cp0_0, .slice Ap1_0 p1.length cp1_0] ⟨w0, M, H, R, φ⟩ (fun x : Unit => .bool r) (fun x => True) (fun x => ⟨w0, M, H, R, φ⟩) := by
 unfold m_ref11_SameInts at hm
 refine cn_intro (fn := Try.f25) (N := 26) Try.func25 rfl Try.ntmps25 rfl ?_
 refine c_seq ?_
 refine c_region ?_
 refine g_v rfl r_assign ?_
 refine g_nil ?_
 refine d_then ?_
 refine c_seq ?_
 refine c_seq ?_
 refine c_region ?_
 refine g_v rfl r_move ?_
 refine g_v rfl (r_lenL Try.underlying42 rfl) ?_
 refine g_v rfl r_move ?_
 refine g_v rfl (r_lenL Try.underlying42 rfl) ?_
 refine g_v rfl (r_neq rfl rfl) ?_
 refine g_nil ?_
 refine d_then ?_
 refine c_cond rfl (fun h1 => ?_) (fun h1 => ?_)
 ·
  replace hm := ite_t hm (of_decide_eq_true h1)
  refine c_seq ?_
  refine c_region ?_
  refine g_v rfl r_assign ?_
  refine g_nil ?_
  refine d_then ?_
  refine c_ret ?_
  refine d_ret_then ?_
  replace hm := Option.some.inj hm
  subst hm
  refine d_retC () Try.results25 ?_ trivial (fun W h => ok_pre (H1 := []) (R1 := []) h (fun W hφ => hφ)) (.inr rfl)
  refine res_tmp ?_
  refine res_nil ?_
  exact rfl
 ·
  replace hm := ite_f hm (of_decide_eq_false h1)
  refine c_skip ?_
  refine d_then ?_
  refine c_seq ?_
  refine c_seq ?_
  refine c_region ?_
  refine g_v rfl r_assign ?_
  refine g_nil ?_
  refine d_then ?_
  refine c_cut (ι := Unit) [] (fun _ => []) (fun _ => ⟨w0, M, H, R, φ⟩) (fun _ => m_ref11_SameInts_j1 = some r) ?_ (fun _ u hm => ?_)
  ·
   refine c_block ?_
   replace hm := bnd hm
   obtain ⟨out2, hl2, hr2⟩ := hm
   obtain ⟨n113', hl2⟩ := loop_lp hl2
   refine c_loopU (ι := Nat × Int) [0, 1, 5] (fun ⟨n113, i85⟩ => [(5, .int .i64 i85)]) (fun ⟨n113, i85⟩ => ⟨w0, M, H, R, φ⟩) (fun ⟨n113, i85⟩ => Lp (fun s => m_ref11_SameInts_s2 p0 p1 s) n113 i85 out2) (fun ⟨n113, i85⟩ => n113) (n113', 0) hl2 ⟨rfl, rfl, rfl, trivial⟩ (fun W h => h.phi (fun W hφ => hφ)) (fun ⟨n113, i85⟩ u hlp => ?_)
   obtain ⟨o2, hm, hnx2⟩ := lp_step hlp
   clear hlp
   replace hm : m_ref11_SameInts_s2 p0 p1 i85 = some o2 := hm
   unfold m_ref11_SameInts_s2 at hm
   refine c_flat [(0, .slice Ap0_0 p0.length cp0_0), (1, .slice Ap1_0 p1.length cp1_0), (5, .int .i64 i85)] ⟨rfl, rfl, rfl, trivial⟩ (fun u => ?_)
   refine c_sta ⟨w0, M, H, R, φ⟩ (fun _ h => h) ?_
   refine c_seq ?_
   refine c_seq ?_
   refine c_region ?_
   refine g_v rfl r_move ?_
   refine g_v rfl r_move ?_
   refine g_v rfl (r_lenL Try.underlying42 rfl) ?_
   refine g_v rfl (r_lss rfl rfl) ?_
   refine g_nil ?_
   refine d_then ?_
   refine c_cond rfl (fun h114 => ?_) (fun h114 => ?_)
   ·
    replace hm := ite_t hm (of_decide_eq_true h114)
    refine c_skip ?_
    refine d_then ?_
    refine c_seq ?_
    refine c_block ?_
    refine c_seq ?_
    refine ga_start (n := 9) ⟨w0, M, H, R, φ⟩ [] #[false, false, false, false, false, false, false, false, false] (fun W h => h.phi (fun W hφ => hφ)) mixed rfl rfl ?_
    refine ga_v (i := 0) #[true, false, false, false, false, false, false, false, false] rfl (by kernel_rfl) (fun _ _ _ _ h => h) rfl (r_move) ?_
    refine ga_v (i := 1) #[true, true, false, false, false, false, false, false, false] rfl (by kernel_rfl) (fun _ _ _ _ h => h) rfl (r_move) ?_
    replace hm := bnd hm
    obtain ⟨x131, hx131, hm⟩ := hm
    refine ga_know _ (fun W hS => cl_at (p := (Sta.mk w0 M H R φ).ok) (sz := 1) (fun _ => rfl) (by decide) (ok_pre (H1 := []) (R1 := []) hS (fun W h => h)) fp0_0 hx131) ?_
    rintro ⟨ad132, hA134, f133⟩
    refine ga_v (i := 2) #[true, true, true, false, false, false, false, false, false] rfl (by kernel_rfl) (fun _ _ _ _ h => h) rfl (r_ix Try.underlying42 Try.sizeOf3 rfl hA134 rfl hx131) ?_
    refine ga_v (i := 3) #[true, true, true, true, false, false, false, false, false] rfl (by kernel_rfl) (fun _ _ _ _ h => h) rfl (r_ld rfl Try.isAgg3 (fun W hS => Cl.head (f133 W (ok_pre (H1 := []) (R1 := []) hS (fun W h => h))))) ?_
    refine ga_v (i := 4) #[true, true, true, true, true, false, false, false, false] rfl (by kernel_rfl) (fun _ _ _ _ h => h) rfl (r_move) ?_
    refine ga_r (i := 5) #[true, true, true, true, true, true, false, false, false] rfl (by kernel_rfl) (by decide) rfl (r_move) ?_
    replace hm := bnd hm
    obtain ⟨x135, hx135, hm⟩ := hm
    refine ga_know _ (fun W hS => cl_at (p := (Sta.mk w0 M H R φ).ok) (sz := 1) (fun _ => rfl) (by decide) (ok_pre (H1 := []) (R1 := []) hS (fun W h => h)) fp1_0 hx135) ?_
    rintro ⟨ad136, hA138, f137⟩
    refine ga_r (i := 6) #[true, true, true, true, true, true, true, false, false] rfl (by kernel_rfl) (by decide) rfl (r_ix Try.underlying42 Try.sizeOf3 rfl hA138 rfl hx135) ?_
    refine ga_r (i := 7) #[true, true, true, true, true, true, true, true, false] rfl (by kernel_rfl) (by decide) rfl (r_ld rfl Try.isAgg3 (fun W hS => Cl.head (f137 W (ok_pre (H1 := []) (R1 := []) hS (fun W h => h))))) ?_
    refine ga_r (i := 8) #[true, true, true, true, true, true, true, true, true] rfl (by kernel_rfl) (by decide) rfl (r_neq rfl rfl) ?_
    refine ga_done (by kernel_rfl) ?_
    refine d_then ?_
    refine c_flat [(0, .slice Ap0_0 p0.length cp0_0), (1, .slice Ap1_0 p1.length cp1_0), (5, .int .i64 i85), (25, .bool (decide (x131 ≠ x135)))] ⟨rfl, rfl, rfl, rfl, trivial⟩ (fun u => ?_)
    refine c_sta ⟨w0, M, H, R, φ⟩ (fun _ h => h) ?_
    refine c_cond rfl (fun h139 => ?_) (fun h139 => ?_)
    ·
     replace hm := ite_t hm (of_decide_eq_true h139)
     refine c_seq ?_
     refine c_region ?_
     refine g_v rfl r_assign ?_
     refine g_nil ?_
     refine d_then ?_
     refine c_ret ?_
     refine d_ret_block ?_
     refine d_ret_then ?_
     refine d_ret_then ?_
     refine d_ret_block ?_
     refine d_ret_then ?_
     refine d_ret_then ?_
     replace hm := nx_out (C := (fun e => Sum.elim (fun e => m_ref11_SameInts_j1) (fun x => some x) e = some r)) hm hnx2 hr2
     replace hm : some false = some r := hm
     replace hm := Option.some.inj hm
     subst hm
     refine d_retC () Try.results25 ?_ trivial (fun W h => ok_pre (H1 := []) (R1 := []) h (fun W hφ => hφ)) (.inr rfl)
     refine res_tmp ?_
     refine res_nil ?_
     exact rfl
    ·
     replace hm := ite_f hm (of_decide_eq_false h139)
     refine c_skip ?_
     refine d_normal_block ?_
     refine d_then ?_
     refine c_region ?_
     refine g_v rfl r_move ?_
     refine g_v rfl (r_add rfl rfl rfl) ?_
     refine g_v rfl r_assign ?_
     refine g_nil ?_
     obtain ⟨n140, hn140, hlp⟩ := nx_inl hm hnx2
     exact d_round (n140, w64 (i85 + 1)) hlp hn140 ⟨rfl, rfl, rfl, trivial⟩ (fun W h => h.phi (fun W hφ => hφ))
   ·
    replace hm := ite_f hm (of_decide_eq_false h114)
    refine c_exit ?_
    refine d_exit_then ?_
    refine d_exit_then ?_
    refine d_exit_block ?_
    replace hm := nx_out (C := (fun e => Sum.elim (fun e => m_ref11_SameInts_j1) (fun x => some x) e = some r)) hm hnx2 hr2
    exact d_round () hm Nat.zero_lt_one trivial (fun W h => h.phi (fun W hφ => hφ))
  ·
   unfold m_ref11_SameInts_j1 at hm
   refine d_flat [] trivial (fun u => ?_)
   refine d_sta ⟨w0, M, H, R, φ⟩ (fun _ h => h) ?_
   refine d_then ?_
   refine c_seq ?_
   refine c_region ?_
   refine g_v rfl r_assign ?_
   refine g_nil ?_
   refine d_then ?_
   refine c_ret ?_
   replace hm := Option.some.inj hm
   subst hm
   refine d_retC () Try.results25 ?_ trivial (fun W h => ok_pre (H1 := []) (R1 := []) h (fun W hφ => hφ)) (.inr rfl)
   refine res_tmp ?_
   refine res_nil ?_
   exact rfl

noncomputable def m_ref11_Same (p0 : GHard) (p1 : GHard) : Option Bool :=
  (m_ref11_SameLog p0.fLog p1.fLog).bind fun x3 =>
  (m_ref11_SameInts p0.fVoters p1.fVoters).bind fun x5 =>
  if x3 = true then
    if x5 = true then
      if p0.fTerm = p1.fTerm then
        if p0.fVote = p1.fVote then
          some (decide (p0.fSnap = p1.fSnap))
        else
          some false
      else
        some false
    else
      some false
  else
    some false
theorem c_ref11_Same {w0 : World} {M : Nat → Prop} {H : List (Nat × Nat × Obj)} {R : List (Nat × Row)} {φ : World → Prop} (p0 : GHard) (Ap0_0 : Option Addr) (cp0_0 : Nat) (hcp0_0 : p0.fVoters.length ≤ cp0_0) (fp0_0 : ∀ W, (Sta.mk w0 M H R φ).ok W → Cl W Ap0_0 (p0.fVoters.flatMap (fun x : Int => [Value.int .i64 x]))) (Ap0_1 : Option Addr) (cp0_1 : Nat) (hcp0_1 : p0.fLog.fEntries.length ≤ cp0_1) (fp0_1 : ∀ W, (Sta.mk w0 M H R φ).ok W → Cl W Ap0_1 (p0.fLog.fEntries.flatMap GEntry.enc)) (p1 : GHard) (Ap1_0 : Option Addr) (cp1_0 : Nat) (hcp1_0 : p1.fVoters.length ≤ cp1_0) (fp1_0 : ∀ W, (Sta.mk w0 M H R φ).ok W → Cl W Ap1_0 (p1.fVoters.flatMap (fun x : Int => [Value.int .i64 x]))) (Ap1_1 : Option Addr) (cp1_1 : Nat) (hcp1_1 : p1.fLog.fEntries.length ≤ cp1_1) (fp1_1 : ∀ W, (Sta.mk w0 M H R φ).ok W → Cl W Ap1_1 (p1.fLog.fEntries.flatMap GEntry.enc)) (r : Bool) (hm : m_ref11_Same p0 p1 = some r) :
    Cn Try.prog 69 #[.agg #[.int .i64 p0.fTerm, .int .i64 p0.fVote, .slice Ap0_0 p0.fVoters.length cp0_0, .string p0.fSnap, .int .i64 p0.fLog.fBase, .int .i64 p0.fLog.fBaseTerm, .slice Ap0_1 p0.fLog.fEntries.length cp0_1], .agg #[.int .i64 p1.fTerm, .int .i64 p1.fVote, .slice Ap1_0 p1.fVoters.length cp1_0, .string p1.fSnap, .int .i64 p1.fLog.fBase, .int .i64 p1.fLog.fBaseTerm, .slice Ap1_1 p1.fLog.fEntries.length cp1_1]] ⟨w0, M, H, R, φ⟩ (fun x : Unit => .bool r) (fun x => True) (fun x => ⟨w0, M, H, R, φ⟩) := by
 unfold m_ref11_Same at hm
 refine cn_intro (fn := Try.f69) (N := 42) Try.func69 rfl Try.ntmps69 rfl ?_
 refine c_seq ?_
 refine c_region ?_
 refine g_e rfl (e_box 100020 rfl) (fun g1 _ => ?_)
 refine g_e rfl (e_box 100030 rfl) (fun g2 _ => ?_)
 refine g_v rfl r_assign ?_
 refine g_nil ?_
 refine d_then ?_
 refine c_seq ?_
 refine c_region ?_
 refine g_v rfl (r_field (n := 4) Try.underlying44 rfl Try.sizeOf26 rfl rfl) ?_
 refine g_v rfl (r_loadA (tag := 100020) rfl rfl Try.isAgg26 Try.sizeOf26 rfl rfl) ?_
 refine g_v rfl (r_field (n := 4) Try.underlying44 rfl Try.sizeOf26 rfl rfl) ?_
 refine g_v rfl (r_loadA (tag := 100030) rfl rfl Try.isAgg26 Try.sizeOf26 rfl rfl) ?_
 replace hm := bnd hm
 obtain ⟨x3, hx4, hm⟩ := hm
 refine g_cn ⟨w0, M, _, _, φ⟩ (fun _ h => h) Try.call76 rfl rfl (c_ref11_SameLog p0.fLog Ap0_1 cp0_1 hcp0_1 (fun W hS => fp0_1 W (ok_pre (H1 := [_, _]) (R1 := []) hS (fun W h => h))) p1.fLog Ap1_1 cp1_1 hcp1_1 (fun W hS => fp1_1 W (ok_pre (H1 := [_, _]) (R1 := []) hS (fun W h => h))) _ hx4) (fun _ _ => ?_)
 refine g_v rfl r_assign ?_
 refine g_nil ?_
 refine d_then ?_
 refine c_flat [(2, .pointer (some ⟨g1, 0, none⟩)), (3, .pointer (some ⟨g2, 0, none⟩)), (5, .bool x3)] ⟨rfl, rfl, rfl, trivial⟩ (fun u => ?_)
 refine c_sta ⟨w0, M, (100030, g2, .cells #[.int .i64 p1.fTerm, .int .i64 p1.fVote, .slice Ap1_0 p1.fVoters.length cp1_0, .string p1.fSnap, .int .i64 p1.fLog.fBase, .int .i64 p1.fLog.fBaseTerm, .slice Ap1_1 p1.fLog.fEntries.length cp1_1] 44 (0, 0)) :: (100020, g1, .cells #[.int .i64 p0.fTerm, .int .i64 p0.fVote, .slice Ap0_0 p0.fVoters.length cp0_0, .string p0.fSnap, .int .i64 p0.fLog.fBase, .int .i64 p0.fLog.fBaseTerm, .slice Ap0_1 p0.fLog.fEntries.length cp0_1] 44 (0, 0)) :: H, R, φ⟩ (fun _ h => h) ?_
 refine c_seq ?_
 refine c_region ?_
 refine g_v rfl (r_field (n := 2) Try.underlying44 rfl Try.sizeOf42 rfl rfl) ?_
 refine g_v rfl (r_load (tag := 100020) rfl rfl rfl Try.isAgg42) ?_
 refine g_v rfl (r_field (n := 2) Try.underlying44 rfl Try.sizeOf42 rfl rfl) ?_
 refine g_v rfl (r_load (tag := 100030) rfl rfl rfl Try.isAgg42) ?_
 replace hm := bnd hm
 obtain ⟨x5, hx6, hm⟩ := hm
 refine g_cn ⟨w0, M, _, _, φ⟩ (fun _ h => h) Try.call25 rfl rfl (c_ref11_SameInts p0.fVoters Ap0_0 cp0_0 hcp0_0 (fun W hS => fp0_0 W (ok_pre (H1 := [_, _]) (R1 := []) hS (fun W h => h))) p1.fVoters Ap1_0 cp1_0 hcp1_0 (fun W hS => fp1_0 W (ok_pre (H1 := [_, _]) (R1 := []) hS (fun W h => h))) _ hx6) (fun _ _ => ?_)
 refine g_v rfl r_assign ?_
 refine g_nil ?_
 refine d_then ?_
 refine c_seq ?_
 refine c_region ?_
 refine g_v rfl r_move ?_
 refine g_v rfl r_move ?_
 refine g_if rfl rfl rfl rfl rfl (fun h7 => ?_) (fun h7 => ?_)
 ·
  replace hm := ite_t hm h7
  refine g_v rfl r_move ?_
  refine g_v rfl (r_pick1 rfl h7) ?_
  refine g_v rfl r_move ?_
  refine g_if rfl rfl rfl rfl rfl (fun h8 => ?_) (fun h8 => ?_)
  ·
   replace hm := ite_t hm h8
   refine g_v rfl (r_field (n := 0) Try.underlying44 rfl Try.sizeOf3 rfl rfl) ?_
   refine g_do rfl rfl rfl rfl rfl h8 ?_
   refine g_v rfl (r_load (tag := 100020) rfl rfl rfl Try.isAgg3) ?_
   refine g_do rfl rfl rfl rfl rfl h8 ?_
   refine g_v rfl (r_field (n := 0) Try.underlying44 rfl Try.sizeOf3 rfl rfl) ?_
   refine g_do rfl rfl rfl rfl rfl h8 ?_
   refine g_v rfl (r_load (tag := 100030) rfl rfl rfl Try.isAgg3) ?_
   refine g_do rfl rfl rfl rfl rfl h8 ?_
   refine g_v rfl (r_eql rfl rfl) ?_
   refine g_v rfl (r_pick1 rfl h8) ?_
   refine g_v rfl r_move ?_
   refine g_if rfl rfl rfl rfl rfl (fun h9 => ?_) (fun h9 => ?_)
   ·
    replace hm := ite_t hm (of_decide_eq_true h9)
    refine g_v rfl (r_field (n := 1) Try.underlying44 rfl Try.sizeOf3 rfl rfl) ?_
    refine g_do rfl rfl rfl rfl rfl h9 ?_
    refine g_v rfl (r_load (tag := 100020) rfl rfl rfl Try.isAgg3) ?_
    refine g_do rfl rfl rfl rfl rfl h9 ?_
    refine g_v rfl (r_field (n := 1) Try.underlying44 rfl Try.sizeOf3 rfl rfl) ?_
    refine g_do rfl rfl rfl rfl rfl h9 ?_
    refine g_v rfl (r_load (tag := 100030) rfl rfl rfl Try.isAgg3) ?_
    refine g_do rfl rfl rfl rfl rfl h9 ?_
    refine g_v rfl (r_eql rfl rfl) ?_
    refine g_v rfl (r_pick1 rfl h9) ?_
    refine g_v rfl r_move ?_
    refine g_if rfl rfl rfl rfl rfl (fun h10 => ?_) (fun h10 => ?_)
    ·
     replace hm := ite_t hm (of_decide_eq_true h10)
     refine g_v rfl (r_field (n := 3) Try.underlying44 rfl Try.sizeOf9 rfl rfl) ?_
     refine g_do rfl rfl rfl rfl rfl h10 ?_
     refine g_v rfl (r_load (tag := 100020) rfl rfl rfl Try.isAgg9) ?_
     refine g_do rfl rfl rfl rfl rfl h10 ?_
     refine g_v rfl (r_field (n := 3) Try.underlying44 rfl Try.sizeOf9 rfl rfl) ?_
     refine g_do rfl rfl rfl rfl rfl h10 ?_
     refine g_v rfl (r_load (tag := 100030) rfl rfl rfl Try.isAgg9) ?_
     refine g_do rfl rfl rfl rfl rfl h10 ?_
     refine g_v rfl (r_eqlT rfl rfl) ?_
     refine g_v rfl (r_pick1 rfl h10) ?_
     refine g_v rfl r_assign ?_
     refine g_nil ?_
     refine d_then ?_
     refine c_flat [(4, .bool (decide (p0.fSnap = p1.fSnap)))] ⟨rfl, trivial⟩ (fun u => ?_)
     refine c_sta ⟨w0, M, (100030, g2, .cells #[.int .i64 p1.fTerm, .int .i64 p1.fVote, .slice Ap1_0 p1.fVoters.length cp1_0, .string p1.fSnap, .int .i64 p1.fLog.fBase, .int .i64 p1.fLog.fBaseTerm, .slice Ap1_1 p1.fLog.fEntries.length cp1_1] 44 (0, 0)) :: (100020, g1, .cells #[.int .i64 p0.fTerm, .int .i64 p0.fVote, .slice Ap0_0 p0.fVoters.length cp0_0, .string p0.fSnap, .int .i64 p0.fLog.fBase, .int .i64 p0.fLog.fBaseTerm, .slice Ap0_1 p0.fLog.fEntries.length cp0_1] 44 (0, 0)) :: H, R, φ⟩ (fun _ h => h) ?_
     refine c_ret ?_
     replace hm := Option.some.inj hm
     subst hm
     refine d_retC () Try.results69 ?_ trivial (fun W h => ok_pre (H1 := [_, _]) (R1 := []) h (fun W hφ => hφ)) (.inr rfl)
     refine res_tmp ?_
     refine res_nil ?_
     exact rfl
    ·
     replace hm := ite_f hm (of_decide_eq_false h10)
     refine g_no rfl rfl rfl rfl rfl h10 ?_
     refine g_no rfl rfl rfl rfl rfl h10 ?_
     refine g_no rfl rfl rfl rfl rfl h10 ?_
     refine g_no rfl rfl rfl rfl rfl h10 ?_
     refine g_v rfl (r_pick0 rfl h10) ?_
     refine g_v rfl r_assign ?_
     refine g_nil ?_
     refine d_then ?_
     refine c_flat [(4, .bool false)] ⟨rfl, trivial⟩ (fun u => ?_)
     refine c_sta ⟨w0, M, (100030, g2, .cells #[.int .i64 p1.fTerm, .int .i64 p1.fVote, .slice Ap1_0 p1.fVoters.length cp1_0, .string p1.fSnap, .int .i64 p1.fLog.fBase, .int .i64 p1.fLog.fBaseTerm, .slice Ap1_1 p1.fLog.fEntries.length cp1_1] 44 (0, 0)) :: (100020, g1, .cells #[.int .i64 p0.fTerm, .int .i64 p0.fVote, .slice Ap0_0 p0.fVoters.length cp0_0, .string p0.fSnap, .int .i64 p0.fLog.fBase, .int .i64 p0.fLog.fBaseTerm, .slice Ap0_1 p0.fLog.fEntries.length cp0_1] 44 (0, 0)) :: H, R, φ⟩ (fun _ h => h) ?_
     refine c_ret ?_
     replace hm := Option.some.inj hm
     subst hm
     refine d_retC () Try.results69 ?_ trivial (fun W h => ok_pre (H1 := [_, _]) (R1 := []) h (fun W hφ => hφ)) (.inr rfl)
     refine res_tmp ?_
     refine res_nil ?_
     exact rfl
   ·
    replace hm := ite_f hm (of_decide_eq_false h9)
    refine g_no rfl rfl rfl rfl rfl h9 ?_
    refine g_no rfl rfl rfl rfl rfl h9 ?_
    refine g_no rfl rfl rfl rfl rfl h9 ?_
    refine g_no rfl rfl rfl rfl rfl h9 ?_
    refine g_v rfl (r_pick0 rfl h9) ?_
    refine g_v rfl r_move ?_
    refine g_no rfl rfl rfl rfl rfl rfl ?_
    refine g_no rfl rfl rfl rfl rfl rfl ?_
    refine g_no rfl rfl rfl rfl rfl rfl ?_
    refine g_no rfl rfl rfl rfl rfl rfl ?_
    refine g_no rfl rfl rfl rfl rfl rfl ?_
    refine g_v rfl (r_pick0 rfl rfl) ?_
    refine g_v rfl r_assign ?_
    refine g_nil ?_
    refine d_then ?_
    refine c_flat [(4, .bool false)] ⟨rfl, trivial⟩ (fun u => ?_)
    refine c_sta ⟨w0, M, (100030, g2, .cells #[.int .i64 p1.fTerm, .int .i64 p1.fVote, .slice Ap1_0 p1.fVoters.length cp1_0, .string p1.fSnap, .int .i64 p1.fLog.fBase, .int .i64 p1.fLog.fBaseTerm, .slice Ap1_1 p1.fLog.fEntries.length cp1_1] 44 (0, 0)) :: (100020, g1, .cells #[.int .i64 p0.fTerm, .int .i64 p0.fVote, .slice Ap0_0 p0.fVoters.length cp0_0, .string p0.fSnap, .int .i64 p0.fLog.fBase, .int .i64 p0.fLog.fBaseTerm, .slice Ap0_1 p0.fLog.fEntries.length cp0_1] 44 (0, 0)) :: H, R, φ⟩ (fun _ h => h) ?_
    refine c_ret ?_
    replace hm := Option.some.inj hm
    subst hm
    refine d_retC () Try.results69 ?_ trivial (fun W h => ok_pre (H1 := [_, _]) (R1 := []) h (fun W hφ => hφ)) (.inr rfl)
    refine res_tmp ?_
    refine res_nil ?_
    exact rfl
  ·
   replace hm := ite_f hm (bool_nt h8)
   refine g_no rfl rfl rfl rfl rfl h8 ?_
   refine g_no rfl rfl rfl rfl rfl h8 ?_
   refine g_no rfl rfl rfl rfl rfl h8 ?_
   refine g_no rfl rfl rfl rfl rfl h8 ?_
   refine g_v rfl (r_pick0 rfl h8) ?_
   refine g_v rfl r_move ?_
   refine g_no rfl rfl rfl rfl rfl rfl ?_
   refine g_no rfl rfl rfl rfl rfl rfl ?_
   refine g_no rfl rfl rfl rfl rfl rfl ?_
   refine g_no rfl rfl rfl rfl rfl rfl ?_
   refine g_no rfl rfl rfl rfl rfl rfl ?_
   refine g_v rfl (r_pick0 rfl rfl) ?_
   refine g_v rfl r_move ?_
   refine g_no rfl rfl rfl rfl rfl rfl ?_
   refine g_no rfl rfl rfl rfl rfl rfl ?_
   refine g_no rfl rfl rfl rfl rfl rfl ?_
   refine g_no rfl rfl rfl rfl rfl rfl ?_
   refine g_no rfl rfl rfl rfl rfl rfl ?_
   refine g_v rfl (r_pick0 rfl rfl) ?_
   refine g_v rfl r_assign ?_
   refine g_nil ?_
   refine d_then ?_
   refine c_flat [(4, .bool false)] ⟨rfl, trivial⟩ (fun u => ?_)
   refine c_sta ⟨w0, M, (100030, g2, .cells #[.int .i64 p1.fTerm, .int .i64 p1.fVote, .slice Ap1_0 p1.fVoters.length cp1_0, .string p1.fSnap, .int .i64 p1.fLog.fBase, .int .i64 p1.fLog.fBaseTerm, .slice Ap1_1 p1.fLog.fEntries.length cp1_1] 44 (0, 0)) :: (100020, g1, .cells #[.int .i64 p0.fTerm, .int .i64 p0.fVote, .slice Ap0_0 p0.fVoters.length cp0_0, .string p0.fSnap, .int .i64 p0.fLog.fBase, .int .i64 p0.fLog.fBaseTerm, .slice Ap0_1 p0.fLog.fEntries.length cp0_1] 44 (0, 0)) :: H, R, φ⟩ (fun _ h => h) ?_
   refine c_ret ?_
   replace hm := Option.some.inj hm
   subst hm
   refine d_retC () Try.results69 ?_ trivial (fun W h => ok_pre (H1 := [_, _]) (R1 := []) h (fun W hφ => hφ)) (.inr rfl)
   refine res_tmp ?_
   refine res_nil ?_
   exact rfl
 ·
  replace hm := ite_f hm (bool_nt h7)
  refine g_v rfl (r_pick0 rfl h7) ?_
  refine g_v rfl r_move ?_
  refine g_no rfl rfl rfl rfl rfl rfl ?_
  refine g_no rfl rfl rfl rfl rfl rfl ?_
  refine g_no rfl rfl rfl rfl rfl rfl ?_
  refine g_no rfl rfl rfl rfl rfl rfl ?_
  refine g_no rfl rfl rfl rfl rfl rfl ?_
  refine g_v rfl (r_pick0 rfl rfl) ?_
  refine g_v rfl r_move ?_
  refine g_no rfl rfl rfl rfl rfl rfl ?_
  refine g_no rfl rfl rfl rfl rfl rfl ?_
  refine g_no rfl rfl rfl rfl rfl rfl ?_
  refine g_no rfl rfl rfl rfl rfl rfl ?_
  refine g_no rfl rfl rfl rfl rfl rfl ?_
  refine g_v rfl (r_pick0 rfl rfl) ?_
  refine g_v rfl r_move ?_
  refine g_no rfl rfl rfl rfl rfl rfl ?_
  refine g_no rfl rfl rfl rfl rfl rfl ?_
  refine g_no rfl rfl rfl rfl rfl rfl ?_
  refine g_no rfl rfl rfl rfl rfl rfl ?_
  refine g_no rfl rfl rfl rfl rfl rfl ?_
  refine g_v rfl (r_pick0 rfl rfl) ?_
  refine g_v rfl r_assign ?_
  refine g_nil ?_
  refine d_then ?_
  refine c_flat [(4, .bool false)] ⟨rfl, trivial⟩ (fun u => ?_)
  refine c_sta ⟨w0, M, (100030, g2, .cells #[.int .i64 p1.fTerm, .int .i64 p1.fVote, .slice Ap1_0 p1.fVoters.length cp1_0, .string p1.fSnap, .int .i64 p1.fLog.fBase, .int .i64 p1.fLog.fBaseTerm, .slice Ap1_1 p1.fLog.fEntries.length cp1_1] 44 (0, 0)) :: (100020, g1, .cells #[.int .i64 p0.fTerm, .int .i64 p0.fVote, .slice Ap0_0 p0.fVoters.length cp0_0, .string p0.fSnap, .int .i64 p0.fLog.fBase, .int .i64 p0.fLog.fBaseTerm, .slice Ap0_1 p0.fLog.fEntries.length cp0_1] 44 (0, 0)) :: H, R, φ⟩ (fun _ h => h) ?_
  refine c_ret ?_
  replace hm := Option.some.inj hm
  subst hm
  refine d_retC () Try.results69 ?_ trivial (fun W h => ok_pre (H1 := [_, _]) (R1 := []) h (fun W hφ => hφ)) (.inr rfl)
  refine res_tmp ?_
  refine res_nil ?_
  exact rfl

noncomputable def m_law11_PlogLoads_j1 (x1 : Bool) (l91 : List ByteArray) : Option Bool :=
  (m_plog_Load l91).bind fun (z104 : GHard × Int) =>
  (m_ref11_Load l91).bind fun (z116 : GHard × Int) =>
  (m_ref11_Same z104.1 z116.1).bind fun x118 =>
  if x1 = true then
    if x118 = true then
      some (decide (z104.2 = z116.2))
    else
      some false
  else
    some false
noncomputable def m_law11_PlogLoads_j3 (l138 : List ByteArray) (i141 : Int) (s168 : ByteArray) : Option (((List ByteArray) × Int) ⊕ (List ByteArray)) :=
  (app 16 l138 [s168]).bind fun l170 =>
  some (.inl (l170, w64 (i141 + 1)))
noncomputable def m_law11_PlogLoads_s2 (p0 : List ByteArray) (l138 : List ByteArray) (i141 : Int) : Option (((List ByteArray) × Int) ⊕ (List ByteArray)) :=
  if i141 < (p0.length : Int) then
    if i141 < 40 then
      (at_ p0 i141).bind fun x162 =>
      if 400 < (x162.size : Int) then
        (scutHi x162 400).bind fun s175 =>
        m_law11_PlogLoads_j3 l138 i141 s175
      else
        m_law11_PlogLoads_j3 l138 i141 x162
    else
      some (.inr l138)
  else
    some (.inr l138)
noncomputable def m_law11_PlogLoads (p0 : List ByteArray) : Option Bool :=
  (m_law11_awake).bind fun x1 =>
  (loop (fun s => m_law11_PlogLoads_s2 p0 s.1 s.2) (([] : List ByteArray), 0)).bind fun e => m_law11_PlogLoads_j1 x1 e
theorem c_law11_PlogLoads {w0 : World} {M : Nat → Prop} {H : List (Nat × Nat × Obj)} {R : List (Nat × Row)} {φ : World → Prop} (p0 : List ByteArray) (Ap0_0 : Option Addr) (cp0_0 : Nat) (hcp0_0 : p0.length ≤ cp0_0) (fp0_0 : ∀ W, (Sta.mk w0 M H R φ).ok W → Cl W Ap0_0 (p0.flatMap (fun x : ByteArray => [Value.string x]))) (r : Bool) (hm : m_law11_PlogLoads p0 = some r) :
    Cn Try.prog 14 #[.slice Ap0_0 p0.length cp0_0] ⟨w0, M, H, R, φ⟩ (fun x : Unit => .bool r) (fun x => True) (fun x => ⟨w0, M, H, R, φ⟩) := by
 unfold m_law11_PlogLoads at hm
 refine cn_intro (fn := Try.f14) (N := 58) Try.func14 rfl Try.ntmps14 rfl ?_
 refine c_seq ?_
 refine c_region ?_
 refine g_v rfl r_assign ?_
 refine g_nil ?_
 refine d_then ?_
 refine c_seq ?_
 refine c_region ?_
 replace hm := bnd hm
 obtain ⟨x1, hx2, hm⟩ := hm
 refine g_cn ⟨w0, M, _, _, φ⟩ (fun _ h => h) Try.call15 rfl rfl (c_law11_awake  _ hx2) (fun _ _ => ?_)
 refine g_v rfl r_assign ?_
 refine g_nil ?_
 refine d_then ?_
 refine c_seq ?_
 refine c_region ?_
 refine g_v rfl r_assign ?_
 refine g_nil ?_
 refine d_then ?_
 refine c_seq ?_
 refine c_sta _ (fun W h => nilR h 3 9 1) ?_
 refine c_cut (ι := (List ByteArray) × Option Addr × Nat) [3, 4] (fun ⟨l91, A92, c93⟩ => [(4, .slice A92 l91.length c93)]) (fun ⟨l91, A92, c93⟩ => ⟨w0, M, H, (3, ⟨.slice A92 l91.length c93, 9, 1, l91.length, l91.flatMap (fun x : ByteArray => [Value.string x])⟩) :: R, φ⟩) (fun ⟨l91, A92, c93⟩ => m_law11_PlogLoads_j1 x1 l91 = some r ∧ l91.length ≤ c93) ?_ (fun ⟨l91, A92, c93⟩ u ⟨hm, hc93⟩ => ?_)
 ·
  refine c_seq ?_
  refine c_region ?_
  refine g_v rfl r_assign ?_
  refine g_nil ?_
  refine d_then ?_
  refine c_block ?_
  replace hm := bnd hm
  obtain ⟨out2, hl2, hr2⟩ := hm
  obtain ⟨n159', hl2⟩ := loop_lp hl2
  refine c_loopU (ι := Nat × (List ByteArray) × Int × Option Addr × Nat) [0, 3, 4, 5] (fun ⟨n159, l138, i141, A139, c140⟩ => [(4, .slice A139 l138.length c140), (5, .int .i64 i141)]) (fun ⟨n159, l138, i141, A139, c140⟩ => ⟨w0, M, H, (3, ⟨.slice A139 l138.length c140, 9, 1, l138.length, l138.flatMap (fun x : ByteArray => [Value.string x])⟩) :: R, φ⟩) (fun ⟨n159, l138, i141, A139, c140⟩ => Lp (fun s => m_law11_PlogLoads_s2 p0 s.1 s.2) n159 (l138, i141) out2 ∧ l138.length ≤ c140) (fun ⟨n159, l138, i141, A139, c140⟩ => n159) (n159', ([] : List ByteArray), 0, none, 0) ⟨hl2, (Nat.le_refl 0)⟩ ⟨rfl, rfl, rfl, rfl, trivial⟩ (fun W h => h.phi (fun W hφ => hφ)) (fun ⟨n159, l138, i141, A139, c140⟩ u ⟨hlp, hc140⟩ => ?_)
  obtain ⟨o2, hm, hnx2⟩ := lp_step hlp
  clear hlp
  replace hm : m_law11_PlogLoads_s2 p0 l138 i141 = some o2 := hm
  unfold m_law11_PlogLoads_s2 at hm
  refine c_flat [(0, .slice Ap0_0 p0.length cp0_0), (3, .bool x1), (4, .slice A139 l138.length c140), (5, .int .i64 i141)] ⟨rfl, rfl, rfl, rfl, trivial⟩ (fun u => ?_)
  refine c_sta ⟨w0, M, H, (3, ⟨.slice A139 l138.length c140, 9, 1, l138.length, l138.flatMap (fun x : ByteArray => [Value.string x])⟩) :: R, φ⟩ (fun _ h => h) ?_
  refine c_seq ?_
  refine c_seq ?_
  refine c_region ?_
  refine g_v rfl r_move ?_
  refine g_v rfl r_move ?_
  refine g_v rfl (r_lenL Try.underlying58 rfl) ?_
  refine g_v rfl (r_lss rfl rfl) ?_
  refine g_v rfl r_move ?_
  refine g_if rfl rfl rfl rfl rfl (fun h160 => ?_) (fun h160 => ?_)
  ·
   replace hm := ite_t hm (of_decide_eq_true h160)
   refine g_v rfl r_move ?_
   refine g_do rfl rfl rfl rfl rfl h160 ?_
   refine g_v rfl (r_lss rfl rfl) ?_
   refine g_v rfl (r_pick1 rfl h160) ?_
   refine g_nil ?_
   refine d_then ?_
   refine c_cond rfl (fun h161 => ?_) (fun h161 => ?_)
   ·
    replace hm := ite_t hm (of_decide_eq_true h161)
    refine c_skip ?_
    refine d_then ?_
    refine c_seq ?_
    refine c_block ?_
    refine c_seq ?_
    refine c_region ?_
    refine g_v rfl r_move ?_
    refine g_v rfl r_move ?_
    replace hm := bnd hm
    obtain ⟨x162, hx162, hm⟩ := hm
    refine g_know _ (fun W hS => cl_at (p := (Sta.mk w0 M H R φ).ok) (sz := 1) (fun _ => rfl) (by decide) (ok_pre (H1 := []) (R1 := [_]) hS (fun W h => h)) fp0_0 hx162) ?_
    rintro ⟨ad163, hA165, f164⟩
    refine g_v rfl (r_ix Try.underlying58 Try.sizeOf9 rfl hA165 rfl hx162) ?_
    refine g_v rfl (r_ld rfl Try.isAgg9 (fun W hS => Cl.head (f164 W (ok_pre (H1 := []) (R1 := [_]) hS (fun W h => h))))) ?_
    refine g_v rfl r_assign ?_
    refine g_nil ?_
    refine d_then ?_
    refine c_flat [(0, .slice Ap0_0 p0.length cp0_0), (3, .bool x1), (4, .slice A139 l138.length c140), (5, .int .i64 i141), (6, .string x162)] ⟨rfl, rfl, rfl, rfl, rfl, trivial⟩ (fun u => ?_)
    refine c_sta ⟨w0, M, H, (3, ⟨.slice A139 l138.length c140, 9, 1, l138.length, l138.flatMap (fun x : ByteArray => [Value.string x])⟩) :: R, φ⟩ (fun _ h => h) ?_
    refine c_seq ?_
    refine c_cut (ι := ByteArray) [0, 3, 4, 5, 6] (fun s168 => [(6, .string s168)]) (fun s168 => ⟨w0, M, H, (3, ⟨.slice A139 l138.length c140, 9, 1, l138.length, l138.flatMap (fun x : ByteArray => [Value.string x])⟩) :: R, φ⟩) (fun s168 => m_law11_PlogLoads_j3 l138 i141 s168 = some o2) ?_ (fun s168 u hm => ?_)
    ·
     refine c_seq ?_
     refine c_region ?_
     refine g_v rfl r_move ?_
     refine g_v rfl (r_len Try.underlying9 rfl) ?_
     refine g_v rfl (r_gtr rfl rfl) ?_
     refine g_nil ?_
     refine d_then ?_
     refine c_cond rfl (fun h174 => ?_) (fun h174 => ?_)
     ·
      replace hm := ite_t hm (of_decide_eq_true h174)
      refine c_region ?_
      refine g_v rfl r_move ?_
      replace hm := bnd hm
      obtain ⟨s175, hs175, hm⟩ := hm
      refine g_v rfl (r_scutHi Try.underlying9 rfl rfl hs175) ?_
      refine g_v rfl r_assign ?_
      refine g_nil ?_
      exact d_round s175 hm Nat.zero_lt_one ⟨rfl, rfl, rfl, rfl, rfl, trivial⟩ (fun W h => h.phi (fun W hφ => hφ))
     ·
      replace hm := ite_f hm (of_decide_eq_false h174)
      refine c_skip ?_
      exact d_round x162 hm Nat.zero_lt_one ⟨rfl, rfl, rfl, rfl, rfl, trivial⟩ (fun W h => h.phi (fun W hφ => hφ))
    ·
     unfold m_law11_PlogLoads_j3 at hm
     refine d_flat [(0, .slice Ap0_0 p0.length cp0_0), (3, .bool x1), (4, .slice A139 l138.length c140), (5, .int .i64 i141), (6, .string s168)] ⟨rfl, rfl, rfl, rfl, rfl, trivial⟩ (fun u => ?_)
     refine d_sta ⟨w0, M, H, (3, ⟨.slice A139 l138.length c140, 9, 1, l138.length, l138.flatMap (fun x : ByteArray => [Value.string x])⟩) :: R, φ⟩ (fun _ h => h) ?_
     refine d_then ?_
     refine c_region ?_
     refine g_v rfl r_move ?_
     refine g_v rfl r_move ?_
     refine g_e rfl (e_lit (tag := 100340) (l := [s168]) (enc := (fun x : ByteArray => [Value.string x])) (sz := 1) rfl Try.underlying58 (lit9_14 _) rfl rfl (fun _ => rfl)) (fun g169 _ => ?_)
     replace hm := bnd hm
     obtain ⟨l170, hl170, hm⟩ := hm
     refine g_e rfl (e_appR (enc := (fun x : ByteArray => [Value.string x])) (l := l138) (l1 := [s168]) (l2 := l170) (tag := 3) Try.underlying58 inf9_15 rfl (by decide) (by decide) (fun _ => rfl) (fun _ => rfl) rfl hc140 rfl rfl (fun W hS => rowCl (tag := 100340) rfl W hS) hl170) (fun ⟨A171, c172⟩ hc172 => ?_)
     refine g_v rfl r_assign ?_
     refine g_nil ?_
     refine d_normal_block ?_
     refine d_then ?_
     refine c_region ?_
     refine g_v rfl r_move ?_
     refine g_v rfl (r_add rfl rfl rfl) ?_
     refine g_v rfl r_assign ?_
     refine g_nil ?_
     obtain ⟨n173, hn173, hlp⟩ := nx_inl hm hnx2
     exact d_round (n173, l170, w64 (i141 + 1), A171, c172) ⟨hlp, hc172⟩ hn173 ⟨rfl, rfl, rfl, rfl, trivial⟩ (fun W h => ((h.shut (t := 100340) rfl).phi (fun _ hh => hh.1)).phi (fun W hφ => hφ))
   ·
    replace hm := ite_f hm (of_decide_eq_false h161)
    refine c_exit ?_
    refine d_exit_then ?_
    refine d_exit_then ?_
    refine d_exit_block ?_
    replace hm := nx_out (C := (fun e => m_law11_PlogLoads_j1 x1 e = some r)) hm hnx2 hr2
    exact d_round (l138, A139, c140) ⟨hm, hc140⟩ Nat.zero_lt_one ⟨rfl, rfl, trivial⟩ (fun W h => h.phi (fun W hφ => hφ))
  ·
   replace hm := ite_f hm (of_decide_eq_false h160)
   refine g_no rfl rfl rfl rfl rfl h160 ?_
   refine g_v rfl (r_pick0 rfl h160) ?_
   refine g_nil ?_
   refine d_then ?_
   refine c_cond0 rfl rfl ?_
   refine c_exit ?_
   refine d_exit_then ?_
   refine d_exit_then ?_
   refine d_exit_block ?_
   replace hm := nx_out (C := (fun e => m_law11_PlogLoads_j1 x1 e = some r)) hm hnx2 hr2
   exact d_round (l138, A139, c140) ⟨hm, hc140⟩ Nat.zero_lt_one ⟨rfl, rfl, trivial⟩ (fun W h => h.phi (fun W hφ => hφ))
 ·
  unfold m_law11_PlogLoads_j1 at hm
  refine d_flat [(3, .bool x1), (4, .slice A92 l91.length c93)] ⟨rfl, rfl, trivial⟩ (fun u => ?_)
  refine d_sta ⟨w0, M, H, (3, ⟨.slice A92 l91.length c93, 9, 1, l91.length, l91.flatMap (fun x : ByteArray => [Value.string x])⟩) :: R, φ⟩ (fun _ h => h) ?_
  refine d_then ?_
  refine c_seq ?_
  refine c_region ?_
  refine g_v rfl r_move ?_
  replace hm := bnd hm
  obtain ⟨⟨x94, x95⟩, hx96, hm⟩ := hm
  refine g_cn ⟨w0, M, _, _, φ⟩ (fun _ h => h) Try.call67 rfl rfl (c_plog_Load l91 A92 c93 hc93 (fun W hS => rowCl (tag := 3) rfl W hS) _ hx96) (fun ⟨A97, c98, A100, c101⟩ ⟨hc98, hc101⟩ => ?_)
  refine g_abs (fun φ103 q103' => ?_)
  have q103 : ∀ W, φ103 W → φ W := fun W h => (q103' W h).1
  have f99 := fun (W : World) (h : φ103 W) => (q103' W h).2.1
  have f102 := fun (W : World) (h : φ103 W) => (q103' W h).2.2
  refine g_v rfl r_move ?_
  refine g_v rfl (r_extract rfl rfl) ?_
  refine g_v rfl (r_extract rfl rfl) ?_
  refine g_e rfl (e_alloc 100070 Try.zeroValue44) (fun g105 _ => ?_)
  refine g_storeL (tag := 100070) rfl rfl rfl rfl Try.sizeOf44 rfl rfl ?_
  refine g_v rfl r_assign ?_
  refine g_nil ?_
  refine d_then ?_
  refine c_seq ?_
  refine c_region ?_
  refine g_v rfl r_move ?_
  replace hm := bnd hm
  obtain ⟨⟨x106, x107⟩, hx108, hm⟩ := hm
  refine g_cn ⟨w0, M, _, _, φ103⟩ (fun _ h => h) Try.call68 rfl rfl (c_ref11_Load l91 A92 c93 hc93 (fun W hS => rowCl (tag := 3) rfl W hS) _ hx108) (fun ⟨A109, c110, A112, c113⟩ ⟨hc110, hc113⟩ => ?_)
  refine g_abs (fun φ115 q115' => ?_)
  have q115 : ∀ W, φ115 W → φ103 W := fun W h => (q115' W h).1
  have f111 := fun (W : World) (h : φ115 W) => (q115' W h).2.1
  have f114 := fun (W : World) (h : φ115 W) => (q115' W h).2.2
  refine g_v rfl r_move ?_
  refine g_v rfl (r_extract rfl rfl) ?_
  refine g_v rfl (r_extract rfl rfl) ?_
  refine g_e rfl (e_alloc 100090 Try.zeroValue44) (fun g117 _ => ?_)
  refine g_storeL (tag := 100090) rfl rfl rfl rfl Try.sizeOf44 rfl rfl ?_
  refine g_v rfl r_assign ?_
  refine g_nil ?_
  refine d_then ?_
  refine c_flat [(3, .bool x1), (7, .pointer (some ⟨g105, 0, none⟩)), (8, .int .i64 x95), (9, .pointer (some ⟨g117, 0, none⟩)), (10, .int .i64 x107)] ⟨rfl, rfl, rfl, rfl, rfl, trivial⟩ (fun u => ?_)
  refine c_sta ⟨w0, M, (100090, g117, .cells #[.int .i64 x106.fTerm, .int .i64 x106.fVote, .slice A109 x106.fVoters.length c110, .string x106.fSnap, .int .i64 x106.fLog.fBase, .int .i64 x106.fLog.fBaseTerm, .slice A112 x106.fLog.fEntries.length c113] 44 (0, 0)) :: (100070, g105, .cells #[.int .i64 x94.fTerm, .int .i64 x94.fVote, .slice A97 x94.fVoters.length c98, .string x94.fSnap, .int .i64 x94.fLog.fBase, .int .i64 x94.fLog.fBaseTerm, .slice A100 x94.fLog.fEntries.length c101] 44 (0, 0)) :: H, (3, ⟨.slice A92 l91.length c93, 9, 1, l91.length, l91.flatMap (fun x : ByteArray => [Value.string x])⟩) :: R, φ115⟩ (fun _ h => h) ?_
  refine c_seq ?_
  refine c_region ?_
  refine g_v rfl (r_loadA (tag := 100070) rfl rfl Try.isAgg44 Try.sizeOf44 rfl rfl) ?_
  refine g_v rfl (r_loadA (tag := 100090) rfl rfl Try.isAgg44 Try.sizeOf44 rfl rfl) ?_
  replace hm := bnd hm
  obtain ⟨x118, hx119, hm⟩ := hm
  refine g_cn ⟨w0, M, _, _, φ115⟩ (fun _ h => h) Try.call69 rfl rfl (c_ref11_Same x94 A97 c98 hc98 (fun W hS => f99 W (q115 _ hS.now)) A100 c101 hc101 (fun W hS => f102 W (q115 _ hS.now)) x106 A109 c110 hc110 (fun W hS => f111 W hS.now) A112 c113 hc113 (fun W hS => f114 W hS.now) _ hx119) (fun _ _ => ?_)
  refine g_v rfl r_assign ?_
  refine g_nil ?_
  refine d_then ?_
  refine c_seq ?_
  refine c_region ?_
  refine g_v rfl r_move ?_
  refine g_v rfl r_move ?_
  refine g_if rfl rfl rfl rfl rfl (fun h120 => ?_) (fun h120 => ?_)
  ·
   replace hm := ite_t hm h120
   refine g_v rfl r_move ?_
   refine g_v rfl (r_pick1 rfl h120) ?_
   refine g_v rfl r_move ?_
   refine g_if rfl rfl rfl rfl rfl (fun h121 => ?_) (fun h121 => ?_)
   ·
    replace hm := ite_t hm h121
    refine g_v rfl r_move ?_
    refine g_do rfl rfl rfl rfl rfl h121 ?_
    refine g_v rfl r_move ?_
    refine g_do rfl rfl rfl rfl rfl h121 ?_
    refine g_v rfl (r_eql rfl rfl) ?_
    refine g_v rfl (r_pick1 rfl h121) ?_
    refine g_v rfl r_assign ?_
    refine g_nil ?_
    refine d_then ?_
    refine c_flat [(2, .bool (decide (x95 = x107)))] ⟨rfl, trivial⟩ (fun u => ?_)
    refine c_sta ⟨w0, M, (100090, g117, .cells #[.int .i64 x106.fTerm, .int .i64 x106.fVote, .slice A109 x106.fVoters.length c110, .string x106.fSnap, .int .i64 x106.fLog.fBase, .int .i64 x106.fLog.fBaseTerm, .slice A112 x106.fLog.fEntries.length c113] 44 (0, 0)) :: (100070, g105, .cells #[.int .i64 x94.fTerm, .int .i64 x94.fVote, .slice A97 x94.fVoters.length c98, .string x94.fSnap, .int .i64 x94.fLog.fBase, .int .i64 x94.fLog.fBaseTerm, .slice A100 x94.fLog.fEntries.length c101] 44 (0, 0)) :: H, (3, ⟨.slice A92 l91.length c93, 9, 1, l91.length, l91.flatMap (fun x : ByteArray => [Value.string x])⟩) :: R, φ115⟩ (fun _ h => h) ?_
    refine c_ret ?_
    replace hm := Option.some.inj hm
    subst hm
    refine d_retC () Try.results14 ?_ trivial (fun W h => ok_pre (H1 := [_, _]) (R1 := [_]) h (fun W hφ => (q103 _ (q115 _ hφ)))) (.inr rfl)
    refine res_tmp ?_
    refine res_nil ?_
    exact rfl
   ·
    replace hm := ite_f hm (bool_nt h121)
    refine g_no rfl rfl rfl rfl rfl h121 ?_
    refine g_no rfl rfl rfl rfl rfl h121 ?_
    refine g_v rfl (r_pick0 rfl h121) ?_
    refine g_v rfl r_assign ?_
    refine g_nil ?_
    refine d_then ?_
    refine c_flat [(2, .bool false)] ⟨rfl, trivial⟩ (fun u => ?_)
    refine c_sta ⟨w0, M, (100090, g117, .cells #[.int .i64 x106.fTerm, .int .i64 x106.fVote, .slice A109 x106.fVoters.length c110, .string x106.fSnap, .int .i64 x106.fLog.fBase, .int .i64 x106.fLog.fBaseTerm, .slice A112 x106.fLog.fEntries.length c113] 44 (0, 0)) :: (100070, g105, .cells #[.int .i64 x94.fTerm, .int .i64 x94.fVote, .slice A97 x94.fVoters.length c98, .string x94.fSnap, .int .i64 x94.fLog.fBase, .int .i64 x94.fLog.fBaseTerm, .slice A100 x94.fLog.fEntries.length c101] 44 (0, 0)) :: H, (3, ⟨.slice A92 l91.length c93, 9, 1, l91.length, l91.flatMap (fun x : ByteArray => [Value.string x])⟩) :: R, φ115⟩ (fun _ h => h) ?_
    refine c_ret ?_
    replace hm := Option.some.inj hm
    subst hm
    refine d_retC () Try.results14 ?_ trivial (fun W h => ok_pre (H1 := [_, _]) (R1 := [_]) h (fun W hφ => (q103 _ (q115 _ hφ)))) (.inr rfl)
    refine res_tmp ?_
    refine res_nil ?_
    exact rfl
  ·
   replace hm := ite_f hm (bool_nt h120)
   refine g_v rfl (r_pick0 rfl h120) ?_
   refine g_v rfl r_move ?_
   refine g_no rfl rfl rfl rfl rfl rfl ?_
   refine g_no rfl rfl rfl rfl rfl rfl ?_
   refine g_no rfl rfl rfl rfl rfl rfl ?_
   refine g_v rfl (r_pick0 rfl rfl) ?_
   refine g_v rfl r_assign ?_
   refine g_nil ?_
   refine d_then ?_
   refine c_flat [(2, .bool false)] ⟨rfl, trivial⟩ (fun u => ?_)
   refine c_sta ⟨w0, M, (100090, g117, .cells #[.int .i64 x106.fTerm, .int .i64 x106.fVote, .slice A109 x106.fVoters.length c110, .string x106.fSnap, .int .i64 x106.fLog.fBase, .int .i64 x106.fLog.fBaseTerm, .slice A112 x106.fLog.fEntries.length c113] 44 (0, 0)) :: (100070, g105, .cells #[.int .i64 x94.fTerm, .int .i64 x94.fVote, .slice A97 x94.fVoters.length c98, .string x94.fSnap, .int .i64 x94.fLog.fBase, .int .i64 x94.fLog.fBaseTerm, .slice A100 x94.fLog.fEntries.length c101] 44 (0, 0)) :: H, (3, ⟨.slice A92 l91.length c93, 9, 1, l91.length, l91.flatMap (fun x : ByteArray => [Value.string x])⟩) :: R, φ115⟩ (fun _ h => h) ?_
   refine c_ret ?_
   replace hm := Option.some.inj hm
   subst hm
   refine d_retC () Try.results14 ?_ trivial (fun W h => ok_pre (H1 := [_, _]) (R1 := [_]) h (fun W hφ => (q103 _ (q115 _ hφ)))) (.inr rfl)
   refine res_tmp ?_
   refine res_nil ?_
   exact rfl
end Go.Proofs.Ytildknbbpkbkeaa
