import Derived.Test.YtildknbbpkbkeaaSX
set_option maxRecDepth 16384
set_option maxHeartbeats 4000000
set_option linter.unusedVariables false
set_option linter.unusedSimpArgs false
namespace Go.Proofs.Ytildknbbpkbkeaa
open Go.RowKit Go.Proofs.YtildknbbpkbkeaaW.PrintLast
noncomputable def m_plog_within (p0 : Int) : Option Bool :=
  if 0 ≤ p0 then
    some (decide (p0 ≤ 1099511627776))
  else
    some false
theorem c_plog_within {w0 : World} {M : Nat → Prop} {H : List (Nat × Nat × Obj)} {R : List (Nat × Row)} {φ : World → Prop} (p0 : Int) (r : Bool) (hm : m_plog_within p0 = some r) :
    Cn Try.prog 71 #[.int .i64 p0] ⟨w0, M, H, R, φ⟩ (fun x : Unit => .bool r) (fun x => True) (fun x => ⟨w0, M, H, R, φ⟩) := by
 unfold m_plog_within at hm
 refine cn_intro (fn := Try.f71) (N := 9) Try.func71 rfl Try.ntmps71 rfl ?_
 refine c_seq ?_
 refine c_region ?_
 refine g_v rfl r_assign ?_
 refine g_nil ?_
 refine d_then ?_
 refine c_seq ?_
 refine c_region ?_
 refine g_v rfl r_move ?_
 refine g_v rfl (r_geq rfl rfl) ?_
 refine g_v rfl r_move ?_
 refine g_if rfl rfl rfl rfl rfl (fun h1 => ?_) (fun h1 => ?_)
 ·
  replace hm := ite_t hm (of_decide_eq_true h1)
  refine g_v rfl r_move ?_
  refine g_do rfl rfl rfl rfl rfl h1 ?_
  refine g_v rfl (r_leq rfl rfl) ?_
  refine g_v rfl (r_pick1 rfl h1) ?_
  refine g_v rfl r_assign ?_
  refine g_nil ?_
  refine d_then ?_
  refine c_ret ?_
  replace hm := Option.some.inj hm
  subst hm
  refine d_retC () Try.results71 ?_ trivial (fun W h => ok_pre (H1 := []) (R1 := []) h (fun W hφ => hφ)) (.inr rfl)
  refine res_tmp ?_
  refine res_nil ?_
  exact rfl
 ·
  replace hm := ite_f hm (of_decide_eq_false h1)
  refine g_no rfl rfl rfl rfl rfl h1 ?_
  refine g_v rfl (r_pick0 rfl h1) ?_
  refine g_v rfl r_assign ?_
  refine g_nil ?_
  refine d_then ?_
  refine c_ret ?_
  replace hm := Option.some.inj hm
  subst hm
  refine d_retC () Try.results71 ?_ trivial (fun W h => ok_pre (H1 := []) (R1 := []) h (fun W hφ => hφ)) (.inr rfl)
  refine res_tmp ?_
  refine res_nil ?_
  exact rfl

structure GEntry where
  fTerm : Int
  fKind : Int
  fData : ByteArray
  deriving DecidableEq
def GEntry.enc (e : GEntry) : List Value := [.int .i64 e.fTerm, .int .i64 e.fKind, .string e.fData]
structure GLog where
  fBase : Int
  fBaseTerm : Int
  fEntries : List GEntry
noncomputable def m_plog_Last (p0 : GLog) : Option Int :=
  some (w64 (p0.fBase + (p0.fEntries.length : Int)))
theorem c_plog_Last {w0 : World} {M : Nat → Prop} {H : List (Nat × Nat × Obj)} {R : List (Nat × Row)} {φ : World → Prop} (p0 : GLog) (Ap0_0 : Option Addr) (cp0_0 : Nat) (hcp0_0 : p0.fEntries.length ≤ cp0_0) (fp0_0 : ∀ W, (Sta.mk w0 M H R φ).ok W → Cl W Ap0_0 (p0.fEntries.flatMap GEntry.enc)) (r : Int) (hm : m_plog_Last p0 = some r) :
    Cn Try.prog 38 #[.agg #[.int .i64 p0.fBase, .int .i64 p0.fBaseTerm, .slice Ap0_0 p0.fEntries.length cp0_0]] ⟨w0, M, H, R, φ⟩ (fun x : Unit => .int .i64 r) (fun x => True) (fun x => ⟨w0, M, H, R, φ⟩) := by
 unfold m_plog_Last at hm
 refine cn_intro (fn := Try.f38) (N := 9) Try.func38 rfl Try.ntmps38 rfl ?_
 refine c_seq ?_
 refine c_region ?_
 refine g_e rfl (e_box 100010 rfl) (fun g1 _ => ?_)
 refine g_v rfl r_assign ?_
 refine g_nil ?_
 refine d_then ?_
 refine c_seq ?_
 refine c_region ?_
 refine g_v rfl (r_field (n := 0) Try.underlying26 rfl Try.sizeOf3 rfl rfl) ?_
 refine g_v rfl (r_load (tag := 100010) rfl rfl rfl Try.isAgg3) ?_
 refine g_v rfl (r_field (n := 2) Try.underlying26 rfl Try.sizeOf24 rfl rfl) ?_
 refine g_v rfl (r_load (tag := 100010) rfl rfl rfl Try.isAgg24) ?_
 refine g_v rfl (r_lenL Try.underlying24 rfl) ?_
 refine g_v rfl (r_add rfl rfl rfl) ?_
 refine g_v rfl r_assign ?_
 refine g_nil ?_
 refine d_then ?_
 refine c_flat [(2, .int .i64 (w64 (p0.fBase + (p0.fEntries.length : Int))))] ⟨rfl, trivial⟩ (fun u => ?_)
 refine c_sta ⟨w0, M, (100010, g1, .cells #[.int .i64 p0.fBase, .int .i64 p0.fBaseTerm, .slice Ap0_0 p0.fEntries.length cp0_0] 26 (0, 0)) :: H, R, φ⟩ (fun _ h => h) ?_
 refine c_ret ?_
 replace hm := Option.some.inj hm
 subst hm
 refine d_retC () Try.results38 ?_ trivial (fun W h => ok_pre (H1 := [_]) (R1 := []) h (fun W hφ => hφ)) (.inr rfl)
 refine res_tmp ?_
 refine res_nil ?_
 exact rfl

theorem bld35_0  : ∀ W, (Instr.build 35 #[]).run Try.prog W = .ok (.agg #[.int .i64 0, .int .i64 0, .string (⟨#[]⟩ : ByteArray)]) W := fun _ => by kernel_rfl
noncomputable def m_plog_Get (p0 : GLog) (p1 : Int) : Option (GEntry × Bool) :=
  if p1 ≤ p0.fBase then
    some ((⟨0, 0, (⟨#[]⟩ : ByteArray)⟩ : GEntry), false)
  else
    (m_plog_Last p0).bind fun x4 =>
    if x4 < p1 then
      some ((⟨0, 0, (⟨#[]⟩ : ByteArray)⟩ : GEntry), false)
    else
      (at_ p0.fEntries (w64 ((w64 (p1 - p0.fBase)) - 1))).bind fun x7 =>
      some (x7, true)
theorem c_plog_Get {w0 : World} {M : Nat → Prop} {H : List (Nat × Nat × Obj)} {R : List (Nat × Row)} {φ : World → Prop} (p0 : GLog) (Ap0_0 : Option Addr) (cp0_0 : Nat) (hcp0_0 : p0.fEntries.length ≤ cp0_0) (fp0_0 : ∀ W, (Sta.mk w0 M H R φ).ok W → Cl W Ap0_0 (p0.fEntries.flatMap GEntry.enc)) (p1 : Int) (r : GEntry × Bool) (hm : m_plog_Get p0 p1 = some r) :
    Cn Try.prog 21 #[.agg #[.int .i64 p0.fBase, .int .i64 p0.fBaseTerm, .slice Ap0_0 p0.fEntries.length cp0_0], .int .i64 p1] ⟨w0, M, H, R, φ⟩ (fun x : Unit => .tuple #[.agg #[.int .i64 r.1.fTerm, .int .i64 r.1.fKind, .string r.1.fData], .bool r.2]) (fun x => True) (fun x => ⟨w0, M, H, R, φ⟩) := by
 unfold m_plog_Get at hm
 refine cn_intro (fn := Try.f21) (N := 26) Try.func21 rfl Try.ntmps21 rfl ?_
 refine c_seq ?_
 refine c_region ?_
 refine g_e rfl (e_box 100020 rfl) (fun g1 _ => ?_)
 refine g_e rfl (e_alloc 100040 Try.zeroValue35) (fun g2 _ => ?_)
 refine g_v rfl r_assign ?_
 refine g_nil ?_
 refine d_then ?_
 refine c_seq ?_
 refine c_seq ?_
 refine c_region ?_
 refine g_v rfl r_move ?_
 refine g_v rfl (r_field (n := 0) Try.underlying26 rfl Try.sizeOf3 rfl rfl) ?_
 refine g_v rfl (r_load (tag := 100020) rfl rfl rfl Try.isAgg3) ?_
 refine g_v rfl (r_leq rfl rfl) ?_
 refine g_v rfl r_move ?_
 refine g_if rfl rfl rfl rfl rfl (fun h3 => ?_) (fun h3 => ?_)
 ·
  replace hm := ite_f hm (of_decide_eq_false h3)
  refine g_v rfl r_move ?_
  refine g_do rfl rfl rfl rfl rfl h3 ?_
  refine g_v rfl (r_loadA (tag := 100020) rfl rfl Try.isAgg26 Try.sizeOf26 rfl rfl) ?_
  refine g_do rfl rfl rfl rfl rfl h3 ?_
  replace hm := bnd hm
  obtain ⟨x4, hx5, hm⟩ := hm
  refine g_cn ⟨w0, M, _, _, φ⟩ (fun _ h => h) Try.call38 rfl rfl (c_plog_Last p0 Ap0_0 cp0_0 hcp0_0 (fun W hS => fp0_0 W (ok_pre (H1 := [_, _]) (R1 := []) hS (fun W h => h))) _ hx5) (fun _ _ => ?_)
  refine g_do rfl rfl rfl rfl rfl h3 ?_
  refine g_v rfl (r_gtr rfl rfl) ?_
  refine g_v rfl (r_pick0 rfl h3) ?_
  refine g_nil ?_
  refine d_then ?_
  refine c_flat [(1, .int .i64 p1), (2, .pointer (some ⟨g1, 0, none⟩)), (4, .pointer (some ⟨g2, 0, none⟩)), (15, .bool (decide (x4 < p1)))] ⟨rfl, rfl, rfl, rfl, trivial⟩ (fun u => ?_)
  refine c_sta ⟨w0, M, (100040, g2, .cells #[.int .i64 0, .int .i64 0, .string (⟨#[]⟩ : ByteArray)] 35 (0, 0)) :: (100020, g1, .cells #[.int .i64 p0.fBase, .int .i64 p0.fBaseTerm, .slice Ap0_0 p0.fEntries.length cp0_0] 26 (0, 0)) :: H, R, φ⟩ (fun _ h => h) ?_
  refine c_cond rfl (fun h6 => ?_) (fun h6 => ?_)
  ·
   replace hm := ite_t hm (of_decide_eq_true h6)
   refine c_seq ?_
   refine c_region ?_
   refine g_v rfl (r_build _ rfl (bld35_0)) ?_
   refine g_storeL (tag := 100040) rfl rfl rfl rfl Try.sizeOf35 rfl rfl ?_
   refine g_v rfl r_assign ?_
   refine g_nil ?_
   refine d_then ?_
   refine c_ret ?_
   refine d_ret_then ?_
   replace hm := Option.some.inj hm
   subst hm
   refine d_retC () Try.results21 ?_ trivial (fun W h => ok_pre (H1 := [_, _]) (R1 := []) h (fun W hφ => hφ)) (.inr rfl)
   refine res_agg (tag := 100040) rfl rfl Try.isAgg35 Try.sizeOf35 ?_
   refine res_tmp ?_
   refine res_nil ?_
   exact rfl
  ·
   replace hm := ite_f hm (of_decide_eq_false h6)
   refine c_skip ?_
   refine d_then ?_
   refine c_seq ?_
   refine c_region ?_
   refine g_v rfl (r_field (n := 2) Try.underlying26 rfl Try.sizeOf24 rfl rfl) ?_
   refine g_v rfl (r_load (tag := 100020) rfl rfl rfl Try.isAgg24) ?_
   refine g_v rfl r_move ?_
   refine g_v rfl (r_field (n := 0) Try.underlying26 rfl Try.sizeOf3 rfl rfl) ?_
   refine g_v rfl (r_load (tag := 100020) rfl rfl rfl Try.isAgg3) ?_
   refine g_v rfl (r_sub rfl rfl rfl) ?_
   refine g_v rfl (r_sub rfl rfl rfl) ?_
   replace hm := bnd hm
   obtain ⟨x7, hx7, hm⟩ := hm
   refine g_know _ (fun W hS => cl_at (p := (Sta.mk w0 M H R φ).ok) (sz := 3) (fun _ => rfl) (by decide) (ok_pre (H1 := [_, _]) (R1 := []) hS (fun W h => h)) fp0_0 hx7) ?_
   rintro ⟨ad8, hA10, f9⟩
   refine g_v rfl (r_ix Try.underlying24 Try.sizeOf35 rfl hA10 rfl hx7) ?_
   refine g_v rfl (r_ldA rfl Try.isAgg35 Try.sizeOf35 (fun W hS => (f9 W (ok_pre (H1 := [_, _]) (R1 := []) hS (fun W h => h))).take 3) rfl) ?_
   refine g_storeL (tag := 100040) rfl rfl rfl rfl Try.sizeOf35 rfl rfl ?_
   refine g_v rfl r_assign ?_
   refine g_nil ?_
   refine d_then ?_
   refine c_flat [(4, .pointer (some ⟨g2, 0, none⟩)), (5, .bool true)] ⟨rfl, rfl, trivial⟩ (fun u => ?_)
   refine c_sta ⟨w0, M, (100040, g2, .cells #[.int .i64 x7.fTerm, .int .i64 x7.fKind, .string x7.fData] 35 (0, 0)) :: (100020, g1, .cells #[.int .i64 p0.fBase, .int .i64 p0.fBaseTerm, .slice Ap0_0 p0.fEntries.length cp0_0] 26 (0, 0)) :: H, R, φ⟩ (fun _ h => h) ?_
   refine c_ret ?_
   replace hm := Option.some.inj hm
   subst hm
   refine d_retC () Try.results21 ?_ trivial (fun W h => ok_pre (H1 := [_, _]) (R1 := []) h (fun W hφ => hφ)) (.inr rfl)
   refine res_agg (tag := 100040) rfl rfl Try.isAgg35 Try.sizeOf35 ?_
   refine res_tmp ?_
   refine res_nil ?_
   exact rfl
 ·
  replace hm := ite_t hm (of_decide_eq_true h3)
  refine g_no rfl rfl rfl rfl rfl h3 ?_
  refine g_no rfl rfl rfl rfl rfl h3 ?_
  refine g_no rfl rfl rfl rfl rfl h3 ?_
  refine g_v rfl (r_pick1 rfl h3) ?_
  refine g_nil ?_
  refine d_then ?_
  refine c_flat [(1, .int .i64 p1), (2, .pointer (some ⟨g1, 0, none⟩)), (4, .pointer (some ⟨g2, 0, none⟩)), (15, .bool true)] ⟨rfl, rfl, rfl, rfl, trivial⟩ (fun u => ?_)
  refine c_sta ⟨w0, M, (100040, g2, .cells #[.int .i64 0, .int .i64 0, .string (⟨#[]⟩ : ByteArray)] 35 (0, 0)) :: (100020, g1, .cells #[.int .i64 p0.fBase, .int .i64 p0.fBaseTerm, .slice Ap0_0 p0.fEntries.length cp0_0] 26 (0, 0)) :: H, R, φ⟩ (fun _ h => h) ?_
  refine c_cond1 rfl rfl ?_
  refine c_seq ?_
  refine c_region ?_
  refine g_v rfl (r_build _ rfl (bld35_0)) ?_
  refine g_storeL (tag := 100040) rfl rfl rfl rfl Try.sizeOf35 rfl rfl ?_
  refine g_v rfl r_assign ?_
  refine g_nil ?_
  refine d_then ?_
  refine c_ret ?_
  refine d_ret_then ?_
  replace hm := Option.some.inj hm
  subst hm
  refine d_retC () Try.results21 ?_ trivial (fun W h => ok_pre (H1 := [_, _]) (R1 := []) h (fun W hφ => hφ)) (.inr rfl)
  refine res_agg (tag := 100040) rfl rfl Try.isAgg35 Try.sizeOf35 ?_
  refine res_tmp ?_
  refine res_nil ?_
  exact rfl

noncomputable def m_plog_Term (p0 : GLog) (p1 : Int) : Option (Int × Bool) :=
  if p1 = p0.fBase then
    some (p0.fBaseTerm, true)
  else
    (m_plog_Get p0 p1).bind fun (z6 : GEntry × Bool) =>
    some (z6.1.fTerm, z6.2)
theorem c_plog_Term {w0 : World} {M : Nat → Prop} {H : List (Nat × Nat × Obj)} {R : List (Nat × Row)} {φ : World → Prop} (p0 : GLog) (Ap0_0 : Option Addr) (cp0_0 : Nat) (hcp0_0 : p0.fEntries.length ≤ cp0_0) (fp0_0 : ∀ W, (Sta.mk w0 M H R φ).ok W → Cl W Ap0_0 (p0.fEntries.flatMap GEntry.enc)) (p1 : Int) (r : Int × Bool) (hm : m_plog_Term p0 p1 = some r) :
    Cn Try.prog 31 #[.agg #[.int .i64 p0.fBase, .int .i64 p0.fBaseTerm, .slice Ap0_0 p0.fEntries.length cp0_0], .int .i64 p1] ⟨w0, M, H, R, φ⟩ (fun x : Unit => .tuple #[.int .i64 r.1, .bool r.2]) (fun x => True) (fun x => ⟨w0, M, H, R, φ⟩) := by
 unfold m_plog_Term at hm
 refine cn_intro (fn := Try.f31) (N := 23) Try.func31 rfl Try.ntmps31 rfl ?_
 refine c_seq ?_
 refine c_region ?_
 refine g_e rfl (e_box 100020 rfl) (fun g1 _ => ?_)
 refine g_v rfl r_assign ?_
 refine g_v rfl r_assign ?_
 refine g_nil ?_
 refine d_then ?_
 refine c_seq ?_
 refine c_seq ?_
 refine c_region ?_
 refine g_v rfl r_move ?_
 refine g_v rfl (r_field (n := 0) Try.underlying26 rfl Try.sizeOf3 rfl rfl) ?_
 refine g_v rfl (r_load (tag := 100020) rfl rfl rfl Try.isAgg3) ?_
 refine g_v rfl (r_eql rfl rfl) ?_
 refine g_nil ?_
 refine d_then ?_
 refine c_cond rfl (fun h2 => ?_) (fun h2 => ?_)
 ·
  replace hm := ite_t hm (of_decide_eq_true h2)
  refine c_seq ?_
  refine c_region ?_
  refine g_v rfl (r_field (n := 1) Try.underlying26 rfl Try.sizeOf3 rfl rfl) ?_
  refine g_v rfl (r_load (tag := 100020) rfl rfl rfl Try.isAgg3) ?_
  refine g_v rfl r_assign ?_
  refine g_v rfl r_assign ?_
  refine g_nil ?_
  refine d_then ?_
  refine c_flat [(4, .int .i64 p0.fBaseTerm), (5, .bool true)] ⟨rfl, rfl, trivial⟩ (fun u => ?_)
  refine c_sta ⟨w0, M, (100020, g1, .cells #[.int .i64 p0.fBase, .int .i64 p0.fBaseTerm, .slice Ap0_0 p0.fEntries.length cp0_0] 26 (0, 0)) :: H, R, φ⟩ (fun _ h => h) ?_
  refine c_ret ?_
  refine d_ret_then ?_
  replace hm := Option.some.inj hm
  subst hm
  refine d_retC () Try.results31 ?_ trivial (fun W h => ok_pre (H1 := [_]) (R1 := []) h (fun W hφ => hφ)) (.inr rfl)
  refine res_tmp ?_
  refine res_tmp ?_
  refine res_nil ?_
  exact rfl
 ·
  replace hm := ite_f hm (of_decide_eq_false h2)
  refine c_skip ?_
  refine d_then ?_
  refine c_seq ?_
  refine c_region ?_
  refine g_v rfl (r_loadA (tag := 100020) rfl rfl Try.isAgg26 Try.sizeOf26 rfl rfl) ?_
  refine g_v rfl r_move ?_
  replace hm := bnd hm
  obtain ⟨⟨x3, x4⟩, hx5, hm⟩ := hm
  refine g_cn ⟨w0, M, _, _, φ⟩ (fun _ h => h) Try.call21 rfl rfl (c_plog_Get p0 Ap0_0 cp0_0 hcp0_0 (fun W hS => fp0_0 W (ok_pre (H1 := [_]) (R1 := []) hS (fun W h => h))) p1 _ hx5) (fun _ _ => ?_)
  refine g_v rfl r_move ?_
  refine g_v rfl (r_extract rfl rfl) ?_
  refine g_v rfl (r_extract rfl rfl) ?_
  refine g_e rfl (e_alloc 100060 Try.zeroValue35) (fun g7 _ => ?_)
  refine g_storeL (tag := 100060) rfl rfl rfl rfl Try.sizeOf35 rfl rfl ?_
  refine g_v rfl r_assign ?_
  refine g_nil ?_
  refine d_then ?_
  refine c_flat [(6, .pointer (some ⟨g7, 0, none⟩)), (7, .bool x4)] ⟨rfl, rfl, trivial⟩ (fun u => ?_)
  refine c_sta ⟨w0, M, (100060, g7, .cells #[.int .i64 x3.fTerm, .int .i64 x3.fKind, .string x3.fData] 35 (0, 0)) :: (100020, g1, .cells #[.int .i64 p0.fBase, .int .i64 p0.fBaseTerm, .slice Ap0_0 p0.fEntries.length cp0_0] 26 (0, 0)) :: H, R, φ⟩ (fun _ h => h) ?_
  refine c_seq ?_
  refine c_region ?_
  refine g_v rfl (r_field (n := 0) Try.underlying35 rfl Try.sizeOf3 rfl rfl) ?_
  refine g_v rfl (r_load (tag := 100060) rfl rfl rfl Try.isAgg3) ?_
  refine g_v rfl r_move ?_
  refine g_v rfl r_assign ?_
  refine g_v rfl r_assign ?_
  refine g_nil ?_
  refine d_then ?_
  refine c_ret ?_
  replace hm := Option.some.inj hm
  subst hm
  refine d_retC () Try.results31 ?_ trivial (fun W h => ok_pre (H1 := [_, _]) (R1 := []) h (fun W hφ => hφ)) (.inr rfl)
  refine res_tmp ?_
  refine res_tmp ?_
  refine res_nil ?_
  exact rfl

noncomputable def m_plog_rising_s2 (p0 : List Int) (i63 : Int) : Option (Int ⊕ (Unit ⊕ Bool)) :=
  if i63 < (p0.length : Int) then
    (at_ p0 i63).bind fun x95 =>
    if x95 < 0 then
      some (.inr (.inr false))
    else
      if 64 ≤ x95 then
        some (.inr (.inr false))
      else
        if 0 < i63 then
          (at_ p0 (w64 (i63 - 1))).bind fun x102 =>
          if x95 ≤ x102 then
            some (.inr (.inr false))
          else
            some (.inl (w64 (i63 + 1)))
        else
          some (.inl (w64 (i63 + 1)))
  else
    some (.inr (.inl ()))
noncomputable def m_plog_rising_j1 (p0 : List Int) : Option Bool :=
  some (decide (0 < (p0.length : Int)))
noncomputable def m_plog_rising (p0 : List Int) : Option Bool :=
  (loop (fun s => m_plog_rising_s2 p0 s) 0).bind fun e => Sum.elim (fun e => m_plog_rising_j1 p0) (fun x => some x) e
theorem c_plog_rising {w0 : World} {M : Nat → Prop} {H : List (Nat × Nat × Obj)} {R : List (Nat × Row)} {φ : World → Prop} (p0 : List Int) (Ap0_0 : Option Addr) (cp0_0 : Nat) (hcp0_0 : p0.length ≤ cp0_0) (fp0_0 : ∀ W, (Sta.mk w0 M H R φ).ok W → Cl W Ap0_0 (p0.flatMap (fun x : Int => [Value.int .i64 x]))) (r : Bool) (hm : m_plog_rising p0 = some r) :
    Cn Try.prog 74 #[.slice Ap0_0 p0.length cp0_0] ⟨w0, M, H, R, φ⟩ (fun x : Unit => .bool r) (fun x => True) (fun x => ⟨w0, M, H, R, φ⟩) := by
 unfold m_plog_rising at hm
 refine cn_intro (fn := Try.f74) (N := 35) Try.func74 rfl Try.ntmps74 rfl ?_
 refine c_seq ?_
 refine c_region ?_
 refine g_v rfl r_assign ?_
 refine g_nil ?_
 refine d_then ?_
 refine c_seq ?_
 refine c_seq ?_
 refine c_region ?_
 refine g_v rfl r_move ?_
 refine g_v rfl (r_lenL Try.underlying42 rfl) ?_
 refine g_v rfl r_move ?_
 refine g_nil ?_
 refine d_then ?_
 refine c_cut (ι := Unit) [0] (fun _ => []) (fun _ => ⟨w0, M, H, R, φ⟩) (fun _ => m_plog_rising_j1 p0 = some r) ?_ (fun _ u hm => ?_)
 ·
  refine c_block ?_
  replace hm := bnd hm
  obtain ⟨out2, hl2, hr2⟩ := hm
  obtain ⟨n78', hl2⟩ := loop_lp hl2
  refine c_loopU (ι := Nat × Int) [0, 5, 6, 7] (fun ⟨n78, i63⟩ => [(7, .int .i64 i63)]) (fun ⟨n78, i63⟩ => ⟨w0, M, H, R, φ⟩) (fun ⟨n78, i63⟩ => Lp (fun s => m_plog_rising_s2 p0 s) n78 i63 out2) (fun ⟨n78, i63⟩ => n78) (n78', 0) hl2 ⟨rfl, rfl, rfl, rfl, trivial⟩ (fun W h => h.phi (fun W hφ => hφ)) (fun ⟨n78, i63⟩ u hlp => ?_)
  obtain ⟨o2, hm, hnx2⟩ := lp_step hlp
  clear hlp
  replace hm : m_plog_rising_s2 p0 i63 = some o2 := hm
  unfold m_plog_rising_s2 at hm
  refine c_flat [(0, .slice Ap0_0 p0.length cp0_0), (5, .slice Ap0_0 p0.length cp0_0), (6, .int .i64 (p0.length : Int)), (7, .int .i64 i63)] ⟨rfl, rfl, rfl, rfl, trivial⟩ (fun u => ?_)
  refine c_sta ⟨w0, M, H, R, φ⟩ (fun _ h => h) ?_
  refine c_seq ?_
  refine c_region ?_
  refine g_v rfl (r_lss rfl rfl) ?_
  refine g_nil ?_
  refine d_then ?_
  refine c_seq ?_
  refine c_cond rfl (fun h94 => ?_) (fun h94 => ?_)
  ·
   replace hm := ite_t hm (of_decide_eq_true h94)
   refine c_skip ?_
   refine d_then ?_
   refine c_seq ?_
   refine c_block ?_
   refine c_seq ?_
   refine c_region ?_
   refine g_v rfl r_move ?_
   replace hm := bnd hm
   obtain ⟨x95, hx95, hm⟩ := hm
   refine g_know _ (fun W hS => cl_at (p := (Sta.mk w0 M H R φ).ok) (sz := 1) (fun _ => rfl) (by decide) (ok_pre (H1 := []) (R1 := []) hS (fun W h => h)) fp0_0 hx95) ?_
   rintro ⟨ad96, hA98, f97⟩
   refine g_v rfl (r_ix Try.underlying42 Try.sizeOf3 rfl hA98 rfl hx95) ?_
   refine g_v rfl (r_ld rfl Try.isAgg3 (fun W hS => Cl.head (f97 W (ok_pre (H1 := []) (R1 := []) hS (fun W h => h))))) ?_
   refine g_v rfl r_assign ?_
   refine g_v rfl r_assign ?_
   refine g_nil ?_
   refine d_then ?_
   refine c_seq ?_
   refine c_region ?_
   refine g_v rfl r_move ?_
   refine g_v rfl (r_lss rfl rfl) ?_
   refine g_v rfl r_move ?_
   refine g_if rfl rfl rfl rfl rfl (fun h99 => ?_) (fun h99 => ?_)
   ·
    replace hm := ite_f hm (of_decide_eq_false h99)
    refine g_v rfl r_move ?_
    refine g_do rfl rfl rfl rfl rfl h99 ?_
    refine g_v rfl (r_geq rfl rfl) ?_
    refine g_v rfl (r_pick0 rfl h99) ?_
    refine g_v rfl r_move ?_
    refine g_if rfl rfl rfl rfl rfl (fun h100 => ?_) (fun h100 => ?_)
    ·
     replace hm := ite_f hm (of_decide_eq_false h100)
     refine g_v rfl r_move ?_
     refine g_do rfl rfl rfl rfl rfl h100 ?_
     refine g_v rfl (r_gtr rfl rfl) ?_
     refine g_do rfl rfl rfl rfl rfl h100 ?_
     refine g_v rfl r_move ?_
     refine g_if rfl rfl rfl rfl rfl (fun h101 => ?_) (fun h101 => ?_)
     ·
      replace hm := ite_t hm (of_decide_eq_true h101)
      refine g_v rfl r_move ?_
      refine g_do rfl rfl rfl rfl rfl h101 ?_
      refine g_v rfl r_move ?_
      refine g_do rfl rfl rfl rfl rfl h101 ?_
      refine g_v rfl r_move ?_
      refine g_do rfl rfl rfl rfl rfl h101 ?_
      refine g_v rfl (r_sub rfl rfl rfl) ?_
      refine g_do rfl rfl rfl rfl rfl h101 ?_
      replace hm := bnd hm
      obtain ⟨x102, hx102, hm⟩ := hm
      refine g_know _ (fun W hS => cl_at (p := (Sta.mk w0 M H R φ).ok) (sz := 1) (fun _ => rfl) (by decide) (ok_pre (H1 := []) (R1 := []) hS (fun W h => h)) fp0_0 hx102) ?_
      rintro ⟨ad103, hA105, f104⟩
      refine g_v rfl (r_ix Try.underlying42 Try.sizeOf3 rfl hA105 rfl hx102) ?_
      refine g_do rfl rfl rfl rfl rfl h101 ?_
      refine g_v rfl (r_ld rfl Try.isAgg3 (fun W hS => Cl.head (f104 W (ok_pre (H1 := []) (R1 := []) hS (fun W h => h))))) ?_
      refine g_do rfl rfl rfl rfl rfl h101 ?_
      refine g_v rfl (r_leq rfl rfl) ?_
      refine g_do rfl rfl rfl rfl rfl h100 ?_
      refine g_v rfl (r_pick1 rfl h101) ?_
      refine g_v rfl (r_pick0 rfl h100) ?_
      refine g_nil ?_
      refine d_then ?_
      refine c_flat [(0, .slice Ap0_0 p0.length cp0_0), (5, .slice Ap0_0 p0.length cp0_0), (6, .int .i64 (p0.length : Int)), (7, .int .i64 i63), (30, .bool (decide (x95 ≤ x102)))] ⟨rfl, rfl, rfl, rfl, rfl, trivial⟩ (fun u => ?_)
      refine c_sta ⟨w0, M, H, R, φ⟩ (fun _ h => h) ?_
      refine c_cond rfl (fun h106 => ?_) (fun h106 => ?_)
      ·
       replace hm := ite_t hm (of_decide_eq_true h106)
       refine c_seq ?_
       refine c_region ?_
       refine g_v rfl r_assign ?_
       refine g_nil ?_
       refine d_then ?_
       refine c_ret ?_
       refine d_ret_block ?_
       refine d_ret_then ?_
       refine d_ret_then ?_
       refine d_ret_block ?_
       refine d_ret_then ?_
       refine d_ret_then ?_
       replace hm := nx_out (C := (fun e => Sum.elim (fun e => m_plog_rising_j1 p0) (fun x => some x) e = some r)) hm hnx2 hr2
       replace hm : some false = some r := hm
       replace hm := Option.some.inj hm
       subst hm
       refine d_retC () Try.results74 ?_ trivial (fun W h => ok_pre (H1 := []) (R1 := []) h (fun W hφ => hφ)) (.inr rfl)
       refine res_tmp ?_
       refine res_nil ?_
       exact rfl
      ·
       replace hm := ite_f hm (of_decide_eq_false h106)
       refine c_skip ?_
       refine d_normal_block ?_
       refine d_then ?_
       refine c_region ?_
       refine g_v rfl (r_add rfl rfl rfl) ?_
       refine g_v rfl r_move ?_
       refine g_nil ?_
       obtain ⟨n107, hn107, hlp⟩ := nx_inl hm hnx2
       exact d_round (n107, w64 (i63 + 1)) hlp hn107 ⟨rfl, rfl, rfl, rfl, trivial⟩ (fun W h => h.phi (fun W hφ => hφ))
     ·
      replace hm := ite_f hm (of_decide_eq_false h101)
      refine g_no rfl rfl rfl rfl rfl h101 ?_
      refine g_no rfl rfl rfl rfl rfl h101 ?_
      refine g_no rfl rfl rfl rfl rfl h101 ?_
      refine g_no rfl rfl rfl rfl rfl h101 ?_
      refine g_no rfl rfl rfl rfl rfl h101 ?_
      refine g_no rfl rfl rfl rfl rfl h101 ?_
      refine g_do rfl rfl rfl rfl rfl h100 ?_
      refine g_v rfl (r_pick0 rfl h101) ?_
      refine g_v rfl (r_pick0 rfl h100) ?_
      refine g_nil ?_
      refine d_then ?_
      refine c_flat [(0, .slice Ap0_0 p0.length cp0_0), (5, .slice Ap0_0 p0.length cp0_0), (6, .int .i64 (p0.length : Int)), (7, .int .i64 i63), (30, .bool false)] ⟨rfl, rfl, rfl, rfl, rfl, trivial⟩ (fun u => ?_)
      refine c_sta ⟨w0, M, H, R, φ⟩ (fun _ h => h) ?_
      refine c_cond0 rfl rfl ?_
      refine c_skip ?_
      refine d_normal_block ?_
      refine d_then ?_
      refine c_region ?_
      refine g_v rfl (r_add rfl rfl rfl) ?_
      refine g_v rfl r_move ?_
      refine g_nil ?_
      obtain ⟨n108, hn108, hlp⟩ := nx_inl hm hnx2
      exact d_round (n108, w64 (i63 + 1)) hlp hn108 ⟨rfl, rfl, rfl, rfl, trivial⟩ (fun W h => h.phi (fun W hφ => hφ))
    ·
     replace hm := ite_t hm (of_decide_eq_true h100)
     refine g_no rfl rfl rfl rfl rfl h100 ?_
     refine g_no rfl rfl rfl rfl rfl h100 ?_
     refine g_nu rfl rfl rfl rfl rfl ?_
     refine g_nu rfl rfl rfl rfl rfl ?_
     refine g_nu rfl rfl rfl rfl rfl ?_
     refine g_nu rfl rfl rfl rfl rfl ?_
     refine g_nu rfl rfl rfl rfl rfl ?_
     refine g_nu rfl rfl rfl rfl rfl ?_
     refine g_nu rfl rfl rfl rfl rfl ?_
     refine g_no rfl rfl rfl rfl rfl h100 ?_
     refine g_v rfl (r_pick1 rfl h100) ?_
     refine g_nil ?_
     refine d_then ?_
     refine c_flat [(0, .slice Ap0_0 p0.length cp0_0), (5, .slice Ap0_0 p0.length cp0_0), (6, .int .i64 (p0.length : Int)), (7, .int .i64 i63), (30, .bool true)] ⟨rfl, rfl, rfl, rfl, rfl, trivial⟩ (fun u => ?_)
     refine c_sta ⟨w0, M, H, R, φ⟩ (fun _ h => h) ?_
     refine c_cond1 rfl rfl ?_
     refine c_seq ?_
     refine c_region ?_
     refine g_v rfl r_assign ?_
     refine g_nil ?_
     refine d_then ?_
     refine c_ret ?_
     refine d_ret_block ?_
     refine d_ret_then ?_
     refine d_ret_then ?_
     refine d_ret_block ?_
     refine d_ret_then ?_
     refine d_ret_then ?_
     replace hm := nx_out (C := (fun e => Sum.elim (fun e => m_plog_rising_j1 p0) (fun x => some x) e = some r)) hm hnx2 hr2
     replace hm : some false = some r := hm
     replace hm := Option.some.inj hm
     subst hm
     refine d_retC () Try.results74 ?_ trivial (fun W h => ok_pre (H1 := []) (R1 := []) h (fun W hφ => hφ)) (.inr rfl)
     refine res_tmp ?_
     refine res_nil ?_
     exact rfl
   ·
    replace hm := ite_t hm (of_decide_eq_true h99)
    refine g_no rfl rfl rfl rfl rfl h99 ?_
    refine g_v rfl (r_pick1 rfl h99) ?_
    refine g_v rfl r_move ?_
    refine g_no rfl rfl rfl rfl rfl rfl ?_
    refine g_no rfl rfl rfl rfl rfl rfl ?_
    refine g_no rfl rfl rfl rfl rfl rfl ?_
    refine g_nu rfl rfl rfl rfl rfl ?_
    refine g_nu rfl rfl rfl rfl rfl ?_
    refine g_nu rfl rfl rfl rfl rfl ?_
    refine g_nu rfl rfl rfl rfl rfl ?_
    refine g_nu rfl rfl rfl rfl rfl ?_
    refine g_nu rfl rfl rfl rfl rfl ?_
    refine g_nu rfl rfl rfl rfl rfl ?_
    refine g_no rfl rfl rfl rfl rfl rfl ?_
    refine g_v rfl (r_pick1 rfl rfl) ?_
    refine g_nil ?_
    refine d_then ?_
    refine c_flat [(0, .slice Ap0_0 p0.length cp0_0), (5, .slice Ap0_0 p0.length cp0_0), (6, .int .i64 (p0.length : Int)), (7, .int .i64 i63), (30, .bool true)] ⟨rfl, rfl, rfl, rfl, rfl, trivial⟩ (fun u => ?_)
    refine c_sta ⟨w0, M, H, R, φ⟩ (fun _ h => h) ?_
    refine c_cond1 rfl rfl ?_
    refine c_seq ?_
    refine c_region ?_
    refine g_v rfl r_assign ?_
    refine g_nil ?_
    refine d_then ?_
    refine c_ret ?_
    refine d_ret_block ?_
    refine d_ret_then ?_
    refine d_ret_then ?_
    refine d_ret_block ?_
    refine d_ret_then ?_
    refine d_ret_then ?_
    replace hm := nx_out (C := (fun e => Sum.elim (fun e => m_plog_rising_j1 p0) (fun x => some x) e = some r)) hm hnx2 hr2
    replace hm : some false = some r := hm
    replace hm := Option.some.inj hm
    subst hm
    refine d_retC () Try.results74 ?_ trivial (fun W h => ok_pre (H1 := []) (R1 := []) h (fun W hφ => hφ)) (.inr rfl)
    refine res_tmp ?_
    refine res_nil ?_
    exact rfl
  ·
   replace hm := ite_f hm (of_decide_eq_false h94)
   refine c_exit ?_
   refine d_exit_then ?_
   refine d_exit_then ?_
   refine d_exit_block ?_
   replace hm := nx_out (C := (fun e => Sum.elim (fun e => m_plog_rising_j1 p0) (fun x => some x) e = some r)) hm hnx2 hr2
   exact d_round () hm Nat.zero_lt_one ⟨rfl, trivial⟩ (fun W h => h.phi (fun W hφ => hφ))
 ·
  unfold m_plog_rising_j1 at hm
  refine d_flat [(0, .slice Ap0_0 p0.length cp0_0)] ⟨rfl, trivial⟩ (fun u => ?_)
  refine d_sta ⟨w0, M, H, R, φ⟩ (fun _ h => h) ?_
  refine d_then ?_
  refine c_seq ?_
  refine c_region ?_
  refine g_v rfl r_move ?_
  refine g_v rfl (r_lenL Try.underlying42 rfl) ?_
  refine g_v rfl (r_gtr rfl rfl) ?_
  refine g_v rfl r_assign ?_
  refine g_nil ?_
  refine d_then ?_
  refine c_ret ?_
  replace hm := Option.some.inj hm
  subst hm
  refine d_retC () Try.results74 ?_ trivial (fun W h => ok_pre (H1 := []) (R1 := []) h (fun W hφ => hφ)) (.inr rfl)
  refine res_tmp ?_
  refine res_nil ?_
  exact rfl

theorem lit3_1 (z0 : Int) : Try.prog.builtSlice 3 1 [(0, .int .i64 z0)] = some #[.int .i64 z0] := by kernel_rfl
theorem inf3_2  : (Try.prog.info? 3).map (fun i => (i.zero, i.size, i.bytes)) = some (some (.int .i64 0), 1, 8) := by kernel_rfl
noncomputable def m_plog_List_s2 (p0 : ByteArray) (l101 : List Int) (i104 : Int) : Option (((List Int) × Int) ⊕ (List Int)) :=
  if i104 < (p0.size : Int) then
    (sat_ p0 i104).bind fun b124 =>
    (app 8 l101 [w64 b124]).bind fun l126 =>
    some (.inl (l126, w64 (i104 + 1)))
  else
    some (.inr l101)
noncomputable def m_plog_List_j1  (l85 : List Int) : Option ((List Int) × Bool) :=
  (m_plog_rising l85).bind fun x130 =>
  if x130 = true then
    some (l85, true)
  else
    some (([] : List Int), false)
noncomputable def m_plog_List (p0 : ByteArray) : Option ((List Int) × Bool) :=
  (loop (fun s => m_plog_List_s2 p0 s.1 s.2) (([] : List Int), 0)).bind fun e => m_plog_List_j1 e
theorem c_plog_List {w0 : World} {M : Nat → Prop} {H : List (Nat × Nat × Obj)} {R : List (Nat × Row)} {φ : World → Prop} (p0 : ByteArray) (r : (List Int) × Bool) (hm : m_plog_List p0 = some r) :
    Cn Try.prog 23 #[.string p0] ⟨w0, M, H, R, φ⟩ (fun x : Option Addr × Nat => .tuple #[.slice x.1 r.1.length x.2, .bool r.2]) (fun x => r.1.length ≤ x.2) (fun x => ⟨w0, M, H, (2000, ⟨.slice x.1 r.1.length x.2, 3, 1, r.1.length, r.1.flatMap (fun x : Int => [Value.int .i64 x])⟩) :: R, φ⟩) := by
 unfold m_plog_List at hm
 refine cn_intro (fn := Try.f23) (N := 23) Try.func23 rfl Try.ntmps23 rfl ?_
 refine c_seq ?_
 refine c_region ?_
 refine g_v rfl r_assign ?_
 refine g_v rfl r_assign ?_
 refine g_nil ?_
 refine d_then ?_
 refine c_seq ?_
 refine c_region ?_
 refine g_v rfl r_assign ?_
 refine g_nil ?_
 refine d_then ?_
 refine c_seq ?_
 refine c_seq ?_
 refine c_region ?_
 refine g_v rfl r_move ?_
 refine g_v rfl (r_len Try.underlying9 rfl) ?_
 refine g_v rfl r_move ?_
 refine g_nil ?_
 refine d_then ?_
 refine c_sta _ (fun W h => nilR h 3 3 1) ?_
 refine c_cut (ι := (List Int) × Option Addr × Nat) [4] (fun ⟨l85, A86, c87⟩ => [(4, .slice A86 l85.length c87)]) (fun ⟨l85, A86, c87⟩ => ⟨w0, M, H, (3, ⟨.slice A86 l85.length c87, 3, 1, l85.length, l85.flatMap (fun x : Int => [Value.int .i64 x])⟩) :: R, φ⟩) (fun ⟨l85, A86, c87⟩ => m_plog_List_j1 l85 = some r ∧ l85.length ≤ c87) ?_ (fun ⟨l85, A86, c87⟩ u ⟨hm, hc87⟩ => ?_)
 ·
  refine c_block ?_
  replace hm := bnd hm
  obtain ⟨out2, hl2, hr2⟩ := hm
  obtain ⟨n115', hl2⟩ := loop_lp hl2
  refine c_loopU (ι := Nat × (List Int) × Int × Option Addr × Nat) [0, 4, 7, 8] (fun ⟨n115, l101, i104, A102, c103⟩ => [(4, .slice A102 l101.length c103), (8, .int .i64 i104)]) (fun ⟨n115, l101, i104, A102, c103⟩ => ⟨w0, M, H, (3, ⟨.slice A102 l101.length c103, 3, 1, l101.length, l101.flatMap (fun x : Int => [Value.int .i64 x])⟩) :: R, φ⟩) (fun ⟨n115, l101, i104, A102, c103⟩ => Lp (fun s => m_plog_List_s2 p0 s.1 s.2) n115 (l101, i104) out2 ∧ l101.length ≤ c103) (fun ⟨n115, l101, i104, A102, c103⟩ => n115) (n115', ([] : List Int), 0, none, 0) ⟨hl2, (Nat.le_refl 0)⟩ ⟨rfl, rfl, rfl, rfl, trivial⟩ (fun W h => h.phi (fun W hφ => hφ)) (fun ⟨n115, l101, i104, A102, c103⟩ u ⟨hlp, hc103⟩ => ?_)
  obtain ⟨o2, hm, hnx2⟩ := lp_step hlp
  clear hlp
  replace hm : m_plog_List_s2 p0 l101 i104 = some o2 := hm
  unfold m_plog_List_s2 at hm
  refine c_flat [(0, .string p0), (4, .slice A102 l101.length c103), (7, .int .i64 (p0.size : Int)), (8, .int .i64 i104)] ⟨rfl, rfl, rfl, rfl, trivial⟩ (fun u => ?_)
  refine c_sta ⟨w0, M, H, (3, ⟨.slice A102 l101.length c103, 3, 1, l101.length, l101.flatMap (fun x : Int => [Value.int .i64 x])⟩) :: R, φ⟩ (fun _ h => h) ?_
  refine c_seq ?_
  refine c_region ?_
  refine g_v rfl (r_lss rfl rfl) ?_
  refine g_nil ?_
  refine d_then ?_
  refine c_seq ?_
  refine c_cond rfl (fun h123 => ?_) (fun h123 => ?_)
  ·
   replace hm := ite_t hm (of_decide_eq_true h123)
   refine c_skip ?_
   refine d_then ?_
   refine c_seq ?_
   refine c_block ?_
   refine c_seq ?_
   refine c_region ?_
   refine g_v rfl r_move ?_
   refine g_v rfl r_assign ?_
   refine g_nil ?_
   refine d_then ?_
   refine c_region ?_
   refine g_v rfl r_move ?_
   refine g_v rfl r_move ?_
   refine g_v rfl r_move ?_
   replace hm := bnd hm
   obtain ⟨b124, hb124, hm⟩ := hm
   refine g_v rfl (r_sat Try.underlying9 rfl rfl hb124) ?_
   refine g_v rfl (r_conv Try.underlying5 Try.underlying3 rfl rfl) ?_
   refine g_e rfl (e_lit (tag := 100160) (l := [w64 b124]) (enc := (fun x : Int => [Value.int .i64 x])) (sz := 1) rfl Try.underlying42 (lit3_1 _) rfl rfl (fun _ => rfl)) (fun g125 _ => ?_)
   replace hm := bnd hm
   obtain ⟨l126, hl126, hm⟩ := hm
   refine g_e rfl (e_appR (enc := (fun x : Int => [Value.int .i64 x])) (l := l101) (l1 := [w64 b124]) (l2 := l126) (tag := 3) Try.underlying42 inf3_2 rfl (by decide) (by decide) (fun _ => rfl) (fun _ => rfl) rfl hc103 rfl rfl (fun W hS => rowCl (tag := 100160) rfl W hS) hl126) (fun ⟨A127, c128⟩ hc128 => ?_)
   refine g_v rfl r_assign ?_
   refine g_nil ?_
   refine d_normal_block ?_
   refine d_then ?_
   refine c_flat [(0, .string p0), (4, .slice A127 l126.length c128), (7, .int .i64 (p0.size : Int)), (8, .int .i64 i104)] ⟨rfl, rfl, rfl, rfl, trivial⟩ (fun u => ?_)
   refine c_sta ⟨w0, M, H, (100160, ⟨.slice (some ⟨g125, 0, none⟩) [w64 b124].length 1, 3, 1, [w64 b124].length, [w64 b124].flatMap (fun x : Int => [Value.int .i64 x])⟩) :: (3, ⟨.slice A127 l126.length c128, 3, 1, l126.length, l126.flatMap (fun x : Int => [Value.int .i64 x])⟩) :: R, φ⟩ (fun _ h => h) ?_
   refine c_region ?_
   refine g_v rfl (r_add rfl rfl rfl) ?_
   refine g_v rfl r_move ?_
   refine g_nil ?_
   obtain ⟨n129, hn129, hlp⟩ := nx_inl hm hnx2
   exact d_round (n129, l126, w64 (i104 + 1), A127, c128) ⟨hlp, hc128⟩ hn129 ⟨rfl, rfl, rfl, rfl, trivial⟩ (fun W h => ((h.shut (t := 100160) rfl).phi (fun _ hh => hh.1)).phi (fun W hφ => hφ))
  ·
   replace hm := ite_f hm (of_decide_eq_false h123)
   refine c_exit ?_
   refine d_exit_then ?_
   refine d_exit_then ?_
   refine d_exit_block ?_
   replace hm := nx_out (C := (fun e => m_plog_List_j1 e = some r)) hm hnx2 hr2
   exact d_round (l101, A102, c103) ⟨hm, hc103⟩ Nat.zero_lt_one ⟨rfl, trivial⟩ (fun W h => h.phi (fun W hφ => hφ))
 ·
  unfold m_plog_List_j1 at hm
  refine d_flat [(4, .slice A86 l85.length c87)] ⟨rfl, trivial⟩ (fun u => ?_)
  refine d_sta ⟨w0, M, H, (3, ⟨.slice A86 l85.length c87, 3, 1, l85.length, l85.flatMap (fun x : Int => [Value.int .i64 x])⟩) :: R, φ⟩ (fun _ h => h) ?_
  refine d_then ?_
  refine c_seq ?_
  refine c_seq ?_
  refine c_region ?_
  refine g_v rfl r_move ?_
  replace hm := bnd hm
  obtain ⟨x130, hx131, hm⟩ := hm
  refine g_cn ⟨w0, M, _, _, φ⟩ (fun _ h => h) Try.call74 rfl rfl (c_plog_rising l85 A86 c87 hc87 (fun W hS => rowCl (tag := 3) rfl W hS) _ hx131) (fun _ _ => ?_)
  refine g_v rfl (r_not rfl) ?_
  refine g_nil ?_
  refine d_then ?_
  refine c_cond rfl (fun h132 => ?_) (fun h132 => ?_)
  ·
   have h132' : x130 = false := by revert h132; cases x130 <;> simp
   replace hm := ite_f hm (bool_nt h132')
   refine c_seq ?_
   refine c_region ?_
   refine g_v rfl r_assign ?_
   refine g_v rfl r_assign ?_
   refine g_nil ?_
   refine d_then ?_
   refine c_ret ?_
   refine d_ret_then ?_
   replace hm := Option.some.inj hm
   subst hm
   refine d_sta _ (fun W h => nilR h 5 3 1) ?_
   refine d_sta _ (fun W h => ok_frontR (t := 5) (t' := 2000) h rfl) ?_
   refine d_retC (none, 0) Try.results23 ?_ (Nat.le_refl 0) (fun W h => ((h.shut (t := 3) rfl).phi (fun _ hh => hh.1)).phi (fun W hφ => hφ)) (.inr rfl)
   refine res_tmp ?_
   refine res_tmp ?_
   refine res_nil ?_
   exact rfl
  ·
   have h132' : x130 = true := by revert h132; cases x130 <;> simp
   replace hm := ite_t hm h132'
   refine c_skip ?_
   refine d_then ?_
   refine c_seq ?_
   refine c_region ?_
   refine g_v rfl r_move ?_
   refine g_v rfl r_assign ?_
   refine g_v rfl r_assign ?_
   refine g_nil ?_
   refine d_then ?_
   refine c_ret ?_
   replace hm := Option.some.inj hm
   subst hm
   refine d_sta _ (fun W h => ok_frontR (t := 3) (t' := 2000) h rfl) ?_
   refine d_retC (A86, c87) Try.results23 ?_ hc87 (fun W h => h.phi (fun W hφ => hφ)) (.inr rfl)
   refine res_tmp ?_
   refine res_tmp ?_
   refine res_nil ?_
   exact rfl

noncomputable def m_ref11_List_j3 (p0 : ByteArray) (i395 : Int) (l392 : List Int) : Option (((List Int) × Int) ⊕ ((List Int) ⊕ ((List Int) × Bool))) :=
  (sat_ p0 i395).bind fun b528 =>
  (app 8 l392 [w64 b528]).bind fun l530 =>
  some (.inl (l530, w64 (i395 + 1)))
noncomputable def m_ref11_List_s2 (p0 : ByteArray) (l392 : List Int) (i395 : Int) : Option (((List Int) × Int) ⊕ ((List Int) ⊕ ((List Int) × Bool))) :=
  if i395 < (p0.size : Int) then
    (sat_ p0 i395).bind fun b522 =>
    if 63 < b522 then
      some (.inr (.inr (([] : List Int), false)))
    else
      if 0 < i395 then
        (sat_ p0 i395).bind fun b525 =>
        (sat_ p0 (w64 (i395 - 1))).bind fun b526 =>
        if b525 ≤ b526 then
          some (.inr (.inr (([] : List Int), false)))
        else
          m_ref11_List_j3 p0 i395 l392
      else
        m_ref11_List_j3 p0 i395 l392
  else
    some (.inr (.inl l392))
noncomputable def m_ref11_List_j1 (p0 : ByteArray) (l362 : List Int) : Option ((List Int) × Bool) :=
  some (l362, decide (0 < (p0.size : Int)))
noncomputable def m_ref11_List (p0 : ByteArray) : Option ((List Int) × Bool) :=
  (loop (fun s => m_ref11_List_s2 p0 s.1 s.2) (([] : List Int), 0)).bind fun e => Sum.elim (fun e => m_ref11_List_j1 p0 e) (fun x => some x) e
theorem c_ref11_List {w0 : World} {M : Nat → Prop} {H : List (Nat × Nat × Obj)} {R : List (Nat × Row)} {φ : World → Prop} (p0 : ByteArray) (r : (List Int) × Bool) (hm : m_ref11_List p0 = some r) :
    Cn Try.prog 24 #[.string p0] ⟨w0, M, H, R, φ⟩ (fun x : Option Addr × Nat => .tuple #[.slice x.1 r.1.length x.2, .bool r.2]) (fun x => r.1.length ≤ x.2) (fun x => ⟨w0, M, H, (2000, ⟨.slice x.1 r.1.length x.2, 3, 1, r.1.length, r.1.flatMap (fun x : Int => [Value.int .i64 x])⟩) :: R, φ⟩) := by
 unfold m_ref11_List at hm
 refine cn_intro (fn := Try.f24) (N := 41) Try.func24 rfl Try.ntmps24 rfl ?_
 refine c_seq ?_
 refine c_region ?_
 refine g_v rfl r_assign ?_
 refine g_v rfl r_assign ?_
 refine g_nil ?_
 refine d_then ?_
 refine c_seq ?_
 refine c_region ?_
 refine g_v rfl r_assign ?_
 refine g_nil ?_
 refine d_then ?_
 refine c_seq ?_
 refine c_seq ?_
 refine c_region ?_
 refine g_v rfl r_assign ?_
 refine g_nil ?_
 refine d_then ?_
 refine c_sta _ (fun W h => nilR h 20 3 1) ?_
 refine c_cut (ι := (List Int) × Option Addr × Nat) [0, 4] (fun ⟨l362, A363, c364⟩ => [(4, .slice A363 l362.length c364)]) (fun ⟨l362, A363, c364⟩ => ⟨w0, M, H, (20, ⟨.slice A363 l362.length c364, 3, 1, l362.length, l362.flatMap (fun x : Int => [Value.int .i64 x])⟩) :: R, φ⟩) (fun ⟨l362, A363, c364⟩ => m_ref11_List_j1 p0 l362 = some r ∧ l362.length ≤ c364) ?_ (fun ⟨l362, A363, c364⟩ u ⟨hm, hc364⟩ => ?_)
 ·
  refine c_block ?_
  replace hm := bnd hm
  obtain ⟨out2, hl2, hr2⟩ := hm
  obtain ⟨n443', hl2⟩ := loop_lp hl2
  refine c_loopU (ι := Nat × (List Int) × Int × Option Addr × Nat) [0, 4, 5] (fun ⟨n443, l392, i395, A393, c394⟩ => [(4, .slice A393 l392.length c394), (5, .int .i64 i395)]) (fun ⟨n443, l392, i395, A393, c394⟩ => ⟨w0, M, H, (20, ⟨.slice A393 l392.length c394, 3, 1, l392.length, l392.flatMap (fun x : Int => [Value.int .i64 x])⟩) :: R, φ⟩) (fun ⟨n443, l392, i395, A393, c394⟩ => Lp (fun s => m_ref11_List_s2 p0 s.1 s.2) n443 (l392, i395) out2 ∧ l392.length ≤ c394) (fun ⟨n443, l392, i395, A393, c394⟩ => n443) (n443', ([] : List Int), 0, none, 0) ⟨hl2, (Nat.le_refl 0)⟩ ⟨rfl, rfl, rfl, trivial⟩ (fun W h => h.phi (fun W hφ => hφ)) (fun ⟨n443, l392, i395, A393, c394⟩ u ⟨hlp, hc394⟩ => ?_)
  obtain ⟨o2, hm, hnx2⟩ := lp_step hlp
  clear hlp
  replace hm : m_ref11_List_s2 p0 l392 i395 = some o2 := hm
  unfold m_ref11_List_s2 at hm
  refine c_flat [(0, .string p0), (4, .slice A393 l392.length c394), (5, .int .i64 i395)] ⟨rfl, rfl, rfl, trivial⟩ (fun u => ?_)
  refine c_sta ⟨w0, M, H, (20, ⟨.slice A393 l392.length c394, 3, 1, l392.length, l392.flatMap (fun x : Int => [Value.int .i64 x])⟩) :: R, φ⟩ (fun _ h => h) ?_
  refine c_seq ?_
  refine c_seq ?_
  refine c_region ?_
  refine g_v rfl r_move ?_
  refine g_v rfl r_move ?_
  refine g_v rfl (r_len Try.underlying9 rfl) ?_
  refine g_v rfl (r_lss rfl rfl) ?_
  refine g_nil ?_
  refine d_then ?_
  refine c_cond rfl (fun h489 => ?_) (fun h489 => ?_)
  ·
   replace hm := ite_t hm (of_decide_eq_true h489)
   refine c_skip ?_
   refine d_then ?_
   refine c_seq ?_
   refine c_block ?_
   refine c_seq ?_
   refine c_cut (ι := Unit) [0, 4, 5] (fun _ => []) (fun _ => ⟨w0, M, H, (20, ⟨.slice A393 l392.length c394, 3, 1, l392.length, l392.flatMap (fun x : Int => [Value.int .i64 x])⟩) :: R, φ⟩) (fun _ => m_ref11_List_j3 p0 i395 l392 = some o2) ?_ (fun _ u hm => ?_)
   ·
    refine c_seq ?_
    refine ga_start (n := 18) ⟨w0, M, H, (20, ⟨.slice A393 l392.length c394, 3, 1, l392.length, l392.flatMap (fun x : Int => [Value.int .i64 x])⟩) :: R, φ⟩ [] #[false, false, false, false, false, false, false, false, false, false, false, false, false, false, false, false, false, false] (fun W h => h.phi (fun W hφ => hφ)) mixed rfl rfl ?_
    refine ga_v (i := 0) #[true, false, false, false, false, false, false, false, false, false, false, false, false, false, false, false, false, false] rfl (by kernel_rfl) (fun _ _ _ _ h => h) rfl (r_move) ?_
    refine ga_r (i := 1) #[true, true, false, false, false, false, false, false, false, false, false, false, false, false, false, false, false, false] rfl (by kernel_rfl) (by decide) rfl (r_move) ?_
    replace hm := bnd hm
    obtain ⟨b522, hb522, hm⟩ := hm
    refine ga_r (i := 2) #[true, true, true, false, false, false, false, false, false, false, false, false, false, false, false, false, false, false] rfl (by kernel_rfl) (by decide) rfl (r_sat Try.underlying9 rfl rfl hb522) ?_
    refine ga_r (i := 3) #[true, true, true, true, false, false, false, false, false, false, false, false, false, false, false, false, false, false] rfl (by kernel_rfl) (by decide) rfl (r_gtr rfl rfl) ?_
    refine ga_r (i := 4) #[true, true, true, true, true, false, false, false, false, false, false, false, false, false, false, false, false, false] rfl (by kernel_rfl) (by decide) rfl (r_move) ?_
    refine ga_if (t := 16) rfl (fun h523 => ?_) (fun h523 => ?_)
    ·
     replace hm := ite_t hm (of_decide_eq_true h523)
     refine ga_no (i := 5) #[true, true, true, true, true, true, false, false, false, false, false, false, false, false, false, false, false, false] rfl (by kernel_rfl) (fun _ _ _ _ h => h) rfl rfl rfl rfl rfl h523 ?_
     refine ga_no (i := 6) #[true, true, true, true, true, true, true, false, false, false, false, false, false, false, false, false, false, false] rfl (by kernel_rfl) (fun _ _ _ _ h => h) rfl rfl rfl rfl rfl h523 ?_
     refine ga_no (i := 7) #[true, true, true, true, true, true, true, true, false, false, false, false, false, false, false, false, false, false] rfl (by kernel_rfl) (fun _ _ _ _ h => h) rfl rfl rfl rfl rfl h523 ?_
     refine ga_nu (i := 8) #[true, true, true, true, true, true, true, true, true, false, false, false, false, false, false, false, false, false] rfl (by kernel_rfl) (fun _ _ _ _ h => h) rfl rfl rfl rfl rfl ?_
     refine ga_nu (i := 9) #[true, true, true, true, true, true, true, true, true, true, false, false, false, false, false, false, false, false] rfl (by kernel_rfl) (fun _ _ _ _ h => h) rfl rfl rfl rfl rfl ?_
     refine ga_nu (i := 10) #[true, true, true, true, true, true, true, true, true, true, true, false, false, false, false, false, false, false] rfl (by kernel_rfl) (fun _ _ _ _ h => h) rfl rfl rfl rfl rfl ?_
     refine ga_nu (i := 11) #[true, true, true, true, true, true, true, true, true, true, true, true, false, false, false, false, false, false] rfl (by kernel_rfl) (fun _ _ _ _ h => h) rfl rfl rfl rfl rfl ?_
     refine ga_nu (i := 12) #[true, true, true, true, true, true, true, true, true, true, true, true, true, false, false, false, false, false] rfl (by kernel_rfl) (fun _ _ _ _ h => h) rfl rfl rfl rfl rfl ?_
     refine ga_nu (i := 13) #[true, true, true, true, true, true, true, true, true, true, true, true, true, true, false, false, false, false] rfl (by kernel_rfl) (fun _ _ _ _ h => h) rfl rfl rfl rfl rfl ?_
     refine ga_nu (i := 14) #[true, true, true, true, true, true, true, true, true, true, true, true, true, true, true, false, false, false] rfl (by kernel_rfl) (fun _ _ _ _ h => h) rfl rfl rfl rfl rfl ?_
     refine ga_nu (i := 15) #[true, true, true, true, true, true, true, true, true, true, true, true, true, true, true, true, false, false] rfl (by kernel_rfl) (fun _ _ _ _ h => h) rfl rfl rfl rfl rfl ?_
     refine ga_no (i := 16) #[true, true, true, true, true, true, true, true, true, true, true, true, true, true, true, true, true, false] rfl (by kernel_rfl) (fun _ _ _ _ h => h) rfl rfl rfl rfl rfl h523 ?_
     refine ga_r (i := 17) #[true, true, true, true, true, true, true, true, true, true, true, true, true, true, true, true, true, true] rfl (by kernel_rfl) (by decide) rfl (r_pick1 rfl h523) ?_
     refine ga_done (by kernel_rfl) ?_
     refine d_then ?_
     refine c_flat [(0, .string p0), (4, .slice A393 l392.length c394), (5, .int .i64 i395), (29, .bool true)] ⟨rfl, rfl, rfl, rfl, trivial⟩ (fun u => ?_)
     refine c_sta ⟨w0, M, H, (20, ⟨.slice A393 l392.length c394, 3, 1, l392.length, l392.flatMap (fun x : Int => [Value.int .i64 x])⟩) :: R, φ⟩ (fun _ h => h) ?_
     refine c_cond1 rfl rfl ?_
     refine c_seq ?_
     refine c_region ?_
     refine g_v rfl r_assign ?_
     refine g_v rfl r_assign ?_
     refine g_nil ?_
     refine d_then ?_
     refine c_ret ?_
     refine d_ret_then ?_
     refine d_ret_then ?_
     refine d_ret_block ?_
     refine d_ret_then ?_
     refine d_ret_then ?_
     refine d_ret_block ?_
     refine d_ret_then ?_
     refine d_ret_then ?_
     replace hm := nx_out (C := (fun e => Sum.elim (fun e => m_ref11_List_j1 p0 e) (fun x => some x) e = some r)) hm hnx2 hr2
     replace hm : some (([] : List Int), false) = some r := hm
     replace hm := Option.some.inj hm
     subst hm
     refine d_sta _ (fun W h => nilR h 47 3 1) ?_
     refine d_sta _ (fun W h => ok_frontR (t := 47) (t' := 2000) h rfl) ?_
     refine d_retC (none, 0) Try.results24 ?_ (Nat.le_refl 0) (fun W h => ((h.shut (t := 20) rfl).phi (fun _ hh => hh.1)).phi (fun W hφ => hφ)) (.inr rfl)
     refine res_tmp ?_
     refine res_tmp ?_
     refine res_nil ?_
     exact rfl
    ·
     replace hm := ite_f hm (of_decide_eq_false h523)
     refine ga_rG (i := 5) #[true, true, true, true, true, true, false, false, false, false, false, false, false, false, false, false, false, false] rfl (by kernel_rfl) (by decide) rfl rfl rfl rfl rfl h523 (r_move) ?_
     refine ga_rG (i := 6) #[true, true, true, true, true, true, true, false, false, false, false, false, false, false, false, false, false, false] rfl (by kernel_rfl) (by decide) rfl rfl rfl rfl rfl h523 (r_gtr rfl rfl) ?_
     refine ga_rG (i := 7) #[true, true, true, true, true, true, true, true, false, false, false, false, false, false, false, false, false, false] rfl (by kernel_rfl) (by decide) rfl rfl rfl rfl rfl h523 (r_move) ?_
     refine ga_if (t := 19) rfl (fun h524 => ?_) (fun h524 => ?_)
     ·
      replace hm := ite_t hm (of_decide_eq_true h524)
      refine ga_do (i := 8) #[true, true, true, true, true, true, true, true, true, false, false, false, false, false, false, false, false, false] rfl (by kernel_rfl) (fun _ _ _ _ h => h) rfl rfl rfl rfl rfl h524 (r_move) ?_
      refine ga_do (i := 9) #[true, true, true, true, true, true, true, true, true, true, false, false, false, false, false, false, false, false] rfl (by kernel_rfl) (fun _ _ _ _ h => h) rfl rfl rfl rfl rfl h524 (r_move) ?_
      replace hm := bnd hm
      obtain ⟨b525, hb525, hm⟩ := hm
      refine ga_do (i := 10) #[true, true, true, true, true, true, true, true, true, true, true, false, false, false, false, false, false, false] rfl (by kernel_rfl) (fun _ _ _ _ h => h) rfl rfl rfl rfl rfl h524 (r_sat Try.underlying9 rfl rfl hb525) ?_
      refine ga_do (i := 11) #[true, true, true, true, true, true, true, true, true, true, true, true, false, false, false, false, false, false] rfl (by kernel_rfl) (fun _ _ _ _ h => h) rfl rfl rfl rfl rfl h524 (r_move) ?_
      refine ga_rG (i := 12) #[true, true, true, true, true, true, true, true, true, true, true, true, true, false, false, false, false, false] rfl (by kernel_rfl) (by decide) rfl rfl rfl rfl rfl h524 (r_move) ?_
      refine ga_rG (i := 13) #[true, true, true, true, true, true, true, true, true, true, true, true, true, true, false, false, false, false] rfl (by kernel_rfl) (by decide) rfl rfl rfl rfl rfl h524 (r_sub rfl rfl rfl) ?_
      replace hm := bnd hm
      obtain ⟨b526, hb526, hm⟩ := hm
      refine ga_rG (i := 14) #[true, true, true, true, true, true, true, true, true, true, true, true, true, true, true, false, false, false] rfl (by kernel_rfl) (by decide) rfl rfl rfl rfl rfl h524 (r_sat Try.underlying9 rfl rfl hb526) ?_
      refine ga_rG (i := 15) #[true, true, true, true, true, true, true, true, true, true, true, true, true, true, true, true, false, false] rfl (by kernel_rfl) (by decide) rfl rfl rfl rfl rfl h524 (r_leq rfl rfl) ?_
      refine ga_rG (i := 16) #[true, true, true, true, true, true, true, true, true, true, true, true, true, true, true, true, true, false] rfl (by kernel_rfl) (by decide) rfl rfl rfl rfl rfl h523 (r_pick1 rfl h524) ?_
      refine ga_r (i := 17) #[true, true, true, true, true, true, true, true, true, true, true, true, true, true, true, true, true, true] rfl (by kernel_rfl) (by decide) rfl (r_pick0 rfl h523) ?_
      refine ga_done (by kernel_rfl) ?_
      refine d_then ?_
      refine c_flat [(0, .string p0), (4, .slice A393 l392.length c394), (5, .int .i64 i395), (29, .bool (decide (b525 ≤ b526)))] ⟨rfl, rfl, rfl, rfl, trivial⟩ (fun u => ?_)
      refine c_sta ⟨w0, M, H, (20, ⟨.slice A393 l392.length c394, 3, 1, l392.length, l392.flatMap (fun x : Int => [Value.int .i64 x])⟩) :: R, φ⟩ (fun _ h => h) ?_
      refine c_cond rfl (fun h527 => ?_) (fun h527 => ?_)
      ·
       replace hm := ite_t hm (of_decide_eq_true h527)
       refine c_seq ?_
       refine c_region ?_
       refine g_v rfl r_assign ?_
       refine g_v rfl r_assign ?_
       refine g_nil ?_
       refine d_then ?_
       refine c_ret ?_
       refine d_ret_then ?_
       refine d_ret_then ?_
       refine d_ret_block ?_
       refine d_ret_then ?_
       refine d_ret_then ?_
       refine d_ret_block ?_
       refine d_ret_then ?_
       refine d_ret_then ?_
       replace hm := nx_out (C := (fun e => Sum.elim (fun e => m_ref11_List_j1 p0 e) (fun x => some x) e = some r)) hm hnx2 hr2
       replace hm : some (([] : List Int), false) = some r := hm
       replace hm := Option.some.inj hm
       subst hm
       refine d_sta _ (fun W h => nilR h 48 3 1) ?_
       refine d_sta _ (fun W h => ok_frontR (t := 48) (t' := 2000) h rfl) ?_
       refine d_retC (none, 0) Try.results24 ?_ (Nat.le_refl 0) (fun W h => ((h.shut (t := 20) rfl).phi (fun _ hh => hh.1)).phi (fun W hφ => hφ)) (.inr rfl)
       refine res_tmp ?_
       refine res_tmp ?_
       refine res_nil ?_
       exact rfl
      ·
       replace hm := ite_f hm (of_decide_eq_false h527)
       refine c_skip ?_
       exact d_round () hm Nat.zero_lt_one ⟨rfl, rfl, rfl, trivial⟩ (fun W h => h.phi (fun W hφ => hφ))
     ·
      replace hm := ite_f hm (of_decide_eq_false h524)
      refine ga_no (i := 8) #[true, true, true, true, true, true, true, true, true, false, false, false, false, false, false, false, false, false] rfl (by kernel_rfl) (fun _ _ _ _ h => h) rfl rfl rfl rfl rfl h524 ?_
      refine ga_no (i := 9) #[true, true, true, true, true, true, true, true, true, true, false, false, false, false, false, false, false, false] rfl (by kernel_rfl) (fun _ _ _ _ h => h) rfl rfl rfl rfl rfl h524 ?_
      refine ga_no (i := 10) #[true, true, true, true, true, true, true, true, true, true, true, false, false, false, false, false, false, false] rfl (by kernel_rfl) (fun _ _ _ _ h => h) rfl rfl rfl rfl rfl h524 ?_
      refine ga_no (i := 11) #[true, true, true, true, true, true, true, true, true, true, true, true, false, false, false, false, false, false] rfl (by kernel_rfl) (fun _ _ _ _ h => h) rfl rfl rfl rfl rfl h524 ?_
      refine ga_no (i := 12) #[true, true, true, true, true, true, true, true, true, true, true, true, true, false, false, false, false, false] rfl (by kernel_rfl) (fun _ _ _ _ h => h) rfl rfl rfl rfl rfl h524 ?_
      refine ga_no (i := 13) #[true, true, true, true, true, true, true, true, true, true, true, true, true, true, false, false, false, false] rfl (by kernel_rfl) (fun _ _ _ _ h => h) rfl rfl rfl rfl rfl h524 ?_
      refine ga_no (i := 14) #[true, true, true, true, true, true, true, true, true, true, true, true, true, true, true, false, false, false] rfl (by kernel_rfl) (fun _ _ _ _ h => h) rfl rfl rfl rfl rfl h524 ?_
      refine ga_no (i := 15) #[true, true, true, true, true, true, true, true, true, true, true, true, true, true, true, true, false, false] rfl (by kernel_rfl) (fun _ _ _ _ h => h) rfl rfl rfl rfl rfl h524 ?_
      refine ga_rG (i := 16) #[true, true, true, true, true, true, true, true, true, true, true, true, true, true, true, true, true, false] rfl (by kernel_rfl) (by decide) rfl rfl rfl rfl rfl h523 (r_pick0 rfl h524) ?_
      refine ga_r (i := 17) #[true, true, true, true, true, true, true, true, true, true, true, true, true, true, true, true, true, true] rfl (by kernel_rfl) (by decide) rfl (r_pick0 rfl h523) ?_
      refine ga_done (by kernel_rfl) ?_
      refine d_then ?_
      refine c_flat [(0, .string p0), (4, .slice A393 l392.length c394), (5, .int .i64 i395), (29, .bool false)] ⟨rfl, rfl, rfl, rfl, trivial⟩ (fun u => ?_)
      refine c_sta ⟨w0, M, H, (20, ⟨.slice A393 l392.length c394, 3, 1, l392.length, l392.flatMap (fun x : Int => [Value.int .i64 x])⟩) :: R, φ⟩ (fun _ h => h) ?_
      refine c_cond0 rfl rfl ?_
      refine c_skip ?_
      exact d_round () hm Nat.zero_lt_one ⟨rfl, rfl, rfl, trivial⟩ (fun W h => h.phi (fun W hφ => hφ))
   ·
    unfold m_ref11_List_j3 at hm
    refine d_flat [(0, .string p0), (4, .slice A393 l392.length c394), (5, .int .i64 i395)] ⟨rfl, rfl, rfl, trivial⟩ (fun u => ?_)
    refine d_sta ⟨w0, M, H, (20, ⟨.slice A393 l392.length c394, 3, 1, l392.length, l392.flatMap (fun x : Int => [Value.int .i64 x])⟩) :: R, φ⟩ (fun _ h => h) ?_
    refine d_then ?_
    refine c_region ?_
    refine g_v rfl r_move ?_
    refine g_v rfl r_move ?_
    refine g_v rfl r_move ?_
    replace hm := bnd hm
    obtain ⟨b528, hb528, hm⟩ := hm
    refine g_v rfl (r_sat Try.underlying9 rfl rfl hb528) ?_
    refine g_v rfl (r_conv Try.underlying5 Try.underlying3 rfl rfl) ?_
    refine g_e rfl (e_lit (tag := 100350) (l := [w64 b528]) (enc := (fun x : Int => [Value.int .i64 x])) (sz := 1) rfl Try.underlying42 (lit3_1 _) rfl rfl (fun _ => rfl)) (fun g529 _ => ?_)
    replace hm := bnd hm
    obtain ⟨l530, hl530, hm⟩ := hm
    refine g_e rfl (e_appR (enc := (fun x : Int => [Value.int .i64 x])) (l := l392) (l1 := [w64 b528]) (l2 := l530) (tag := 20) Try.underlying42 inf3_2 rfl (by decide) (by decide) (fun _ => rfl) (fun _ => rfl) rfl hc394 rfl rfl (fun W hS => rowCl (tag := 100350) rfl W hS) hl530) (fun ⟨A531, c532⟩ hc532 => ?_)
    refine g_v rfl r_assign ?_
    refine g_nil ?_
    refine d_normal_block ?_
    refine d_then ?_
    refine c_region ?_
    refine g_v rfl r_move ?_
    refine g_v rfl (r_add rfl rfl rfl) ?_
    refine g_v rfl r_assign ?_
    refine g_nil ?_
    obtain ⟨n533, hn533, hlp⟩ := nx_inl hm hnx2
    exact d_round (n533, l530, w64 (i395 + 1), A531, c532) ⟨hlp, hc532⟩ hn533 ⟨rfl, rfl, rfl, trivial⟩ (fun W h => ((h.shut (t := 100350) rfl).phi (fun _ hh => hh.1)).phi (fun W hφ => hφ))
  ·
   replace hm := ite_f hm (of_decide_eq_false h489)
   refine c_exit ?_
   refine d_exit_then ?_
   refine d_exit_then ?_
   refine d_exit_block ?_
   replace hm := nx_out (C := (fun e => Sum.elim (fun e => m_ref11_List_j1 p0 e) (fun x => some x) e = some r)) hm hnx2 hr2
   exact d_round (l392, A393, c394) ⟨hm, hc394⟩ Nat.zero_lt_one ⟨rfl, rfl, trivial⟩ (fun W h => h.phi (fun W hφ => hφ))
 ·
  unfold m_ref11_List_j1 at hm
  refine d_flat [(0, .string p0), (4, .slice A363 l362.length c364)] ⟨rfl, rfl, trivial⟩ (fun u => ?_)
  refine d_sta ⟨w0, M, H, (20, ⟨.slice A363 l362.length c364, 3, 1, l362.length, l362.flatMap (fun x : Int => [Value.int .i64 x])⟩) :: R, φ⟩ (fun _ h => h) ?_
  refine d_then ?_
  refine c_seq ?_
  refine c_region ?_
  refine g_v rfl r_move ?_
  refine g_v rfl r_move ?_
  refine g_v rfl (r_len Try.underlying9 rfl) ?_
  refine g_v rfl (r_gtr rfl rfl) ?_
  refine g_v rfl r_assign ?_
  refine g_v rfl r_assign ?_
  refine g_nil ?_
  refine d_then ?_
  refine c_ret ?_
  replace hm := Option.some.inj hm
  subst hm
  refine d_sta _ (fun W h => ok_frontR (t := 20) (t' := 2000) h rfl) ?_
  refine d_retC (A363, c364) Try.results24 ?_ hc364 (fun W h => h.phi (fun W hφ => hφ)) (.inr rfl)
  refine res_tmp ?_
  refine res_tmp ?_
  refine res_nil ?_
  exact rfl

noncomputable def m_plog_Check_s2 (p0 : GLog) (i132 : Int) (i133 : Int) : Option ((Int × Int) ⊕ (Unit ⊕ Int)) :=
  if i133 < (p0.fEntries.length : Int) then
    (at_ p0.fEntries i133).bind fun x184 =>
    if x184.fTerm < i132 then
      some (.inr (.inr 1))
    else
      (m_plog_within x184.fTerm).bind fun x190 =>
      if x190 = true then
        if x184.fKind < 0 then
          some (.inr (.inr 1))
        else
          if 2 < x184.fKind then
            some (.inr (.inr 1))
          else
            if 8000 < (x184.fData.size : Int) then
              some (.inr (.inr 1))
            else
              (m_plog_List x184.fData).bind fun (z202 : (List Int) × Bool) =>
              if x184.fKind = 1 then
                if z202.2 = true then
                  some (.inl (x184.fTerm, w64 (i133 + 1)))
                else
                  some (.inr (.inr 1))
              else
                some (.inl (x184.fTerm, w64 (i133 + 1)))
      else
        some (.inr (.inr 1))
  else
    some (.inr (.inl ()))
noncomputable def m_plog_Check_j1  : Option Int :=
  some 0
noncomputable def m_plog_Check (p0 : GLog) : Option Int :=
  (m_plog_within p0.fBase).bind fun x2 =>
  if x2 = true then
    (m_plog_within p0.fBaseTerm).bind fun x5 =>
    if x5 = true then
      if 100000 < (p0.fEntries.length : Int) then
        some 1
      else
        (loop (fun s => m_plog_Check_s2 p0 s.1 s.2) (p0.fBaseTerm, 0)).bind fun e => Sum.elim (fun e => m_plog_Check_j1) (fun x => some x) e
    else
      some 1
  else
    some 1
theorem c_plog_Check {w0 : World} {M : Nat → Prop} {H : List (Nat × Nat × Obj)} {R : List (Nat × Row)} {φ : World → Prop} (p0 : GLog) (Ap0_0 : Option Addr) (cp0_0 : Nat) (hcp0_0 : p0.fEntries.length ≤ cp0_0) (fp0_0 : ∀ W, (Sta.mk w0 M H R φ).ok W → Cl W Ap0_0 (p0.fEntries.flatMap GEntry.enc)) (r : Int) (hm : m_plog_Check p0 = some r) :
    Cn Try.prog 19 #[.agg #[.int .i64 p0.fBase, .int .i64 p0.fBaseTerm, .slice Ap0_0 p0.fEntries.length cp0_0]] ⟨w0, M, H, R, φ⟩ (fun x : Unit => .int .i64 r) (fun x => True) (fun x => ⟨w0, M, H, R, φ⟩) := by
 unfold m_plog_Check at hm
 refine cn_intro (fn := Try.f19) (N := 75) Try.func19 rfl Try.ntmps19 rfl ?_
 refine c_seq ?_
 refine c_region ?_
 refine g_e rfl (e_box 100010 rfl) (fun g1 _ => ?_)
 refine g_v rfl r_assign ?_
 refine g_nil ?_
 refine d_then ?_
 refine c_seq ?_
 refine c_seq ?_
 refine c_region ?_
 refine g_v rfl (r_field (n := 0) Try.underlying26 rfl Try.sizeOf3 rfl rfl) ?_
 refine g_v rfl (r_load (tag := 100010) rfl rfl rfl Try.isAgg3) ?_
 replace hm := bnd hm
 obtain ⟨x2, hx3, hm⟩ := hm
 refine g_cn ⟨w0, M, _, _, φ⟩ (fun _ h => h) Try.call71 rfl rfl (c_plog_within p0.fBase _ hx3) (fun _ _ => ?_)
 refine g_v rfl (r_not rfl) ?_
 refine g_v rfl r_move ?_
 refine g_if rfl rfl rfl rfl rfl (fun h4 => ?_) (fun h4 => ?_)
 ·
  have h4' : x2 = true := by revert h4; cases x2 <;> simp
  replace hm := ite_t hm h4'
  refine g_v rfl (r_field (n := 1) Try.underlying26 rfl Try.sizeOf3 rfl rfl) ?_
  refine g_do rfl rfl rfl rfl rfl h4 ?_
  refine g_v rfl (r_load (tag := 100010) rfl rfl rfl Try.isAgg3) ?_
  refine g_do rfl rfl rfl rfl rfl h4 ?_
  replace hm := bnd hm
  obtain ⟨x5, hx6, hm⟩ := hm
  refine g_cn ⟨w0, M, _, _, φ⟩ (fun _ h => h) Try.call71 rfl rfl (c_plog_within p0.fBaseTerm _ hx6) (fun _ _ => ?_)
  refine g_do rfl rfl rfl rfl rfl h4 ?_
  refine g_v rfl (r_not rfl) ?_
  refine g_v rfl (r_pick0 rfl h4) ?_
  refine g_v rfl r_move ?_
  refine g_if rfl rfl rfl rfl rfl (fun h7 => ?_) (fun h7 => ?_)
  ·
   have h7' : x5 = true := by revert h7; cases x5 <;> simp
   replace hm := ite_t hm h7'
   refine g_v rfl (r_field (n := 2) Try.underlying26 rfl Try.sizeOf24 rfl rfl) ?_
   refine g_do rfl rfl rfl rfl rfl h7 ?_
   refine g_v rfl (r_load (tag := 100010) rfl rfl rfl Try.isAgg24) ?_
   refine g_do rfl rfl rfl rfl rfl h7 ?_
   refine g_v rfl (r_lenL Try.underlying24 rfl) ?_
   refine g_do rfl rfl rfl rfl rfl h7 ?_
   refine g_v rfl (r_gtr rfl rfl) ?_
   refine g_v rfl (r_pick0 rfl h7) ?_
   refine g_nil ?_
   refine d_then ?_
   refine c_flat [(1, .pointer (some ⟨g1, 0, none⟩)), (23, .bool (decide (100000 < (p0.fEntries.length : Int))))] ⟨rfl, rfl, trivial⟩ (fun u => ?_)
   refine c_sta ⟨w0, M, (100010, g1, .cells #[.int .i64 p0.fBase, .int .i64 p0.fBaseTerm, .slice Ap0_0 p0.fEntries.length cp0_0] 26 (0, 0)) :: H, R, φ⟩ (fun _ h => h) ?_
   refine c_cond rfl (fun h8 => ?_) (fun h8 => ?_)
   ·
    replace hm := ite_t hm (of_decide_eq_true h8)
    refine c_seq ?_
    refine c_region ?_
    refine g_v rfl r_assign ?_
    refine g_nil ?_
    refine d_then ?_
    refine c_ret ?_
    refine d_ret_then ?_
    replace hm := Option.some.inj hm
    subst hm
    refine d_retC () Try.results19 ?_ trivial (fun W h => ok_pre (H1 := [_]) (R1 := []) h (fun W hφ => hφ)) (.inr rfl)
    refine res_tmp ?_
    refine res_nil ?_
    exact rfl
   ·
    replace hm := ite_f hm (of_decide_eq_false h8)
    refine c_skip ?_
    refine d_then ?_
    refine c_seq ?_
    refine c_region ?_
    refine g_v rfl (r_field (n := 1) Try.underlying26 rfl Try.sizeOf3 rfl rfl) ?_
    refine g_v rfl (r_load (tag := 100010) rfl rfl rfl Try.isAgg3) ?_
    refine g_v rfl r_assign ?_
    refine g_nil ?_
    refine d_then ?_
    refine c_seq ?_
    refine c_seq ?_
    refine c_region ?_
    refine g_v rfl (r_field (n := 2) Try.underlying26 rfl Try.sizeOf24 rfl rfl) ?_
    refine g_v rfl (r_load (tag := 100010) rfl rfl rfl Try.isAgg24) ?_
    refine g_v rfl (r_lenL Try.underlying24 rfl) ?_
    refine g_v rfl r_move ?_
    refine g_nil ?_
    refine d_then ?_
    refine c_cut (ι := Unit) [] (fun _ => []) (fun _ => ⟨w0, M, H, R, φ⟩) (fun _ => m_plog_Check_j1 = some r) ?_ (fun _ u hm => ?_)
    ·
     refine c_block ?_
     replace hm := bnd hm
     obtain ⟨out2, hl2, hr2⟩ := hm
     obtain ⟨n158', hl2⟩ := loop_lp hl2
     refine c_loopU (ι := Nat × Int × Int) [3, 27, 28, 29] (fun ⟨n158, i132, i133⟩ => [(3, .int .i64 i132), (29, .int .i64 i133)]) (fun ⟨n158, i132, i133⟩ => ⟨w0, M, H, R, φ⟩) (fun ⟨n158, i132, i133⟩ => Lp (fun s => m_plog_Check_s2 p0 s.1 s.2) n158 (i132, i133) out2) (fun ⟨n158, i132, i133⟩ => n158) (n158', p0.fBaseTerm, 0) hl2 ⟨rfl, rfl, rfl, rfl, trivial⟩ (fun W h => (h.dropH (t := 100010) rfl).phi (fun W hφ => hφ)) (fun ⟨n158, i132, i133⟩ u hlp => ?_)
     obtain ⟨o2, hm, hnx2⟩ := lp_step hlp
     clear hlp
     replace hm : m_plog_Check_s2 p0 i132 i133 = some o2 := hm
     unfold m_plog_Check_s2 at hm
     refine c_flat [(3, .int .i64 i132), (27, .slice Ap0_0 p0.fEntries.length cp0_0), (28, .int .i64 (p0.fEntries.length : Int)), (29, .int .i64 i133)] ⟨rfl, rfl, rfl, rfl, trivial⟩ (fun u => ?_)
     refine c_sta ⟨w0, M, H, R, φ⟩ (fun _ h => h) ?_
     refine c_seq ?_
     refine c_region ?_
     refine g_v rfl (r_lss rfl rfl) ?_
     refine g_nil ?_
     refine d_then ?_
     refine c_seq ?_
     refine c_cond rfl (fun h183 => ?_) (fun h183 => ?_)
     ·
      replace hm := ite_t hm (of_decide_eq_true h183)
      refine c_skip ?_
      refine d_then ?_
      refine c_seq ?_
      refine c_block ?_
      refine c_seq ?_
      refine c_region ?_
      replace hm := bnd hm
      obtain ⟨x184, hx184, hm⟩ := hm
      refine g_know _ (fun W hS => cl_at (p := (Sta.mk w0 M H R φ).ok) (sz := 3) (fun _ => rfl) (by decide) (ok_pre (H1 := []) (R1 := []) hS (fun W h => h)) fp0_0 hx184) ?_
      rintro ⟨ad185, hA187, f186⟩
      refine g_v rfl (r_ix Try.underlying24 Try.sizeOf35 rfl hA187 rfl hx184) ?_
      refine g_v rfl (r_ldA rfl Try.isAgg35 Try.sizeOf35 (fun W hS => (f186 W (ok_pre (H1 := []) (R1 := []) hS (fun W h => h))).take 3) rfl) ?_
      refine g_e rfl (e_alloc 100050 Try.zeroValue35) (fun g188 _ => ?_)
      refine g_storeL (tag := 100050) rfl rfl rfl rfl Try.sizeOf35 rfl rfl ?_
      refine g_nil ?_
      refine d_then ?_
      refine c_seq ?_
      refine c_seq ?_
      refine c_region ?_
      refine g_v rfl (r_field (n := 0) Try.underlying35 rfl Try.sizeOf3 rfl rfl) ?_
      refine g_v rfl (r_load (tag := 100050) rfl rfl rfl Try.isAgg3) ?_
      refine g_v rfl r_move ?_
      refine g_v rfl (r_lss rfl rfl) ?_
      refine g_v rfl r_move ?_
      refine g_if rfl rfl rfl rfl rfl (fun h189 => ?_) (fun h189 => ?_)
      ·
       replace hm := ite_f hm (of_decide_eq_false h189)
       refine g_v rfl (r_field (n := 0) Try.underlying35 rfl Try.sizeOf3 rfl rfl) ?_
       refine g_do rfl rfl rfl rfl rfl h189 ?_
       refine g_v rfl (r_load (tag := 100050) rfl rfl rfl Try.isAgg3) ?_
       refine g_do rfl rfl rfl rfl rfl h189 ?_
       replace hm := bnd hm
       obtain ⟨x190, hx191, hm⟩ := hm
       refine g_cn ⟨w0, M, _, _, φ⟩ (fun _ h => h) Try.call71 rfl rfl (c_plog_within x184.fTerm _ hx191) (fun _ _ => ?_)
       refine g_do rfl rfl rfl rfl rfl h189 ?_
       refine g_v rfl (r_not rfl) ?_
       refine g_v rfl (r_pick0 rfl h189) ?_
       refine g_v rfl r_move ?_
       refine g_if rfl rfl rfl rfl rfl (fun h192 => ?_) (fun h192 => ?_)
       ·
        have h192' : x190 = true := by revert h192; cases x190 <;> simp
        replace hm := ite_t hm h192'
        refine g_v rfl (r_field (n := 1) Try.underlying35 rfl Try.sizeOf3 rfl rfl) ?_
        refine g_do rfl rfl rfl rfl rfl h192 ?_
        refine g_v rfl (r_load (tag := 100050) rfl rfl rfl Try.isAgg3) ?_
        refine g_do rfl rfl rfl rfl rfl h192 ?_
        refine g_v rfl (r_lss rfl rfl) ?_
        refine g_v rfl (r_pick0 rfl h192) ?_
        refine g_v rfl r_move ?_
        refine g_if rfl rfl rfl rfl rfl (fun h193 => ?_) (fun h193 => ?_)
        ·
         replace hm := ite_f hm (of_decide_eq_false h193)
         refine g_v rfl (r_field (n := 1) Try.underlying35 rfl Try.sizeOf3 rfl rfl) ?_
         refine g_do rfl rfl rfl rfl rfl h193 ?_
         refine g_v rfl (r_load (tag := 100050) rfl rfl rfl Try.isAgg3) ?_
         refine g_do rfl rfl rfl rfl rfl h193 ?_
         refine g_v rfl (r_gtr rfl rfl) ?_
         refine g_v rfl (r_pick0 rfl h193) ?_
         refine g_v rfl r_move ?_
         refine g_if rfl rfl rfl rfl rfl (fun h194 => ?_) (fun h194 => ?_)
         ·
          replace hm := ite_f hm (of_decide_eq_false h194)
          refine g_v rfl (r_field (n := 2) Try.underlying35 rfl Try.sizeOf9 rfl rfl) ?_
          refine g_do rfl rfl rfl rfl rfl h194 ?_
          refine g_v rfl (r_load (tag := 100050) rfl rfl rfl Try.isAgg9) ?_
          refine g_do rfl rfl rfl rfl rfl h194 ?_
          refine g_v rfl (r_len Try.underlying9 rfl) ?_
          refine g_do rfl rfl rfl rfl rfl h194 ?_
          refine g_v rfl (r_gtr rfl rfl) ?_
          refine g_v rfl (r_pick0 rfl h194) ?_
          refine g_nil ?_
          refine d_then ?_
          refine c_flat [(5, .pointer (some ⟨g188, 0, none⟩)), (27, .slice Ap0_0 p0.fEntries.length cp0_0), (28, .int .i64 (p0.fEntries.length : Int)), (29, .int .i64 i133), (58, .bool (decide (8000 < (x184.fData.size : Int))))] ⟨rfl, rfl, rfl, rfl, rfl, trivial⟩ (fun u => ?_)
          refine c_sta ⟨w0, M, (100050, g188, .cells #[.int .i64 x184.fTerm, .int .i64 x184.fKind, .string x184.fData] 35 (0, 0)) :: H, R, φ⟩ (fun _ h => h) ?_
          refine c_cond rfl (fun h195 => ?_) (fun h195 => ?_)
          ·
           replace hm := ite_t hm (of_decide_eq_true h195)
           refine c_seq ?_
           refine c_region ?_
           refine g_v rfl r_assign ?_
           refine g_nil ?_
           refine d_then ?_
           refine c_ret ?_
           refine d_ret_then ?_
           refine d_ret_block ?_
           refine d_ret_then ?_
           refine d_ret_then ?_
           refine d_ret_block ?_
           refine d_ret_then ?_
           refine d_ret_then ?_
           replace hm := nx_out (C := (fun e => Sum.elim (fun e => m_plog_Check_j1) (fun x => some x) e = some r)) hm hnx2 hr2
           replace hm : some 1 = some r := hm
           replace hm := Option.some.inj hm
           subst hm
           refine d_retC () Try.results19 ?_ trivial (fun W h => ok_pre (H1 := [_]) (R1 := []) h (fun W hφ => hφ)) (.inr rfl)
           refine res_tmp ?_
           refine res_nil ?_
           exact rfl
          ·
           replace hm := ite_f hm (of_decide_eq_false h195)
           refine c_skip ?_
           refine d_then ?_
           refine c_seq ?_
           refine c_region ?_
           refine g_v rfl (r_field (n := 2) Try.underlying35 rfl Try.sizeOf9 rfl rfl) ?_
           refine g_v rfl (r_load (tag := 100050) rfl rfl rfl Try.isAgg9) ?_
           replace hm := bnd hm
           obtain ⟨⟨x196, x197⟩, hx198, hm⟩ := hm
           refine g_cn ⟨w0, M, _, _, φ⟩ (fun _ h => h) Try.call23 rfl rfl (c_plog_List x184.fData _ hx198) (fun ⟨A199, c200⟩ hc200 => ?_)
           refine g_sta _ (fun W h => ok_frontR (t := 2000) (t' := 100620) h rfl) ?_
           refine g_v rfl r_move ?_
           refine g_v rfl (r_extract rfl rfl) ?_
           refine g_v rfl (r_extract rfl rfl) ?_
           refine g_v rfl r_assign ?_
           refine g_v rfl r_assign ?_
           refine g_nil ?_
           refine d_then ?_
           refine c_seq ?_
           refine c_seq ?_
           refine c_region ?_
           refine g_v rfl (r_field (n := 1) Try.underlying35 rfl Try.sizeOf3 rfl rfl) ?_
           refine g_v rfl (r_load (tag := 100050) rfl rfl rfl Try.isAgg3) ?_
           refine g_v rfl (r_eql rfl rfl) ?_
           refine g_v rfl r_move ?_
           refine g_if rfl rfl rfl rfl rfl (fun h203 => ?_) (fun h203 => ?_)
           ·
            replace hm := ite_t hm (of_decide_eq_true h203)
            refine g_v rfl r_move ?_
            refine g_do rfl rfl rfl rfl rfl h203 ?_
            refine g_v rfl (r_not rfl) ?_
            refine g_v rfl (r_pick1 rfl h203) ?_
            refine g_nil ?_
            refine d_then ?_
            refine c_flat [(5, .pointer (some ⟨g188, 0, none⟩)), (27, .slice Ap0_0 p0.fEntries.length cp0_0), (28, .int .i64 (p0.fEntries.length : Int)), (29, .int .i64 i133), (71, .bool (!x197))] ⟨rfl, rfl, rfl, rfl, rfl, trivial⟩ (fun u => ?_)
            refine c_sta ⟨w0, M, (100050, g188, .cells #[.int .i64 x184.fTerm, .int .i64 x184.fKind, .string x184.fData] 35 (0, 0)) :: H, (100620, ⟨.slice A199 x196.length c200, 3, 1, x196.length, x196.flatMap (fun x : Int => [Value.int .i64 x])⟩) :: R, φ⟩ (fun _ h => h) ?_
            refine c_cond rfl (fun h204 => ?_) (fun h204 => ?_)
            ·
             have h204' : x197 = false := by revert h204; cases x197 <;> simp
             replace hm := ite_f hm (bool_nt h204')
             refine c_seq ?_
             refine c_region ?_
             refine g_v rfl r_assign ?_
             refine g_nil ?_
             refine d_then ?_
             refine c_ret ?_
             refine d_ret_then ?_
             refine d_ret_block ?_
             refine d_ret_then ?_
             refine d_ret_then ?_
             refine d_ret_block ?_
             refine d_ret_then ?_
             refine d_ret_then ?_
             replace hm := nx_out (C := (fun e => Sum.elim (fun e => m_plog_Check_j1) (fun x => some x) e = some r)) hm hnx2 hr2
             replace hm : some 1 = some r := hm
             replace hm := Option.some.inj hm
             subst hm
             refine d_retC () Try.results19 ?_ trivial (fun W h => ok_pre (H1 := [_]) (R1 := [_]) h (fun W hφ => hφ)) (.inr rfl)
             refine res_tmp ?_
             refine res_nil ?_
             exact rfl
            ·
             have h204' : x197 = true := by revert h204; cases x197 <;> simp
             replace hm := ite_t hm h204'
             refine c_skip ?_
             refine d_then ?_
             refine c_region ?_
             refine g_v rfl (r_field (n := 0) Try.underlying35 rfl Try.sizeOf3 rfl rfl) ?_
             refine g_v rfl (r_load (tag := 100050) rfl rfl rfl Try.isAgg3) ?_
             refine g_v rfl r_assign ?_
             refine g_nil ?_
             refine d_normal_block ?_
             refine d_then ?_
             refine c_region ?_
             refine g_v rfl (r_add rfl rfl rfl) ?_
             refine g_v rfl r_move ?_
             refine g_nil ?_
             obtain ⟨n205, hn205, hlp⟩ := nx_inl hm hnx2
             exact d_round (n205, x184.fTerm, w64 (i133 + 1)) hlp hn205 ⟨rfl, rfl, rfl, rfl, trivial⟩ (fun W h => (((h.shut (t := 100620) rfl).phi (fun _ hh => hh.1)).dropH (t := 100050) rfl).phi (fun W hφ => hφ))
           ·
            replace hm := ite_f hm (of_decide_eq_false h203)
            refine g_no rfl rfl rfl rfl rfl h203 ?_
            refine g_v rfl (r_pick0 rfl h203) ?_
            refine g_nil ?_
            refine d_then ?_
            refine c_flat [(5, .pointer (some ⟨g188, 0, none⟩)), (27, .slice Ap0_0 p0.fEntries.length cp0_0), (28, .int .i64 (p0.fEntries.length : Int)), (29, .int .i64 i133), (71, .bool false)] ⟨rfl, rfl, rfl, rfl, rfl, trivial⟩ (fun u => ?_)
            refine c_sta ⟨w0, M, (100050, g188, .cells #[.int .i64 x184.fTerm, .int .i64 x184.fKind, .string x184.fData] 35 (0, 0)) :: H, (100620, ⟨.slice A199 x196.length c200, 3, 1, x196.length, x196.flatMap (fun x : Int => [Value.int .i64 x])⟩) :: R, φ⟩ (fun _ h => h) ?_
            refine c_cond0 rfl rfl ?_
            refine c_skip ?_
            refine d_then ?_
            refine c_region ?_
            refine g_v rfl (r_field (n := 0) Try.underlying35 rfl Try.sizeOf3 rfl rfl) ?_
            refine g_v rfl (r_load (tag := 100050) rfl rfl rfl Try.isAgg3) ?_
            refine g_v rfl r_assign ?_
            refine g_nil ?_
            refine d_normal_block ?_
            refine d_then ?_
            refine c_region ?_
            refine g_v rfl (r_add rfl rfl rfl) ?_
            refine g_v rfl r_move ?_
            refine g_nil ?_
            obtain ⟨n206, hn206, hlp⟩ := nx_inl hm hnx2
            exact d_round (n206, x184.fTerm, w64 (i133 + 1)) hlp hn206 ⟨rfl, rfl, rfl, rfl, trivial⟩ (fun W h => (((h.shut (t := 100620) rfl).phi (fun _ hh => hh.1)).dropH (t := 100050) rfl).phi (fun W hφ => hφ))
         ·
          replace hm := ite_t hm (of_decide_eq_true h194)
          refine g_no rfl rfl rfl rfl rfl h194 ?_
          refine g_no rfl rfl rfl rfl rfl h194 ?_
          refine g_no rfl rfl rfl rfl rfl h194 ?_
          refine g_v rfl (r_pick1 rfl h194) ?_
          refine g_nil ?_
          refine d_then ?_
          refine c_flat [(5, .pointer (some ⟨g188, 0, none⟩)), (27, .slice Ap0_0 p0.fEntries.length cp0_0), (28, .int .i64 (p0.fEntries.length : Int)), (29, .int .i64 i133), (58, .bool true)] ⟨rfl, rfl, rfl, rfl, rfl, trivial⟩ (fun u => ?_)
          refine c_sta ⟨w0, M, (100050, g188, .cells #[.int .i64 x184.fTerm, .int .i64 x184.fKind, .string x184.fData] 35 (0, 0)) :: H, R, φ⟩ (fun _ h => h) ?_
          refine c_cond1 rfl rfl ?_
          refine c_seq ?_
          refine c_region ?_
          refine g_v rfl r_assign ?_
          refine g_nil ?_
          refine d_then ?_
          refine c_ret ?_
          refine d_ret_then ?_
          refine d_ret_block ?_
          refine d_ret_then ?_
          refine d_ret_then ?_
          refine d_ret_block ?_
          refine d_ret_then ?_
          refine d_ret_then ?_
          replace hm := nx_out (C := (fun e => Sum.elim (fun e => m_plog_Check_j1) (fun x => some x) e = some r)) hm hnx2 hr2
          replace hm : some 1 = some r := hm
          replace hm := Option.some.inj hm
          subst hm
          refine d_retC () Try.results19 ?_ trivial (fun W h => ok_pre (H1 := [_]) (R1 := []) h (fun W hφ => hφ)) (.inr rfl)
          refine res_tmp ?_
          refine res_nil ?_
          exact rfl
        ·
         replace hm := ite_t hm (of_decide_eq_true h193)
         refine g_no rfl rfl rfl rfl rfl h193 ?_
         refine g_no rfl rfl rfl rfl rfl h193 ?_
         refine g_v rfl (r_pick1 rfl h193) ?_
         refine g_v rfl r_move ?_
         refine g_no rfl rfl rfl rfl rfl rfl ?_
         refine g_no rfl rfl rfl rfl rfl rfl ?_
         refine g_no rfl rfl rfl rfl rfl rfl ?_
         refine g_no rfl rfl rfl rfl rfl rfl ?_
         refine g_v rfl (r_pick1 rfl rfl) ?_
         refine g_nil ?_
         refine d_then ?_
         refine c_flat [(5, .pointer (some ⟨g188, 0, none⟩)), (27, .slice Ap0_0 p0.fEntries.length cp0_0), (28, .int .i64 (p0.fEntries.length : Int)), (29, .int .i64 i133), (58, .bool true)] ⟨rfl, rfl, rfl, rfl, rfl, trivial⟩ (fun u => ?_)
         refine c_sta ⟨w0, M, (100050, g188, .cells #[.int .i64 x184.fTerm, .int .i64 x184.fKind, .string x184.fData] 35 (0, 0)) :: H, R, φ⟩ (fun _ h => h) ?_
         refine c_cond1 rfl rfl ?_
         refine c_seq ?_
         refine c_region ?_
         refine g_v rfl r_assign ?_
         refine g_nil ?_
         refine d_then ?_
         refine c_ret ?_
         refine d_ret_then ?_
         refine d_ret_block ?_
         refine d_ret_then ?_
         refine d_ret_then ?_
         refine d_ret_block ?_
         refine d_ret_then ?_
         refine d_ret_then ?_
         replace hm := nx_out (C := (fun e => Sum.elim (fun e => m_plog_Check_j1) (fun x => some x) e = some r)) hm hnx2 hr2
         replace hm : some 1 = some r := hm
         replace hm := Option.some.inj hm
         subst hm
         refine d_retC () Try.results19 ?_ trivial (fun W h => ok_pre (H1 := [_]) (R1 := []) h (fun W hφ => hφ)) (.inr rfl)
         refine res_tmp ?_
         refine res_nil ?_
         exact rfl
       ·
        have h192' : x190 = false := by revert h192; cases x190 <;> simp
        replace hm := ite_f hm (bool_nt h192')
        refine g_no rfl rfl rfl rfl rfl h192 ?_
        refine g_no rfl rfl rfl rfl rfl h192 ?_
        refine g_v rfl (r_pick1 rfl h192) ?_
        refine g_v rfl r_move ?_
        refine g_no rfl rfl rfl rfl rfl rfl ?_
        refine g_no rfl rfl rfl rfl rfl rfl ?_
        refine g_no rfl rfl rfl rfl rfl rfl ?_
        refine g_v rfl (r_pick1 rfl rfl) ?_
        refine g_v rfl r_move ?_
        refine g_no rfl rfl rfl rfl rfl rfl ?_
        refine g_no rfl rfl rfl rfl rfl rfl ?_
        refine g_no rfl rfl rfl rfl rfl rfl ?_
        refine g_no rfl rfl rfl rfl rfl rfl ?_
        refine g_v rfl (r_pick1 rfl rfl) ?_
        refine g_nil ?_
        refine d_then ?_
        refine c_flat [(5, .pointer (some ⟨g188, 0, none⟩)), (27, .slice Ap0_0 p0.fEntries.length cp0_0), (28, .int .i64 (p0.fEntries.length : Int)), (29, .int .i64 i133), (58, .bool true)] ⟨rfl, rfl, rfl, rfl, rfl, trivial⟩ (fun u => ?_)
        refine c_sta ⟨w0, M, (100050, g188, .cells #[.int .i64 x184.fTerm, .int .i64 x184.fKind, .string x184.fData] 35 (0, 0)) :: H, R, φ⟩ (fun _ h => h) ?_
        refine c_cond1 rfl rfl ?_
        refine c_seq ?_
        refine c_region ?_
        refine g_v rfl r_assign ?_
        refine g_nil ?_
        refine d_then ?_
        refine c_ret ?_
        refine d_ret_then ?_
        refine d_ret_block ?_
        refine d_ret_then ?_
        refine d_ret_then ?_
        refine d_ret_block ?_
        refine d_ret_then ?_
        refine d_ret_then ?_
        replace hm := nx_out (C := (fun e => Sum.elim (fun e => m_plog_Check_j1) (fun x => some x) e = some r)) hm hnx2 hr2
        replace hm : some 1 = some r := hm
        replace hm := Option.some.inj hm
        subst hm
        refine d_retC () Try.results19 ?_ trivial (fun W h => ok_pre (H1 := [_]) (R1 := []) h (fun W hφ => hφ)) (.inr rfl)
        refine res_tmp ?_
        refine res_nil ?_
        exact rfl
      ·
       replace hm := ite_t hm (of_decide_eq_true h189)
       refine g_no rfl rfl rfl rfl rfl h189 ?_
       refine g_no rfl rfl rfl rfl rfl h189 ?_
       refine g_no rfl rfl rfl rfl rfl h189 ?_
       refine g_v rfl (r_pick1 rfl h189) ?_
       refine g_v rfl r_move ?_
       refine g_no rfl rfl rfl rfl rfl rfl ?_
       refine g_no rfl rfl rfl rfl rfl rfl ?_
       refine g_no rfl rfl rfl rfl rfl rfl ?_
       refine g_v rfl (r_pick1 rfl rfl) ?_
       refine g_v rfl r_move ?_
       refine g_no rfl rfl rfl rfl rfl rfl ?_
       refine g_no rfl rfl rfl rfl rfl rfl ?_
       refine g_no rfl rfl rfl rfl rfl rfl ?_
       refine g_v rfl (r_pick1 rfl rfl) ?_
       refine g_v rfl r_move ?_
       refine g_no rfl rfl rfl rfl rfl rfl ?_
       refine g_no rfl rfl rfl rfl rfl rfl ?_
       refine g_no rfl rfl rfl rfl rfl rfl ?_
       refine g_no rfl rfl rfl rfl rfl rfl ?_
       refine g_v rfl (r_pick1 rfl rfl) ?_
       refine g_nil ?_
       refine d_then ?_
       refine c_flat [(5, .pointer (some ⟨g188, 0, none⟩)), (27, .slice Ap0_0 p0.fEntries.length cp0_0), (28, .int .i64 (p0.fEntries.length : Int)), (29, .int .i64 i133), (58, .bool true)] ⟨rfl, rfl, rfl, rfl, rfl, trivial⟩ (fun u => ?_)
       refine c_sta ⟨w0, M, (100050, g188, .cells #[.int .i64 x184.fTerm, .int .i64 x184.fKind, .string x184.fData] 35 (0, 0)) :: H, R, φ⟩ (fun _ h => h) ?_
       refine c_cond1 rfl rfl ?_
       refine c_seq ?_
       refine c_region ?_
       refine g_v rfl r_assign ?_
       refine g_nil ?_
       refine d_then ?_
       refine c_ret ?_
       refine d_ret_then ?_
       refine d_ret_block ?_
       refine d_ret_then ?_
       refine d_ret_then ?_
       refine d_ret_block ?_
       refine d_ret_then ?_
       refine d_ret_then ?_
       replace hm := nx_out (C := (fun e => Sum.elim (fun e => m_plog_Check_j1) (fun x => some x) e = some r)) hm hnx2 hr2
       replace hm : some 1 = some r := hm
       replace hm := Option.some.inj hm
       subst hm
       refine d_retC () Try.results19 ?_ trivial (fun W h => ok_pre (H1 := [_]) (R1 := []) h (fun W hφ => hφ)) (.inr rfl)
       refine res_tmp ?_
       refine res_nil ?_
       exact rfl
     ·
      replace hm := ite_f hm (of_decide_eq_false h183)
      refine c_exit ?_
      refine d_exit_then ?_
      refine d_exit_then ?_
      refine d_exit_block ?_
      replace hm := nx_out (C := (fun e => Sum.elim (fun e => m_plog_Check_j1) (fun x => some x) e = some r)) hm hnx2 hr2
      exact d_round () hm Nat.zero_lt_one trivial (fun W h => h.phi (fun W hφ => hφ))
    ·
     unfold m_plog_Check_j1 at hm
     refine d_flat [] trivial (fun u => ?_)
     refine d_sta ⟨w0, M, H, R, φ⟩ (fun _ h => h) ?_
     refine d_then ?_
     refine c_seq ?_
     refine c_region ?_
     refine g_v rfl r_assign ?_
     refine g_nil ?_
     refine d_then ?_
     refine c_ret ?_
     replace hm := Option.some.inj hm
     subst hm
     refine d_retC () Try.results19 ?_ trivial (fun W h => ok_pre (H1 := []) (R1 := []) h (fun W hφ => hφ)) (.inr rfl)
     refine res_tmp ?_
     refine res_nil ?_
     exact rfl
  ·
   have h7' : x5 = false := by revert h7; cases x5 <;> simp
   replace hm := ite_f hm (bool_nt h7')
   refine g_no rfl rfl rfl rfl rfl h7 ?_
   refine g_no rfl rfl rfl rfl rfl h7 ?_
   refine g_no rfl rfl rfl rfl rfl h7 ?_
   refine g_v rfl (r_pick1 rfl h7) ?_
   refine g_nil ?_
   refine d_then ?_
   refine c_flat [(1, .pointer (some ⟨g1, 0, none⟩)), (23, .bool true)] ⟨rfl, rfl, trivial⟩ (fun u => ?_)
   refine c_sta ⟨w0, M, (100010, g1, .cells #[.int .i64 p0.fBase, .int .i64 p0.fBaseTerm, .slice Ap0_0 p0.fEntries.length cp0_0] 26 (0, 0)) :: H, R, φ⟩ (fun _ h => h) ?_
   refine c_cond1 rfl rfl ?_
   refine c_seq ?_
   refine c_region ?_
   refine g_v rfl r_assign ?_
   refine g_nil ?_
   refine d_then ?_
   refine c_ret ?_
   refine d_ret_then ?_
   replace hm := Option.some.inj hm
   subst hm
   refine d_retC () Try.results19 ?_ trivial (fun W h => ok_pre (H1 := [_]) (R1 := []) h (fun W hφ => hφ)) (.inr rfl)
   refine res_tmp ?_
   refine res_nil ?_
   exact rfl
 ·
  have h4' : x2 = false := by revert h4; cases x2 <;> simp
  replace hm := ite_f hm (bool_nt h4')
  refine g_no rfl rfl rfl rfl rfl h4 ?_
  refine g_no rfl rfl rfl rfl rfl h4 ?_
  refine g_no rfl rfl rfl rfl rfl h4 ?_
  refine g_v rfl (r_pick1 rfl h4) ?_
  refine g_v rfl r_move ?_
  refine g_no rfl rfl rfl rfl rfl rfl ?_
  refine g_no rfl rfl rfl rfl rfl rfl ?_
  refine g_no rfl rfl rfl rfl rfl rfl ?_
  refine g_no rfl rfl rfl rfl rfl rfl ?_
  refine g_v rfl (r_pick1 rfl rfl) ?_
  refine g_nil ?_
  refine d_then ?_
  refine c_flat [(1, .pointer (some ⟨g1, 0, none⟩)), (23, .bool true)] ⟨rfl, rfl, trivial⟩ (fun u => ?_)
  refine c_sta ⟨w0, M, (100010, g1, .cells #[.int .i64 p0.fBase, .int .i64 p0.fBaseTerm, .slice Ap0_0 p0.fEntries.length cp0_0] 26 (0, 0)) :: H, R, φ⟩ (fun _ h => h) ?_
  refine c_cond1 rfl rfl ?_
  refine c_seq ?_
  refine c_region ?_
  refine g_v rfl r_assign ?_
  refine g_nil ?_
  refine d_then ?_
  refine c_ret ?_
  refine d_ret_then ?_
  replace hm := Option.some.inj hm
  subst hm
  refine d_retC () Try.results19 ?_ trivial (fun W h => ok_pre (H1 := [_]) (R1 := []) h (fun W hφ => hφ)) (.inr rfl)
  refine res_tmp ?_
  refine res_nil ?_
  exact rfl

noncomputable def m_ref11_Check_s2 (p0 : GLog) (i120 : Int) (i121 : Int) : Option ((Int × Int) ⊕ (Unit ⊕ Int)) :=
  if i121 < (p0.fEntries.length : Int) then
    (at_ p0.fEntries i121).bind fun x168 =>
    if x168.fTerm < i120 then
      some (.inr (.inr 1))
    else
      if 1099511627776 < x168.fTerm then
        some (.inr (.inr 1))
      else
        if x168.fKind < 0 then
          some (.inr (.inr 1))
        else
          if 2 < x168.fKind then
            some (.inr (.inr 1))
          else
            if 8000 < (x168.fData.size : Int) then
              some (.inr (.inr 1))
            else
              (m_ref11_List x168.fData).bind fun (z184 : (List Int) × Bool) =>
              if x168.fKind = 1 then
                if z184.2 = true then
                  some (.inl (x168.fTerm, w64 (i121 + 1)))
                else
                  some (.inr (.inr 1))
              else
                some (.inl (x168.fTerm, w64 (i121 + 1)))
  else
    some (.inr (.inl ()))
noncomputable def m_ref11_Check_j1  : Option Int :=
  some 0
noncomputable def m_ref11_Check (p0 : GLog) : Option Int :=
  if p0.fBase < 0 then
    some 1
  else
    if 1099511627776 < p0.fBase then
      some 1
    else
      if p0.fBaseTerm < 0 then
        some 1
      else
        if 1099511627776 < p0.fBaseTerm then
          some 1
        else
          if 100000 < (p0.fEntries.length : Int) then
            some 1
          else
            (loop (fun s => m_ref11_Check_s2 p0 s.1 s.2) (p0.fBaseTerm, 0)).bind fun e => Sum.elim (fun e => m_ref11_Check_j1) (fun x => some x) e
theorem c_ref11_Check {w0 : World} {M : Nat → Prop} {H : List (Nat × Nat × Obj)} {R : List (Nat × Row)} {φ : World → Prop} (p0 : GLog) (Ap0_0 : Option Addr) (cp0_0 : Nat) (hcp0_0 : p0.fEntries.length ≤ cp0_0) (fp0_0 : ∀ W, (Sta.mk w0 M H R φ).ok W → Cl W Ap0_0 (p0.fEntries.flatMap GEntry.enc)) (r : Int) (hm : m_ref11_Check p0 = some r) :
    Cn Try.prog 37 #[.agg #[.int .i64 p0.fBase, .int .i64 p0.fBaseTerm, .slice Ap0_0 p0.fEntries.length cp0_0]] ⟨w0, M, H, R, φ⟩ (fun x : Unit => .int .i64 r) (fun x => True) (fun x => ⟨w0, M, H, R, φ⟩) := by
 unfold m_ref11_Check at hm
 refine cn_intro (fn := Try.f37) (N := 86) Try.func37 rfl Try.ntmps37 rfl ?_
 refine c_seq ?_
 refine c_region ?_
 refine g_e rfl (e_box 100010 rfl) (fun g1 _ => ?_)
 refine g_v rfl r_assign ?_
 refine g_nil ?_
 refine d_then ?_
 refine c_seq ?_
 refine c_seq ?_
 refine c_region ?_
 refine g_v rfl (r_field (n := 0) Try.underlying26 rfl Try.sizeOf3 rfl rfl) ?_
 refine g_v rfl (r_load (tag := 100010) rfl rfl rfl Try.isAgg3) ?_
 refine g_v rfl (r_lss rfl rfl) ?_
 refine g_v rfl r_move ?_
 refine g_if rfl rfl rfl rfl rfl (fun h2 => ?_) (fun h2 => ?_)
 ·
  replace hm := ite_f hm (of_decide_eq_false h2)
  refine g_v rfl (r_field (n := 0) Try.underlying26 rfl Try.sizeOf3 rfl rfl) ?_
  refine g_do rfl rfl rfl rfl rfl h2 ?_
  refine g_v rfl (r_load (tag := 100010) rfl rfl rfl Try.isAgg3) ?_
  refine g_do rfl rfl rfl rfl rfl h2 ?_
  refine g_v rfl (r_gtr rfl rfl) ?_
  refine g_v rfl (r_pick0 rfl h2) ?_
  refine g_v rfl r_move ?_
  refine g_if rfl rfl rfl rfl rfl (fun h3 => ?_) (fun h3 => ?_)
  ·
   replace hm := ite_f hm (of_decide_eq_false h3)
   refine g_v rfl (r_field (n := 1) Try.underlying26 rfl Try.sizeOf3 rfl rfl) ?_
   refine g_do rfl rfl rfl rfl rfl h3 ?_
   refine g_v rfl (r_load (tag := 100010) rfl rfl rfl Try.isAgg3) ?_
   refine g_do rfl rfl rfl rfl rfl h3 ?_
   refine g_v rfl (r_lss rfl rfl) ?_
   refine g_v rfl (r_pick0 rfl h3) ?_
   refine g_v rfl r_move ?_
   refine g_if rfl rfl rfl rfl rfl (fun h4 => ?_) (fun h4 => ?_)
   ·
    replace hm := ite_f hm (of_decide_eq_false h4)
    refine g_v rfl (r_field (n := 1) Try.underlying26 rfl Try.sizeOf3 rfl rfl) ?_
    refine g_do rfl rfl rfl rfl rfl h4 ?_
    refine g_v rfl (r_load (tag := 100010) rfl rfl rfl Try.isAgg3) ?_
    refine g_do rfl rfl rfl rfl rfl h4 ?_
    refine g_v rfl (r_gtr rfl rfl) ?_
    refine g_v rfl (r_pick0 rfl h4) ?_
    refine g_v rfl r_move ?_
    refine g_if rfl rfl rfl rfl rfl (fun h5 => ?_) (fun h5 => ?_)
    ·
     replace hm := ite_f hm (of_decide_eq_false h5)
     refine g_v rfl (r_field (n := 2) Try.underlying26 rfl Try.sizeOf24 rfl rfl) ?_
     refine g_do rfl rfl rfl rfl rfl h5 ?_
     refine g_v rfl (r_load (tag := 100010) rfl rfl rfl Try.isAgg24) ?_
     refine g_do rfl rfl rfl rfl rfl h5 ?_
     refine g_v rfl (r_lenL Try.underlying24 rfl) ?_
     refine g_do rfl rfl rfl rfl rfl h5 ?_
     refine g_v rfl (r_gtr rfl rfl) ?_
     refine g_v rfl (r_pick0 rfl h5) ?_
     refine g_nil ?_
     refine d_then ?_
     refine c_flat [(1, .pointer (some ⟨g1, 0, none⟩)), (31, .bool (decide (100000 < (p0.fEntries.length : Int))))] ⟨rfl, rfl, trivial⟩ (fun u => ?_)
     refine c_sta ⟨w0, M, (100010, g1, .cells #[.int .i64 p0.fBase, .int .i64 p0.fBaseTerm, .slice Ap0_0 p0.fEntries.length cp0_0] 26 (0, 0)) :: H, R, φ⟩ (fun _ h => h) ?_
     refine c_cond rfl (fun h6 => ?_) (fun h6 => ?_)
     ·
      replace hm := ite_t hm (of_decide_eq_true h6)
      refine c_seq ?_
      refine c_region ?_
      refine g_v rfl r_assign ?_
      refine g_nil ?_
      refine d_then ?_
      refine c_ret ?_
      refine d_ret_then ?_
      replace hm := Option.some.inj hm
      subst hm
      refine d_retC () Try.results37 ?_ trivial (fun W h => ok_pre (H1 := [_]) (R1 := []) h (fun W hφ => hφ)) (.inr rfl)
      refine res_tmp ?_
      refine res_nil ?_
      exact rfl
     ·
      replace hm := ite_f hm (of_decide_eq_false h6)
      refine c_skip ?_
      refine d_then ?_
      refine c_seq ?_
      refine c_region ?_
      refine g_v rfl (r_field (n := 1) Try.underlying26 rfl Try.sizeOf3 rfl rfl) ?_
      refine g_v rfl (r_load (tag := 100010) rfl rfl rfl Try.isAgg3) ?_
      refine g_v rfl r_assign ?_
      refine g_nil ?_
      refine d_then ?_
      refine c_seq ?_
      refine c_seq ?_
      refine c_region ?_
      refine g_v rfl r_assign ?_
      refine g_nil ?_
      refine d_then ?_
      refine c_cut (ι := Unit) [] (fun _ => []) (fun _ => ⟨w0, M, H, R, φ⟩) (fun _ => m_ref11_Check_j1 = some r) ?_ (fun _ u hm => ?_)
      ·
       refine c_block ?_
       replace hm := bnd hm
       obtain ⟨out2, hl2, hr2⟩ := hm
       obtain ⟨n144', hl2⟩ := loop_lp hl2
       refine c_loopU (ι := Nat × Int × Int) [1, 3, 4] (fun ⟨n144, i120, i121⟩ => [(3, .int .i64 i120), (4, .int .i64 i121)]) (fun ⟨n144, i120, i121⟩ => ⟨w0, M, (100010, g1, .cells #[.int .i64 p0.fBase, .int .i64 p0.fBaseTerm, .slice Ap0_0 p0.fEntries.length cp0_0] 26 (0, 0)) :: H, R, φ⟩) (fun ⟨n144, i120, i121⟩ => Lp (fun s => m_ref11_Check_s2 p0 s.1 s.2) n144 (i120, i121) out2) (fun ⟨n144, i120, i121⟩ => n144) (n144', p0.fBaseTerm, 0) hl2 ⟨rfl, rfl, rfl, trivial⟩ (fun W h => h.phi (fun W hφ => hφ)) (fun ⟨n144, i120, i121⟩ u hlp => ?_)
       obtain ⟨o2, hm, hnx2⟩ := lp_step hlp
       clear hlp
       replace hm : m_ref11_Check_s2 p0 i120 i121 = some o2 := hm
       unfold m_ref11_Check_s2 at hm
       refine c_flat [(1, .pointer (some ⟨g1, 0, none⟩)), (3, .int .i64 i120), (4, .int .i64 i121)] ⟨rfl, rfl, rfl, trivial⟩ (fun u => ?_)
       refine c_sta ⟨w0, M, (100010, g1, .cells #[.int .i64 p0.fBase, .int .i64 p0.fBaseTerm, .slice Ap0_0 p0.fEntries.length cp0_0] 26 (0, 0)) :: H, R, φ⟩ (fun _ h => h) ?_
       refine c_seq ?_
       refine c_seq ?_
       refine c_region ?_
       refine g_v rfl r_move ?_
       refine g_v rfl (r_field (n := 2) Try.underlying26 rfl Try.sizeOf24 rfl rfl) ?_
       refine g_v rfl (r_load (tag := 100010) rfl rfl rfl Try.isAgg24) ?_
       refine g_v rfl (r_lenL Try.underlying24 rfl) ?_
       refine g_v rfl (r_lss rfl rfl) ?_
       refine g_nil ?_
       refine d_then ?_
       refine c_cond rfl (fun h167 => ?_) (fun h167 => ?_)
       ·
        replace hm := ite_t hm (of_decide_eq_true h167)
        refine c_skip ?_
        refine d_then ?_
        refine c_seq ?_
        refine c_block ?_
        refine c_seq ?_
        refine c_region ?_
        refine g_v rfl (r_field (n := 2) Try.underlying26 rfl Try.sizeOf24 rfl rfl) ?_
        refine g_v rfl (r_load (tag := 100010) rfl rfl rfl Try.isAgg24) ?_
        refine g_v rfl r_move ?_
        replace hm := bnd hm
        obtain ⟨x168, hx168, hm⟩ := hm
        refine g_know _ (fun W hS => cl_at (p := (Sta.mk w0 M H R φ).ok) (sz := 3) (fun _ => rfl) (by decide) (ok_pre (H1 := [_]) (R1 := []) hS (fun W h => h)) fp0_0 hx168) ?_
        rintro ⟨ad169, hA171, f170⟩
        refine g_v rfl (r_ix Try.underlying24 Try.sizeOf35 rfl hA171 rfl hx168) ?_
        refine g_v rfl (r_ldA rfl Try.isAgg35 Try.sizeOf35 (fun W hS => (f170 W (ok_pre (H1 := [_]) (R1 := []) hS (fun W h => h))).take 3) rfl) ?_
        refine g_e rfl (e_alloc 100050 Try.zeroValue35) (fun g172 _ => ?_)
        refine g_storeL (tag := 100050) rfl rfl rfl rfl Try.sizeOf35 rfl rfl ?_
        refine g_nil ?_
        refine d_then ?_
        refine c_flat [(1, .pointer (some ⟨g1, 0, none⟩)), (3, .int .i64 i120), (4, .int .i64 i121), (5, .pointer (some ⟨g172, 0, none⟩))] ⟨rfl, rfl, rfl, rfl, trivial⟩ (fun u => ?_)
        refine c_sta ⟨w0, M, (100050, g172, .cells #[.int .i64 x168.fTerm, .int .i64 x168.fKind, .string x168.fData] 35 (0, 0)) :: (100010, g1, .cells #[.int .i64 p0.fBase, .int .i64 p0.fBaseTerm, .slice Ap0_0 p0.fEntries.length cp0_0] 26 (0, 0)) :: H, R, φ⟩ (fun _ h => h) ?_
        refine c_seq ?_
        refine c_seq ?_
        refine c_region ?_
        refine g_v rfl (r_field (n := 0) Try.underlying35 rfl Try.sizeOf3 rfl rfl) ?_
        refine g_v rfl (r_load (tag := 100050) rfl rfl rfl Try.isAgg3) ?_
        refine g_v rfl r_move ?_
        refine g_v rfl (r_lss rfl rfl) ?_
        refine g_v rfl r_move ?_
        refine g_if rfl rfl rfl rfl rfl (fun h173 => ?_) (fun h173 => ?_)
        ·
         replace hm := ite_f hm (of_decide_eq_false h173)
         refine g_v rfl (r_field (n := 0) Try.underlying35 rfl Try.sizeOf3 rfl rfl) ?_
         refine g_do rfl rfl rfl rfl rfl h173 ?_
         refine g_v rfl (r_load (tag := 100050) rfl rfl rfl Try.isAgg3) ?_
         refine g_do rfl rfl rfl rfl rfl h173 ?_
         refine g_v rfl (r_gtr rfl rfl) ?_
         refine g_v rfl (r_pick0 rfl h173) ?_
         refine g_v rfl r_move ?_
         refine g_if rfl rfl rfl rfl rfl (fun h174 => ?_) (fun h174 => ?_)
         ·
          replace hm := ite_f hm (of_decide_eq_false h174)
          refine g_v rfl (r_field (n := 1) Try.underlying35 rfl Try.sizeOf3 rfl rfl) ?_
          refine g_do rfl rfl rfl rfl rfl h174 ?_
          refine g_v rfl (r_load (tag := 100050) rfl rfl rfl Try.isAgg3) ?_
          refine g_do rfl rfl rfl rfl rfl h174 ?_
          refine g_v rfl (r_lss rfl rfl) ?_
          refine g_v rfl (r_pick0 rfl h174) ?_
          refine g_v rfl r_move ?_
          refine g_if rfl rfl rfl rfl rfl (fun h175 => ?_) (fun h175 => ?_)
          ·
           replace hm := ite_f hm (of_decide_eq_false h175)
           refine g_v rfl (r_field (n := 1) Try.underlying35 rfl Try.sizeOf3 rfl rfl) ?_
           refine g_do rfl rfl rfl rfl rfl h175 ?_
           refine g_v rfl (r_load (tag := 100050) rfl rfl rfl Try.isAgg3) ?_
           refine g_do rfl rfl rfl rfl rfl h175 ?_
           refine g_v rfl (r_gtr rfl rfl) ?_
           refine g_v rfl (r_pick0 rfl h175) ?_
           refine g_v rfl r_move ?_
           refine g_if rfl rfl rfl rfl rfl (fun h176 => ?_) (fun h176 => ?_)
           ·
            replace hm := ite_f hm (of_decide_eq_false h176)
            refine g_v rfl (r_field (n := 2) Try.underlying35 rfl Try.sizeOf9 rfl rfl) ?_
            refine g_do rfl rfl rfl rfl rfl h176 ?_
            refine g_v rfl (r_load (tag := 100050) rfl rfl rfl Try.isAgg9) ?_
            refine g_do rfl rfl rfl rfl rfl h176 ?_
            refine g_v rfl (r_len Try.underlying9 rfl) ?_
            refine g_do rfl rfl rfl rfl rfl h176 ?_
            refine g_v rfl (r_gtr rfl rfl) ?_
            refine g_v rfl (r_pick0 rfl h176) ?_
            refine g_nil ?_
            refine d_then ?_
            refine c_flat [(1, .pointer (some ⟨g1, 0, none⟩)), (4, .int .i64 i121), (5, .pointer (some ⟨g172, 0, none⟩)), (70, .bool (decide (8000 < (x168.fData.size : Int))))] ⟨rfl, rfl, rfl, rfl, trivial⟩ (fun u => ?_)
            refine c_sta ⟨w0, M, (100050, g172, .cells #[.int .i64 x168.fTerm, .int .i64 x168.fKind, .string x168.fData] 35 (0, 0)) :: (100010, g1, .cells #[.int .i64 p0.fBase, .int .i64 p0.fBaseTerm, .slice Ap0_0 p0.fEntries.length cp0_0] 26 (0, 0)) :: H, R, φ⟩ (fun _ h => h) ?_
            refine c_cond rfl (fun h177 => ?_) (fun h177 => ?_)
            ·
             replace hm := ite_t hm (of_decide_eq_true h177)
             refine c_seq ?_
             refine c_region ?_
             refine g_v rfl r_assign ?_
             refine g_nil ?_
             refine d_then ?_
             refine c_ret ?_
             refine d_ret_then ?_
             refine d_ret_block ?_
             refine d_ret_then ?_
             refine d_ret_then ?_
             refine d_ret_block ?_
             refine d_ret_then ?_
             refine d_ret_then ?_
             replace hm := nx_out (C := (fun e => Sum.elim (fun e => m_ref11_Check_j1) (fun x => some x) e = some r)) hm hnx2 hr2
             replace hm : some 1 = some r := hm
             replace hm := Option.some.inj hm
             subst hm
             refine d_retC () Try.results37 ?_ trivial (fun W h => ok_pre (H1 := [_, _]) (R1 := []) h (fun W hφ => hφ)) (.inr rfl)
             refine res_tmp ?_
             refine res_nil ?_
             exact rfl
            ·
             replace hm := ite_f hm (of_decide_eq_false h177)
             refine c_skip ?_
             refine d_then ?_
             refine c_seq ?_
             refine c_region ?_
             refine g_v rfl (r_field (n := 2) Try.underlying35 rfl Try.sizeOf9 rfl rfl) ?_
             refine g_v rfl (r_load (tag := 100050) rfl rfl rfl Try.isAgg9) ?_
             replace hm := bnd hm
             obtain ⟨⟨x178, x179⟩, hx180, hm⟩ := hm
             refine g_cn ⟨w0, M, _, _, φ⟩ (fun _ h => h) Try.call24 rfl rfl (c_ref11_List x168.fData _ hx180) (fun ⟨A181, c182⟩ hc182 => ?_)
             refine g_sta _ (fun W h => ok_frontR (t := 2000) (t' := 100740) h rfl) ?_
             refine g_v rfl r_move ?_
             refine g_v rfl (r_extract rfl rfl) ?_
             refine g_v rfl (r_extract rfl rfl) ?_
             refine g_v rfl r_assign ?_
             refine g_v rfl r_assign ?_
             refine g_nil ?_
             refine d_then ?_
             refine c_seq ?_
             refine c_seq ?_
             refine c_region ?_
             refine g_v rfl (r_field (n := 1) Try.underlying35 rfl Try.sizeOf3 rfl rfl) ?_
             refine g_v rfl (r_load (tag := 100050) rfl rfl rfl Try.isAgg3) ?_
             refine g_v rfl (r_eql rfl rfl) ?_
             refine g_v rfl r_move ?_
             refine g_if rfl rfl rfl rfl rfl (fun h185 => ?_) (fun h185 => ?_)
             ·
              replace hm := ite_t hm (of_decide_eq_true h185)
              refine g_v rfl r_move ?_
              refine g_do rfl rfl rfl rfl rfl h185 ?_
              refine g_v rfl (r_not rfl) ?_
              refine g_v rfl (r_pick1 rfl h185) ?_
              refine g_nil ?_
              refine d_then ?_
              refine c_flat [(1, .pointer (some ⟨g1, 0, none⟩)), (4, .int .i64 i121), (5, .pointer (some ⟨g172, 0, none⟩)), (83, .bool (!x179))] ⟨rfl, rfl, rfl, rfl, trivial⟩ (fun u => ?_)
              refine c_sta ⟨w0, M, (100050, g172, .cells #[.int .i64 x168.fTerm, .int .i64 x168.fKind, .string x168.fData] 35 (0, 0)) :: (100010, g1, .cells #[.int .i64 p0.fBase, .int .i64 p0.fBaseTerm, .slice Ap0_0 p0.fEntries.length cp0_0] 26 (0, 0)) :: H, (100740, ⟨.slice A181 x178.length c182, 3, 1, x178.length, x178.flatMap (fun x : Int => [Value.int .i64 x])⟩) :: R, φ⟩ (fun _ h => h) ?_
              refine c_cond rfl (fun h186 => ?_) (fun h186 => ?_)
              ·
               have h186' : x179 = false := by revert h186; cases x179 <;> simp
               replace hm := ite_f hm (bool_nt h186')
               refine c_seq ?_
               refine c_region ?_
               refine g_v rfl r_assign ?_
               refine g_nil ?_
               refine d_then ?_
               refine c_ret ?_
               refine d_ret_then ?_
               refine d_ret_block ?_
               refine d_ret_then ?_
               refine d_ret_then ?_
               refine d_ret_block ?_
               refine d_ret_then ?_
               refine d_ret_then ?_
               replace hm := nx_out (C := (fun e => Sum.elim (fun e => m_ref11_Check_j1) (fun x => some x) e = some r)) hm hnx2 hr2
               replace hm : some 1 = some r := hm
               replace hm := Option.some.inj hm
               subst hm
               refine d_retC () Try.results37 ?_ trivial (fun W h => ok_pre (H1 := [_, _]) (R1 := [_]) h (fun W hφ => hφ)) (.inr rfl)
               refine res_tmp ?_
               refine res_nil ?_
               exact rfl
              ·
               have h186' : x179 = true := by revert h186; cases x179 <;> simp
               replace hm := ite_t hm h186'
               refine c_skip ?_
               refine d_then ?_
               refine c_region ?_
               refine g_v rfl (r_field (n := 0) Try.underlying35 rfl Try.sizeOf3 rfl rfl) ?_
               refine g_v rfl (r_load (tag := 100050) rfl rfl rfl Try.isAgg3) ?_
               refine g_v rfl r_assign ?_
               refine g_nil ?_
               refine d_normal_block ?_
               refine d_then ?_
               refine c_region ?_
               refine g_v rfl r_move ?_
               refine g_v rfl (r_add rfl rfl rfl) ?_
               refine g_v rfl r_assign ?_
               refine g_nil ?_
               obtain ⟨n187, hn187, hlp⟩ := nx_inl hm hnx2
               exact d_round (n187, x168.fTerm, w64 (i121 + 1)) hlp hn187 ⟨rfl, rfl, rfl, trivial⟩ (fun W h => (((h.shut (t := 100740) rfl).phi (fun _ hh => hh.1)).dropH (t := 100050) rfl).phi (fun W hφ => hφ))
             ·
              replace hm := ite_f hm (of_decide_eq_false h185)
              refine g_no rfl rfl rfl rfl rfl h185 ?_
              refine g_v rfl (r_pick0 rfl h185) ?_
              refine g_nil ?_
              refine d_then ?_
              refine c_flat [(1, .pointer (some ⟨g1, 0, none⟩)), (4, .int .i64 i121), (5, .pointer (some ⟨g172, 0, none⟩)), (83, .bool false)] ⟨rfl, rfl, rfl, rfl, trivial⟩ (fun u => ?_)
              refine c_sta ⟨w0, M, (100050, g172, .cells #[.int .i64 x168.fTerm, .int .i64 x168.fKind, .string x168.fData] 35 (0, 0)) :: (100010, g1, .cells #[.int .i64 p0.fBase, .int .i64 p0.fBaseTerm, .slice Ap0_0 p0.fEntries.length cp0_0] 26 (0, 0)) :: H, (100740, ⟨.slice A181 x178.length c182, 3, 1, x178.length, x178.flatMap (fun x : Int => [Value.int .i64 x])⟩) :: R, φ⟩ (fun _ h => h) ?_
              refine c_cond0 rfl rfl ?_
              refine c_skip ?_
              refine d_then ?_
              refine c_region ?_
              refine g_v rfl (r_field (n := 0) Try.underlying35 rfl Try.sizeOf3 rfl rfl) ?_
              refine g_v rfl (r_load (tag := 100050) rfl rfl rfl Try.isAgg3) ?_
              refine g_v rfl r_assign ?_
              refine g_nil ?_
              refine d_normal_block ?_
              refine d_then ?_
              refine c_region ?_
              refine g_v rfl r_move ?_
              refine g_v rfl (r_add rfl rfl rfl) ?_
              refine g_v rfl r_assign ?_
              refine g_nil ?_
              obtain ⟨n188, hn188, hlp⟩ := nx_inl hm hnx2
              exact d_round (n188, x168.fTerm, w64 (i121 + 1)) hlp hn188 ⟨rfl, rfl, rfl, trivial⟩ (fun W h => (((h.shut (t := 100740) rfl).phi (fun _ hh => hh.1)).dropH (t := 100050) rfl).phi (fun W hφ => hφ))
           ·
            replace hm := ite_t hm (of_decide_eq_true h176)
            refine g_no rfl rfl rfl rfl rfl h176 ?_
            refine g_no rfl rfl rfl rfl rfl h176 ?_
            refine g_no rfl rfl rfl rfl rfl h176 ?_
            refine g_v rfl (r_pick1 rfl h176) ?_
            refine g_nil ?_
            refine d_then ?_
            refine c_flat [(1, .pointer (some ⟨g1, 0, none⟩)), (4, .int .i64 i121), (5, .pointer (some ⟨g172, 0, none⟩)), (70, .bool true)] ⟨rfl, rfl, rfl, rfl, trivial⟩ (fun u => ?_)
            refine c_sta ⟨w0, M, (100050, g172, .cells #[.int .i64 x168.fTerm, .int .i64 x168.fKind, .string x168.fData] 35 (0, 0)) :: (100010, g1, .cells #[.int .i64 p0.fBase, .int .i64 p0.fBaseTerm, .slice Ap0_0 p0.fEntries.length cp0_0] 26 (0, 0)) :: H, R, φ⟩ (fun _ h => h) ?_
            refine c_cond1 rfl rfl ?_
            refine c_seq ?_
            refine c_region ?_
            refine g_v rfl r_assign ?_
            refine g_nil ?_
            refine d_then ?_
            refine c_ret ?_
            refine d_ret_then ?_
            refine d_ret_block ?_
            refine d_ret_then ?_
            refine d_ret_then ?_
            refine d_ret_block ?_
            refine d_ret_then ?_
            refine d_ret_then ?_
            replace hm := nx_out (C := (fun e => Sum.elim (fun e => m_ref11_Check_j1) (fun x => some x) e = some r)) hm hnx2 hr2
            replace hm : some 1 = some r := hm
            replace hm := Option.some.inj hm
            subst hm
            refine d_retC () Try.results37 ?_ trivial (fun W h => ok_pre (H1 := [_, _]) (R1 := []) h (fun W hφ => hφ)) (.inr rfl)
            refine res_tmp ?_
            refine res_nil ?_
            exact rfl
          ·
           replace hm := ite_t hm (of_decide_eq_true h175)
           refine g_no rfl rfl rfl rfl rfl h175 ?_
           refine g_no rfl rfl rfl rfl rfl h175 ?_
           refine g_v rfl (r_pick1 rfl h175) ?_
           refine g_v rfl r_move ?_
           refine g_no rfl rfl rfl rfl rfl rfl ?_
           refine g_no rfl rfl rfl rfl rfl rfl ?_
           refine g_no rfl rfl rfl rfl rfl rfl ?_
           refine g_no rfl rfl rfl rfl rfl rfl ?_
           refine g_v rfl (r_pick1 rfl rfl) ?_
           refine g_nil ?_
           refine d_then ?_
           refine c_flat [(1, .pointer (some ⟨g1, 0, none⟩)), (4, .int .i64 i121), (5, .pointer (some ⟨g172, 0, none⟩)), (70, .bool true)] ⟨rfl, rfl, rfl, rfl, trivial⟩ (fun u => ?_)
           refine c_sta ⟨w0, M, (100050, g172, .cells #[.int .i64 x168.fTerm, .int .i64 x168.fKind, .string x168.fData] 35 (0, 0)) :: (100010, g1, .cells #[.int .i64 p0.fBase, .int .i64 p0.fBaseTerm, .slice Ap0_0 p0.fEntries.length cp0_0] 26 (0, 0)) :: H, R, φ⟩ (fun _ h => h) ?_
           refine c_cond1 rfl rfl ?_
           refine c_seq ?_
           refine c_region ?_
           refine g_v rfl r_assign ?_
           refine g_nil ?_
           refine d_then ?_
           refine c_ret ?_
           refine d_ret_then ?_
           refine d_ret_block ?_
           refine d_ret_then ?_
           refine d_ret_then ?_
           refine d_ret_block ?_
           refine d_ret_then ?_
           refine d_ret_then ?_
           replace hm := nx_out (C := (fun e => Sum.elim (fun e => m_ref11_Check_j1) (fun x => some x) e = some r)) hm hnx2 hr2
           replace hm : some 1 = some r := hm
           replace hm := Option.some.inj hm
           subst hm
           refine d_retC () Try.results37 ?_ trivial (fun W h => ok_pre (H1 := [_, _]) (R1 := []) h (fun W hφ => hφ)) (.inr rfl)
           refine res_tmp ?_
           refine res_nil ?_
           exact rfl
         ·
          replace hm := ite_t hm (of_decide_eq_true h174)
          refine g_no rfl rfl rfl rfl rfl h174 ?_
          refine g_no rfl rfl rfl rfl rfl h174 ?_
          refine g_v rfl (r_pick1 rfl h174) ?_
          refine g_v rfl r_move ?_
          refine g_no rfl rfl rfl rfl rfl rfl ?_
          refine g_no rfl rfl rfl rfl rfl rfl ?_
          refine g_no rfl rfl rfl rfl rfl rfl ?_
          refine g_v rfl (r_pick1 rfl rfl) ?_
          refine g_v rfl r_move ?_
          refine g_no rfl rfl rfl rfl rfl rfl ?_
          refine g_no rfl rfl rfl rfl rfl rfl ?_
          refine g_no rfl rfl rfl rfl rfl rfl ?_
          refine g_no rfl rfl rfl rfl rfl rfl ?_
          refine g_v rfl (r_pick1 rfl rfl) ?_
          refine g_nil ?_
          refine d_then ?_
          refine c_flat [(1, .pointer (some ⟨g1, 0, none⟩)), (4, .int .i64 i121), (5, .pointer (some ⟨g172, 0, none⟩)), (70, .bool true)] ⟨rfl, rfl, rfl, rfl, trivial⟩ (fun u => ?_)
          refine c_sta ⟨w0, M, (100050, g172, .cells #[.int .i64 x168.fTerm, .int .i64 x168.fKind, .string x168.fData] 35 (0, 0)) :: (100010, g1, .cells #[.int .i64 p0.fBase, .int .i64 p0.fBaseTerm, .slice Ap0_0 p0.fEntries.length cp0_0] 26 (0, 0)) :: H, R, φ⟩ (fun _ h => h) ?_
          refine c_cond1 rfl rfl ?_
          refine c_seq ?_
          refine c_region ?_
          refine g_v rfl r_assign ?_
          refine g_nil ?_
          refine d_then ?_
          refine c_ret ?_
          refine d_ret_then ?_
          refine d_ret_block ?_
          refine d_ret_then ?_
          refine d_ret_then ?_
          refine d_ret_block ?_
          refine d_ret_then ?_
          refine d_ret_then ?_
          replace hm := nx_out (C := (fun e => Sum.elim (fun e => m_ref11_Check_j1) (fun x => some x) e = some r)) hm hnx2 hr2
          replace hm : some 1 = some r := hm
          replace hm := Option.some.inj hm
          subst hm
          refine d_retC () Try.results37 ?_ trivial (fun W h => ok_pre (H1 := [_, _]) (R1 := []) h (fun W hφ => hφ)) (.inr rfl)
          refine res_tmp ?_
          refine res_nil ?_
          exact rfl
        ·
         replace hm := ite_t hm (of_decide_eq_true h173)
         refine g_no rfl rfl rfl rfl rfl h173 ?_
         refine g_no rfl rfl rfl rfl rfl h173 ?_
         refine g_v rfl (r_pick1 rfl h173) ?_
         refine g_v rfl r_move ?_
         refine g_no rfl rfl rfl rfl rfl rfl ?_
         refine g_no rfl rfl rfl rfl rfl rfl ?_
         refine g_no rfl rfl rfl rfl rfl rfl ?_
         refine g_v rfl (r_pick1 rfl rfl) ?_
         refine g_v rfl r_move ?_
         refine g_no rfl rfl rfl rfl rfl rfl ?_
         refine g_no rfl rfl rfl rfl rfl rfl ?_
         refine g_no rfl rfl rfl rfl rfl rfl ?_
         refine g_v rfl (r_pick1 rfl rfl) ?_
         refine g_v rfl r_move ?_
         refine g_no rfl rfl rfl rfl rfl rfl ?_
         refine g_no rfl rfl rfl rfl rfl rfl ?_
         refine g_no rfl rfl rfl rfl rfl rfl ?_
         refine g_no rfl rfl rfl rfl rfl rfl ?_
         refine g_v rfl (r_pick1 rfl rfl) ?_
         refine g_nil ?_
         refine d_then ?_
         refine c_flat [(1, .pointer (some ⟨g1, 0, none⟩)), (4, .int .i64 i121), (5, .pointer (some ⟨g172, 0, none⟩)), (70, .bool true)] ⟨rfl, rfl, rfl, rfl, trivial⟩ (fun u => ?_)
         refine c_sta ⟨w0, M, (100050, g172, .cells #[.int .i64 x168.fTerm, .int .i64 x168.fKind, .string x168.fData] 35 (0, 0)) :: (100010, g1, .cells #[.int .i64 p0.fBase, .int .i64 p0.fBaseTerm, .slice Ap0_0 p0.fEntries.length cp0_0] 26 (0, 0)) :: H, R, φ⟩ (fun _ h => h) ?_
         refine c_cond1 rfl rfl ?_
         refine c_seq ?_
         refine c_region ?_
         refine g_v rfl r_assign ?_
         refine g_nil ?_
         refine d_then ?_
         refine c_ret ?_
         refine d_ret_then ?_
         refine d_ret_block ?_
         refine d_ret_then ?_
         refine d_ret_then ?_
         refine d_ret_block ?_
         refine d_ret_then ?_
         refine d_ret_then ?_
         replace hm := nx_out (C := (fun e => Sum.elim (fun e => m_ref11_Check_j1) (fun x => some x) e = some r)) hm hnx2 hr2
         replace hm : some 1 = some r := hm
         replace hm := Option.some.inj hm
         subst hm
         refine d_retC () Try.results37 ?_ trivial (fun W h => ok_pre (H1 := [_, _]) (R1 := []) h (fun W hφ => hφ)) (.inr rfl)
         refine res_tmp ?_
         refine res_nil ?_
         exact rfl
       ·
        replace hm := ite_f hm (of_decide_eq_false h167)
        refine c_exit ?_
        refine d_exit_then ?_
        refine d_exit_then ?_
        refine d_exit_block ?_
        replace hm := nx_out (C := (fun e => Sum.elim (fun e => m_ref11_Check_j1) (fun x => some x) e = some r)) hm hnx2 hr2
        exact d_round () hm Nat.zero_lt_one trivial (fun W h => (h.dropH (t := 100010) rfl).phi (fun W hφ => hφ))
      ·
       unfold m_ref11_Check_j1 at hm
       refine d_flat [] trivial (fun u => ?_)
       refine d_sta ⟨w0, M, H, R, φ⟩ (fun _ h => h) ?_
       refine d_then ?_
       refine c_seq ?_
       refine c_region ?_
       refine g_v rfl r_assign ?_
       refine g_nil ?_
       refine d_then ?_
       refine c_ret ?_
       replace hm := Option.some.inj hm
       subst hm
       refine d_retC () Try.results37 ?_ trivial (fun W h => ok_pre (H1 := []) (R1 := []) h (fun W hφ => hφ)) (.inr rfl)
       refine res_tmp ?_
       refine res_nil ?_
       exact rfl
    ·
     replace hm := ite_t hm (of_decide_eq_true h5)
     refine g_no rfl rfl rfl rfl rfl h5 ?_
     refine g_no rfl rfl rfl rfl rfl h5 ?_
     refine g_no rfl rfl rfl rfl rfl h5 ?_
     refine g_v rfl (r_pick1 rfl h5) ?_
     refine g_nil ?_
     refine d_then ?_
     refine c_flat [(1, .pointer (some ⟨g1, 0, none⟩)), (31, .bool true)] ⟨rfl, rfl, trivial⟩ (fun u => ?_)
     refine c_sta ⟨w0, M, (100010, g1, .cells #[.int .i64 p0.fBase, .int .i64 p0.fBaseTerm, .slice Ap0_0 p0.fEntries.length cp0_0] 26 (0, 0)) :: H, R, φ⟩ (fun _ h => h) ?_
     refine c_cond1 rfl rfl ?_
     refine c_seq ?_
     refine c_region ?_
     refine g_v rfl r_assign ?_
     refine g_nil ?_
     refine d_then ?_
     refine c_ret ?_
     refine d_ret_then ?_
     replace hm := Option.some.inj hm
     subst hm
     refine d_retC () Try.results37 ?_ trivial (fun W h => ok_pre (H1 := [_]) (R1 := []) h (fun W hφ => hφ)) (.inr rfl)
     refine res_tmp ?_
     refine res_nil ?_
     exact rfl
   ·
    replace hm := ite_t hm (of_decide_eq_true h4)
    refine g_no rfl rfl rfl rfl rfl h4 ?_
    refine g_no rfl rfl rfl rfl rfl h4 ?_
    refine g_v rfl (r_pick1 rfl h4) ?_
    refine g_v rfl r_move ?_
    refine g_no rfl rfl rfl rfl rfl rfl ?_
    refine g_no rfl rfl rfl rfl rfl rfl ?_
    refine g_no rfl rfl rfl rfl rfl rfl ?_
    refine g_no rfl rfl rfl rfl rfl rfl ?_
    refine g_v rfl (r_pick1 rfl rfl) ?_
    refine g_nil ?_
    refine d_then ?_
    refine c_flat [(1, .pointer (some ⟨g1, 0, none⟩)), (31, .bool true)] ⟨rfl, rfl, trivial⟩ (fun u => ?_)
    refine c_sta ⟨w0, M, (100010, g1, .cells #[.int .i64 p0.fBase, .int .i64 p0.fBaseTerm, .slice Ap0_0 p0.fEntries.length cp0_0] 26 (0, 0)) :: H, R, φ⟩ (fun _ h => h) ?_
    refine c_cond1 rfl rfl ?_
    refine c_seq ?_
    refine c_region ?_
    refine g_v rfl r_assign ?_
    refine g_nil ?_
    refine d_then ?_
    refine c_ret ?_
    refine d_ret_then ?_
    replace hm := Option.some.inj hm
    subst hm
    refine d_retC () Try.results37 ?_ trivial (fun W h => ok_pre (H1 := [_]) (R1 := []) h (fun W hφ => hφ)) (.inr rfl)
    refine res_tmp ?_
    refine res_nil ?_
    exact rfl
  ·
   replace hm := ite_t hm (of_decide_eq_true h3)
   refine g_no rfl rfl rfl rfl rfl h3 ?_
   refine g_no rfl rfl rfl rfl rfl h3 ?_
   refine g_v rfl (r_pick1 rfl h3) ?_
   refine g_v rfl r_move ?_
   refine g_no rfl rfl rfl rfl rfl rfl ?_
   refine g_no rfl rfl rfl rfl rfl rfl ?_
   refine g_no rfl rfl rfl rfl rfl rfl ?_
   refine g_v rfl (r_pick1 rfl rfl) ?_
   refine g_v rfl r_move ?_
   refine g_no rfl rfl rfl rfl rfl rfl ?_
   refine g_no rfl rfl rfl rfl rfl rfl ?_
   refine g_no rfl rfl rfl rfl rfl rfl ?_
   refine g_no rfl rfl rfl rfl rfl rfl ?_
   refine g_v rfl (r_pick1 rfl rfl) ?_
   refine g_nil ?_
   refine d_then ?_
   refine c_flat [(1, .pointer (some ⟨g1, 0, none⟩)), (31, .bool true)] ⟨rfl, rfl, trivial⟩ (fun u => ?_)
   refine c_sta ⟨w0, M, (100010, g1, .cells #[.int .i64 p0.fBase, .int .i64 p0.fBaseTerm, .slice Ap0_0 p0.fEntries.length cp0_0] 26 (0, 0)) :: H, R, φ⟩ (fun _ h => h) ?_
   refine c_cond1 rfl rfl ?_
   refine c_seq ?_
   refine c_region ?_
   refine g_v rfl r_assign ?_
   refine g_nil ?_
   refine d_then ?_
   refine c_ret ?_
   refine d_ret_then ?_
   replace hm := Option.some.inj hm
   subst hm
   refine d_retC () Try.results37 ?_ trivial (fun W h => ok_pre (H1 := [_]) (R1 := []) h (fun W hφ => hφ)) (.inr rfl)
   refine res_tmp ?_
   refine res_nil ?_
   exact rfl
 ·
  replace hm := ite_t hm (of_decide_eq_true h2)
  refine g_no rfl rfl rfl rfl rfl h2 ?_
  refine g_no rfl rfl rfl rfl rfl h2 ?_
  refine g_v rfl (r_pick1 rfl h2) ?_
  refine g_v rfl r_move ?_
  refine g_no rfl rfl rfl rfl rfl rfl ?_
  refine g_no rfl rfl rfl rfl rfl rfl ?_
  refine g_no rfl rfl rfl rfl rfl rfl ?_
  refine g_v rfl (r_pick1 rfl rfl) ?_
  refine g_v rfl r_move ?_
  refine g_no rfl rfl rfl rfl rfl rfl ?_
  refine g_no rfl rfl rfl rfl rfl rfl ?_
  refine g_no rfl rfl rfl rfl rfl rfl ?_
  refine g_v rfl (r_pick1 rfl rfl) ?_
  refine g_v rfl r_move ?_
  refine g_no rfl rfl rfl rfl rfl rfl ?_
  refine g_no rfl rfl rfl rfl rfl rfl ?_
  refine g_no rfl rfl rfl rfl rfl rfl ?_
  refine g_no rfl rfl rfl rfl rfl rfl ?_
  refine g_v rfl (r_pick1 rfl rfl) ?_
  refine g_nil ?_
  refine d_then ?_
  refine c_flat [(1, .pointer (some ⟨g1, 0, none⟩)), (31, .bool true)] ⟨rfl, rfl, trivial⟩ (fun u => ?_)
  refine c_sta ⟨w0, M, (100010, g1, .cells #[.int .i64 p0.fBase, .int .i64 p0.fBaseTerm, .slice Ap0_0 p0.fEntries.length cp0_0] 26 (0, 0)) :: H, R, φ⟩ (fun _ h => h) ?_
  refine c_cond1 rfl rfl ?_
  refine c_seq ?_
  refine c_region ?_
  refine g_v rfl r_assign ?_
  refine g_nil ?_
  refine d_then ?_
  refine c_ret ?_
  refine d_ret_then ?_
  replace hm := Option.some.inj hm
  subst hm
  refine d_retC () Try.results37 ?_ trivial (fun W h => ok_pre (H1 := [_]) (R1 := []) h (fun W hφ => hφ)) (.inr rfl)
  refine res_tmp ?_
  refine res_nil ?_
  exact rfl

noncomputable def m_ref11_Last (p0 : GLog) : Option Int :=
  some (w64 (p0.fBase + (p0.fEntries.length : Int)))
theorem c_ref11_Last {w0 : World} {M : Nat → Prop} {H : List (Nat × Nat × Obj)} {R : List (Nat × Row)} {φ : World → Prop} (p0 : GLog) (Ap0_0 : Option Addr) (cp0_0 : Nat) (hcp0_0 : p0.fEntries.length ≤ cp0_0) (fp0_0 : ∀ W, (Sta.mk w0 M H R φ).ok W → Cl W Ap0_0 (p0.fEntries.flatMap GEntry.enc)) (r : Int) (hm : m_ref11_Last p0 = some r) :
    Cn Try.prog 39 #[.agg #[.int .i64 p0.fBase, .int .i64 p0.fBaseTerm, .slice Ap0_0 p0.fEntries.length cp0_0]] ⟨w0, M, H, R, φ⟩ (fun x : Unit => .int .i64 r) (fun x => True) (fun x => ⟨w0, M, H, R, φ⟩) := by
 unfold m_ref11_Last at hm
 refine cn_intro (fn := Try.f39) (N := 9) Try.func39 rfl Try.ntmps39 rfl ?_
 refine c_seq ?_
 refine c_region ?_
 refine g_e rfl (e_box 100010 rfl) (fun g1 _ => ?_)
 refine g_v rfl r_assign ?_
 refine g_nil ?_
 refine d_then ?_
 refine c_seq ?_
 refine c_region ?_
 refine g_v rfl (r_field (n := 0) Try.underlying26 rfl Try.sizeOf3 rfl rfl) ?_
 refine g_v rfl (r_load (tag := 100010) rfl rfl rfl Try.isAgg3) ?_
 refine g_v rfl (r_field (n := 2) Try.underlying26 rfl Try.sizeOf24 rfl rfl) ?_
 refine g_v rfl (r_load (tag := 100010) rfl rfl rfl Try.isAgg24) ?_
 refine g_v rfl (r_lenL Try.underlying24 rfl) ?_
 refine g_v rfl (r_add rfl rfl rfl) ?_
 refine g_v rfl r_assign ?_
 refine g_nil ?_
 refine d_then ?_
 refine c_flat [(2, .int .i64 (w64 (p0.fBase + (p0.fEntries.length : Int))))] ⟨rfl, trivial⟩ (fun u => ?_)
 refine c_sta ⟨w0, M, (100010, g1, .cells #[.int .i64 p0.fBase, .int .i64 p0.fBaseTerm, .slice Ap0_0 p0.fEntries.length cp0_0] 26 (0, 0)) :: H, R, φ⟩ (fun _ h => h) ?_
 refine c_ret ?_
 replace hm := Option.some.inj hm
 subst hm
 refine d_retC () Try.results39 ?_ trivial (fun W h => ok_pre (H1 := [_]) (R1 := []) h (fun W hφ => hφ)) (.inr rfl)
 refine res_tmp ?_
 refine res_nil ?_
 exact rfl

noncomputable def m_ref11_Get (p0 : GLog) (p1 : Int) : Option (GEntry × Bool) :=
  if p1 ≤ p0.fBase then
    some ((⟨0, 0, (⟨#[]⟩ : ByteArray)⟩ : GEntry), false)
  else
    (m_ref11_Last p0).bind fun x4 =>
    if x4 < p1 then
      some ((⟨0, 0, (⟨#[]⟩ : ByteArray)⟩ : GEntry), false)
    else
      (at_ p0.fEntries (w64 ((w64 (p1 - p0.fBase)) - 1))).bind fun x7 =>
      some (x7, true)
theorem c_ref11_Get {w0 : World} {M : Nat → Prop} {H : List (Nat × Nat × Obj)} {R : List (Nat × Row)} {φ : World → Prop} (p0 : GLog) (Ap0_0 : Option Addr) (cp0_0 : Nat) (hcp0_0 : p0.fEntries.length ≤ cp0_0) (fp0_0 : ∀ W, (Sta.mk w0 M H R φ).ok W → Cl W Ap0_0 (p0.fEntries.flatMap GEntry.enc)) (p1 : Int) (r : GEntry × Bool) (hm : m_ref11_Get p0 p1 = some r) :
    Cn Try.prog 33 #[.agg #[.int .i64 p0.fBase, .int .i64 p0.fBaseTerm, .slice Ap0_0 p0.fEntries.length cp0_0], .int .i64 p1] ⟨w0, M, H, R, φ⟩ (fun x : Unit => .tuple #[.agg #[.int .i64 r.1.fTerm, .int .i64 r.1.fKind, .string r.1.fData], .bool r.2]) (fun x => True) (fun x => ⟨w0, M, H, R, φ⟩) := by
 unfold m_ref11_Get at hm
 refine cn_intro (fn := Try.f33) (N := 26) Try.func33 rfl Try.ntmps33 rfl ?_
 refine c_seq ?_
 refine c_region ?_
 refine g_e rfl (e_box 100020 rfl) (fun g1 _ => ?_)
 refine g_e rfl (e_alloc 100040 Try.zeroValue35) (fun g2 _ => ?_)
 refine g_v rfl r_assign ?_
 refine g_nil ?_
 refine d_then ?_
 refine c_seq ?_
 refine c_seq ?_
 refine c_region ?_
 refine g_v rfl r_move ?_
 refine g_v rfl (r_field (n := 0) Try.underlying26 rfl Try.sizeOf3 rfl rfl) ?_
 refine g_v rfl (r_load (tag := 100020) rfl rfl rfl Try.isAgg3) ?_
 refine g_v rfl (r_leq rfl rfl) ?_
 refine g_v rfl r_move ?_
 refine g_if rfl rfl rfl rfl rfl (fun h3 => ?_) (fun h3 => ?_)
 ·
  replace hm := ite_f hm (of_decide_eq_false h3)
  refine g_v rfl r_move ?_
  refine g_do rfl rfl rfl rfl rfl h3 ?_
  refine g_v rfl (r_loadA (tag := 100020) rfl rfl Try.isAgg26 Try.sizeOf26 rfl rfl) ?_
  refine g_do rfl rfl rfl rfl rfl h3 ?_
  replace hm := bnd hm
  obtain ⟨x4, hx5, hm⟩ := hm
  refine g_cn ⟨w0, M, _, _, φ⟩ (fun _ h => h) Try.call39 rfl rfl (c_ref11_Last p0 Ap0_0 cp0_0 hcp0_0 (fun W hS => fp0_0 W (ok_pre (H1 := [_, _]) (R1 := []) hS (fun W h => h))) _ hx5) (fun _ _ => ?_)
  refine g_do rfl rfl rfl rfl rfl h3 ?_
  refine g_v rfl (r_gtr rfl rfl) ?_
  refine g_v rfl (r_pick0 rfl h3) ?_
  refine g_nil ?_
  refine d_then ?_
  refine c_flat [(1, .int .i64 p1), (2, .pointer (some ⟨g1, 0, none⟩)), (4, .pointer (some ⟨g2, 0, none⟩)), (15, .bool (decide (x4 < p1)))] ⟨rfl, rfl, rfl, rfl, trivial⟩ (fun u => ?_)
  refine c_sta ⟨w0, M, (100040, g2, .cells #[.int .i64 0, .int .i64 0, .string (⟨#[]⟩ : ByteArray)] 35 (0, 0)) :: (100020, g1, .cells #[.int .i64 p0.fBase, .int .i64 p0.fBaseTerm, .slice Ap0_0 p0.fEntries.length cp0_0] 26 (0, 0)) :: H, R, φ⟩ (fun _ h => h) ?_
  refine c_cond rfl (fun h6 => ?_) (fun h6 => ?_)
  ·
   replace hm := ite_t hm (of_decide_eq_true h6)
   refine c_seq ?_
   refine c_region ?_
   refine g_v rfl (r_build _ rfl (bld35_0)) ?_
   refine g_storeL (tag := 100040) rfl rfl rfl rfl Try.sizeOf35 rfl rfl ?_
   refine g_v rfl r_assign ?_
   refine g_nil ?_
   refine d_then ?_
   refine c_ret ?_
   refine d_ret_then ?_
   replace hm := Option.some.inj hm
   subst hm
   refine d_retC () Try.results33 ?_ trivial (fun W h => ok_pre (H1 := [_, _]) (R1 := []) h (fun W hφ => hφ)) (.inr rfl)
   refine res_agg (tag := 100040) rfl rfl Try.isAgg35 Try.sizeOf35 ?_
   refine res_tmp ?_
   refine res_nil ?_
   exact rfl
  ·
   replace hm := ite_f hm (of_decide_eq_false h6)
   refine c_skip ?_
   refine d_then ?_
   refine c_seq ?_
   refine c_region ?_
   refine g_v rfl (r_field (n := 2) Try.underlying26 rfl Try.sizeOf24 rfl rfl) ?_
   refine g_v rfl (r_load (tag := 100020) rfl rfl rfl Try.isAgg24) ?_
   refine g_v rfl r_move ?_
   refine g_v rfl (r_field (n := 0) Try.underlying26 rfl Try.sizeOf3 rfl rfl) ?_
   refine g_v rfl (r_load (tag := 100020) rfl rfl rfl Try.isAgg3) ?_
   refine g_v rfl (r_sub rfl rfl rfl) ?_
   refine g_v rfl (r_sub rfl rfl rfl) ?_
   replace hm := bnd hm
   obtain ⟨x7, hx7, hm⟩ := hm
   refine g_know _ (fun W hS => cl_at (p := (Sta.mk w0 M H R φ).ok) (sz := 3) (fun _ => rfl) (by decide) (ok_pre (H1 := [_, _]) (R1 := []) hS (fun W h => h)) fp0_0 hx7) ?_
   rintro ⟨ad8, hA10, f9⟩
   refine g_v rfl (r_ix Try.underlying24 Try.sizeOf35 rfl hA10 rfl hx7) ?_
   refine g_v rfl (r_ldA rfl Try.isAgg35 Try.sizeOf35 (fun W hS => (f9 W (ok_pre (H1 := [_, _]) (R1 := []) hS (fun W h => h))).take 3) rfl) ?_
   refine g_storeL (tag := 100040) rfl rfl rfl rfl Try.sizeOf35 rfl rfl ?_
   refine g_v rfl r_assign ?_
   refine g_nil ?_
   refine d_then ?_
   refine c_flat [(4, .pointer (some ⟨g2, 0, none⟩)), (5, .bool true)] ⟨rfl, rfl, trivial⟩ (fun u => ?_)
   refine c_sta ⟨w0, M, (100040, g2, .cells #[.int .i64 x7.fTerm, .int .i64 x7.fKind, .string x7.fData] 35 (0, 0)) :: (100020, g1, .cells #[.int .i64 p0.fBase, .int .i64 p0.fBaseTerm, .slice Ap0_0 p0.fEntries.length cp0_0] 26 (0, 0)) :: H, R, φ⟩ (fun _ h => h) ?_
   refine c_ret ?_
   replace hm := Option.some.inj hm
   subst hm
   refine d_retC () Try.results33 ?_ trivial (fun W h => ok_pre (H1 := [_, _]) (R1 := []) h (fun W hφ => hφ)) (.inr rfl)
   refine res_agg (tag := 100040) rfl rfl Try.isAgg35 Try.sizeOf35 ?_
   refine res_tmp ?_
   refine res_nil ?_
   exact rfl
 ·
  replace hm := ite_t hm (of_decide_eq_true h3)
  refine g_no rfl rfl rfl rfl rfl h3 ?_
  refine g_no rfl rfl rfl rfl rfl h3 ?_
  refine g_no rfl rfl rfl rfl rfl h3 ?_
  refine g_v rfl (r_pick1 rfl h3) ?_
  refine g_nil ?_
  refine d_then ?_
  refine c_flat [(1, .int .i64 p1), (2, .pointer (some ⟨g1, 0, none⟩)), (4, .pointer (some ⟨g2, 0, none⟩)), (15, .bool true)] ⟨rfl, rfl, rfl, rfl, trivial⟩ (fun u => ?_)
  refine c_sta ⟨w0, M, (100040, g2, .cells #[.int .i64 0, .int .i64 0, .string (⟨#[]⟩ : ByteArray)] 35 (0, 0)) :: (100020, g1, .cells #[.int .i64 p0.fBase, .int .i64 p0.fBaseTerm, .slice Ap0_0 p0.fEntries.length cp0_0] 26 (0, 0)) :: H, R, φ⟩ (fun _ h => h) ?_
  refine c_cond1 rfl rfl ?_
  refine c_seq ?_
  refine c_region ?_
  refine g_v rfl (r_build _ rfl (bld35_0)) ?_
  refine g_storeL (tag := 100040) rfl rfl rfl rfl Try.sizeOf35 rfl rfl ?_
  refine g_v rfl r_assign ?_
  refine g_nil ?_
  refine d_then ?_
  refine c_ret ?_
  refine d_ret_then ?_
  replace hm := Option.some.inj hm
  subst hm
  refine d_retC () Try.results33 ?_ trivial (fun W h => ok_pre (H1 := [_, _]) (R1 := []) h (fun W hφ => hφ)) (.inr rfl)
  refine res_agg (tag := 100040) rfl rfl Try.isAgg35 Try.sizeOf35 ?_
  refine res_tmp ?_
  refine res_nil ?_
  exact rfl

noncomputable def m_ref11_Term (p0 : GLog) (p1 : Int) : Option (Int × Bool) :=
  if p1 = p0.fBase then
    some (p0.fBaseTerm, true)
  else
    (m_ref11_Get p0 p1).bind fun (z6 : GEntry × Bool) =>
    some (z6.1.fTerm, z6.2)
theorem c_ref11_Term {w0 : World} {M : Nat → Prop} {H : List (Nat × Nat × Obj)} {R : List (Nat × Row)} {φ : World → Prop} (p0 : GLog) (Ap0_0 : Option Addr) (cp0_0 : Nat) (hcp0_0 : p0.fEntries.length ≤ cp0_0) (fp0_0 : ∀ W, (Sta.mk w0 M H R φ).ok W → Cl W Ap0_0 (p0.fEntries.flatMap GEntry.enc)) (p1 : Int) (r : Int × Bool) (hm : m_ref11_Term p0 p1 = some r) :
    Cn Try.prog 32 #[.agg #[.int .i64 p0.fBase, .int .i64 p0.fBaseTerm, .slice Ap0_0 p0.fEntries.length cp0_0], .int .i64 p1] ⟨w0, M, H, R, φ⟩ (fun x : Unit => .tuple #[.int .i64 r.1, .bool r.2]) (fun x => True) (fun x => ⟨w0, M, H, R, φ⟩) := by
 unfold m_ref11_Term at hm
 refine cn_intro (fn := Try.f32) (N := 23) Try.func32 rfl Try.ntmps32 rfl ?_
 refine c_seq ?_
 refine c_region ?_
 refine g_e rfl (e_box 100020 rfl) (fun g1 _ => ?_)
 refine g_v rfl r_assign ?_
 refine g_v rfl r_assign ?_
 refine g_nil ?_
 refine d_then ?_
 refine c_seq ?_
 refine c_seq ?_
 refine c_region ?_
 refine g_v rfl r_move ?_
 refine g_v rfl (r_field (n := 0) Try.underlying26 rfl Try.sizeOf3 rfl rfl) ?_
 refine g_v rfl (r_load (tag := 100020) rfl rfl rfl Try.isAgg3) ?_
 refine g_v rfl (r_eql rfl rfl) ?_
 refine g_nil ?_
 refine d_then ?_
 refine c_cond rfl (fun h2 => ?_) (fun h2 => ?_)
 ·
  replace hm := ite_t hm (of_decide_eq_true h2)
  refine c_seq ?_
  refine c_region ?_
  refine g_v rfl (r_field (n := 1) Try.underlying26 rfl Try.sizeOf3 rfl rfl) ?_
  refine g_v rfl (r_load (tag := 100020) rfl rfl rfl Try.isAgg3) ?_
  refine g_v rfl r_assign ?_
  refine g_v rfl r_assign ?_
  refine g_nil ?_
  refine d_then ?_
  refine c_flat [(4, .int .i64 p0.fBaseTerm), (5, .bool true)] ⟨rfl, rfl, trivial⟩ (fun u => ?_)
  refine c_sta ⟨w0, M, (100020, g1, .cells #[.int .i64 p0.fBase, .int .i64 p0.fBaseTerm, .slice Ap0_0 p0.fEntries.length cp0_0] 26 (0, 0)) :: H, R, φ⟩ (fun _ h => h) ?_
  refine c_ret ?_
  refine d_ret_then ?_
  replace hm := Option.some.inj hm
  subst hm
  refine d_retC () Try.results32 ?_ trivial (fun W h => ok_pre (H1 := [_]) (R1 := []) h (fun W hφ => hφ)) (.inr rfl)
  refine res_tmp ?_
  refine res_tmp ?_
  refine res_nil ?_
  exact rfl
 ·
  replace hm := ite_f hm (of_decide_eq_false h2)
  refine c_skip ?_
  refine d_then ?_
  refine c_seq ?_
  refine c_region ?_
  refine g_v rfl (r_loadA (tag := 100020) rfl rfl Try.isAgg26 Try.sizeOf26 rfl rfl) ?_
  refine g_v rfl r_move ?_
  replace hm := bnd hm
  obtain ⟨⟨x3, x4⟩, hx5, hm⟩ := hm
  refine g_cn ⟨w0, M, _, _, φ⟩ (fun _ h => h) Try.call33 rfl rfl (c_ref11_Get p0 Ap0_0 cp0_0 hcp0_0 (fun W hS => fp0_0 W (ok_pre (H1 := [_]) (R1 := []) hS (fun W h => h))) p1 _ hx5) (fun _ _ => ?_)
  refine g_v rfl r_move ?_
  refine g_v rfl (r_extract rfl rfl) ?_
  refine g_v rfl (r_extract rfl rfl) ?_
  refine g_e rfl (e_alloc 100060 Try.zeroValue35) (fun g7 _ => ?_)
  refine g_storeL (tag := 100060) rfl rfl rfl rfl Try.sizeOf35 rfl rfl ?_
  refine g_v rfl r_assign ?_
  refine g_nil ?_
  refine d_then ?_
  refine c_flat [(6, .pointer (some ⟨g7, 0, none⟩)), (7, .bool x4)] ⟨rfl, rfl, trivial⟩ (fun u => ?_)
  refine c_sta ⟨w0, M, (100060, g7, .cells #[.int .i64 x3.fTerm, .int .i64 x3.fKind, .string x3.fData] 35 (0, 0)) :: (100020, g1, .cells #[.int .i64 p0.fBase, .int .i64 p0.fBaseTerm, .slice Ap0_0 p0.fEntries.length cp0_0] 26 (0, 0)) :: H, R, φ⟩ (fun _ h => h) ?_
  refine c_seq ?_
  refine c_region ?_
  refine g_v rfl (r_field (n := 0) Try.underlying35 rfl Try.sizeOf3 rfl rfl) ?_
  refine g_v rfl (r_load (tag := 100060) rfl rfl rfl Try.isAgg3) ?_
  refine g_v rfl r_move ?_
  refine g_v rfl r_assign ?_
  refine g_v rfl r_assign ?_
  refine g_nil ?_
  refine d_then ?_
  refine c_ret ?_
  replace hm := Option.some.inj hm
  subst hm
  refine d_retC () Try.results32 ?_ trivial (fun W h => ok_pre (H1 := [_, _]) (R1 := []) h (fun W hφ => hφ)) (.inr rfl)
  refine res_tmp ?_
  refine res_tmp ?_
  refine res_nil ?_
  exact rfl
end Go.Proofs.Ytildknbbpkbkeaa
