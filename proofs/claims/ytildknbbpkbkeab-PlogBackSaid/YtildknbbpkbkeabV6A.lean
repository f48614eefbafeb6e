import Derived.Test.YtildknbbpkbkeabQL
import Derived.Test.YtildknbbpkbkeabSY
set_option maxRecDepth 16384
set_option maxHeartbeats 4000000
set_option linter.unusedVariables false
set_option linter.unusedSimpArgs false
namespace Go.Proofs.Ytildknbbpkbkeab
open Go.RowKit Go.Proofs.YtildknbbpkbkeabW.PrintLast
structure GEntry where
  fTerm : Int
  fKind : Int
  fData : ByteArray
  deriving DecidableEq
def GEntry.enc (e : GEntry) : List Value := [.int .i64 e.fTerm, .int .i64 e.fKind, .string e.fData]
structure GLog where
  fBase : Int
  fBaseTerm : Int
  fEntries : List GEntry
theorem bld46_0 (z0 : Int) : ∀ W, (Instr.build 46 #[(0, .int .i64 z0)]).run Try.prog W = .ok (.agg #[.int .i64 z0, .int .i64 0, .string (⟨#[]⟩ : ByteArray)]) W := fun _ => by kernel_rfl
theorem lit46_1 (z0 : Int) (z1 : Int) (z2 : ByteArray) (z3 : Int) (z4 : Int) (z5 : ByteArray) : Try.prog.builtSlice 46 2 [(0, .agg #[.int .i64 z0, .int .i64 z1, .string z2]), (1, .agg #[.int .i64 z3, .int .i64 z4, .string z5])] = some #[.int .i64 z0, .int .i64 z1, .string z2, .int .i64 z3, .int .i64 z4, .string z5] := by kernel_rfl
theorem bld28_2 (z0 : Int) (z1 : Int) (zA2 : Option Addr) (zn2 : Nat) (zc2 : Nat) : ∀ W, (Instr.build 28 #[(0, .int .i64 z0), (1, .int .i64 z1), (2, .slice zA2 zn2 zc2)]).run Try.prog W = .ok (.agg #[.int .i64 z0, .int .i64 z1, .slice zA2 zn2 zc2]) W := fun _ => by kernel_rfl
noncomputable def m_law11_example  : Option GLog :=
  some (⟨2, 1, [(⟨1, 0, (⟨#[]⟩ : ByteArray)⟩ : GEntry), (⟨2, 0, (⟨#[]⟩ : ByteArray)⟩ : GEntry)]⟩ : GLog)
theorem c_law11_example {w0 : World} {M : Nat → Prop} {H : List (Nat × Nat × Obj)} {R : List (Nat × Row)} {φ : World → Prop}  (r : GLog) (hm : m_law11_example = some r) :
    Cn Try.prog 10 #[] ⟨w0, M, H, R, φ⟩ (fun x : Option Addr × Nat => .agg #[.int .i64 r.fBase, .int .i64 r.fBaseTerm, .slice x.1 r.fEntries.length x.2]) (fun x => r.fEntries.length ≤ x.2) (fun x => ⟨w0, M, H, R, fun W => φ W ∧ Cl W x.1 (r.fEntries.flatMap GEntry.enc)⟩) := by
 unfold m_law11_example at hm
 refine cn_intro (fn := Try.f10) (N := 5) Try.func10 rfl Try.ntmps10 rfl ?_
 refine c_seq ?_
 refine c_region ?_
 refine g_e rfl (e_alloc 100000 Try.zeroValue28) (fun g1 _ => ?_)
 refine g_nil ?_
 refine d_then ?_
 refine c_seq ?_
 refine c_region ?_
 refine g_v rfl (r_build _ rfl (bld46_0 _)) ?_
 refine g_v rfl (r_build _ rfl (bld46_0 _)) ?_
 refine g_e rfl (e_lit (tag := 100030) (l := [(⟨1, 0, (⟨#[]⟩ : ByteArray)⟩ : GEntry), (⟨2, 0, (⟨#[]⟩ : ByteArray)⟩ : GEntry)]) (enc := GEntry.enc) (sz := 3) rfl Try.underlying26 (lit46_1 _ _ _ _ _ _) rfl rfl (fun _ => rfl)) (fun g2 _ => ?_)
 refine g_v rfl (r_build _ rfl (bld28_2 _ _ _ _ _)) ?_
 refine g_storeL (tag := 100000) rfl rfl rfl rfl Try.sizeOf28 rfl rfl ?_
 refine g_nil ?_
 refine d_then ?_
 refine c_ret ?_
 replace hm := Option.some.inj hm
 subst hm
 refine d_shut (tag := 100030) rfl (fun φ3 q3' => ?_)
 have q3 : ∀ W, φ3 W → φ W := fun W h => (q3' W h).1
 have f4 := fun (W : World) (h : φ3 W) => (q3' W h).2
 refine d_retC (some ⟨g2, 0, none⟩, 2) Try.results10 ?_ (Nat.le_refl _) (fun W h => ok_pre (H1 := [_]) (R1 := []) h (fun W hφ => ⟨(q3 _ hφ), (fun W h => f4 W h) W hφ⟩)) (.inr rfl)
 refine res_agg (tag := 100000) rfl rfl Try.isAgg28 Try.sizeOf28 ?_
 refine res_nil ?_
 exact rfl

noncomputable def m_plog_Last (p0 : GLog) : Option Int :=
  some (w64 (p0.fBase + (p0.fEntries.length : Int)))
theorem c_plog_Last {w0 : World} {M : Nat → Prop} {H : List (Nat × Nat × Obj)} {R : List (Nat × Row)} {φ : World → Prop} (p0 : GLog) (Ap0_0 : Option Addr) (cp0_0 : Nat) (hcp0_0 : p0.fEntries.length ≤ cp0_0) (fp0_0 : ∀ W, (Sta.mk w0 M H R φ).ok W → Cl W Ap0_0 (p0.fEntries.flatMap GEntry.enc)) (r : Int) (hm : m_plog_Last p0 = some r) :
    Cn Try.prog 13 #[.agg #[.int .i64 p0.fBase, .int .i64 p0.fBaseTerm, .slice Ap0_0 p0.fEntries.length cp0_0]] ⟨w0, M, H, R, φ⟩ (fun x : Unit => .int .i64 r) (fun x => True) (fun x => ⟨w0, M, H, R, φ⟩) := by
 unfold m_plog_Last at hm
 refine cn_intro (fn := Try.f13) (N := 9) Try.func13 rfl Try.ntmps13 rfl ?_
 refine c_seq ?_
 refine c_region ?_
 refine g_e rfl (e_box 100010 rfl) (fun g1 _ => ?_)
 refine g_v rfl r_assign ?_
 refine g_nil ?_
 refine d_then ?_
 refine c_seq ?_
 refine c_region ?_
 refine g_v rfl (r_field (n := 0) Try.underlying28 rfl Try.sizeOf3 rfl rfl) ?_
 refine g_v rfl (r_load (tag := 100010) rfl rfl rfl Try.isAgg3) ?_
 refine g_v rfl (r_field (n := 2) Try.underlying28 rfl Try.sizeOf26 rfl rfl) ?_
 refine g_v rfl (r_load (tag := 100010) rfl rfl rfl Try.isAgg26) ?_
 refine g_v rfl (r_lenL Try.underlying26 rfl) ?_
 refine g_v rfl (r_add rfl rfl rfl) ?_
 refine g_v rfl r_assign ?_
 refine g_nil ?_
 refine d_then ?_
 refine c_flat [(2, .int .i64 (w64 (p0.fBase + (p0.fEntries.length : Int))))] ⟨rfl, trivial⟩ (fun u => ?_)
 refine c_sta ⟨w0, M, (100010, g1, .cells #[.int .i64 p0.fBase, .int .i64 p0.fBaseTerm, .slice Ap0_0 p0.fEntries.length cp0_0] 28 (0, 0)) :: H, R, φ⟩ (fun _ h => h) ?_
 refine c_ret ?_
 replace hm := Option.some.inj hm
 subst hm
 refine d_retC () Try.results13 ?_ trivial (fun W h => ok_pre (H1 := [_]) (R1 := []) h (fun W hφ => hφ)) (.inr rfl)
 refine res_tmp ?_
 refine res_nil ?_
 exact rfl

theorem bld46_3  : ∀ W, (Instr.build 46 #[]).run Try.prog W = .ok (.agg #[.int .i64 0, .int .i64 0, .string (⟨#[]⟩ : ByteArray)]) W := fun _ => by kernel_rfl
noncomputable def m_plog_Get (p0 : GLog) (p1 : Int) : Option (GEntry × Bool) :=
  if p1 ≤ p0.fBase then
    some ((⟨0, 0, (⟨#[]⟩ : ByteArray)⟩ : GEntry), false)
  else
    (m_plog_Last p0).bind fun x4 =>
    if x4 < p1 then
      some ((⟨0, 0, (⟨#[]⟩ : ByteArray)⟩ : GEntry), false)
    else
      (at_ p0.fEntries (w64 ((w64 (p1 - p0.fBase)) - 1))).bind fun x7 =>
      some (x7, true)
theorem c_plog_Get {w0 : World} {M : Nat → Prop} {H : List (Nat × Nat × Obj)} {R : List (Nat × Row)} {φ : World → Prop} (p0 : GLog) (Ap0_0 : Option Addr) (cp0_0 : Nat) (hcp0_0 : p0.fEntries.length ≤ cp0_0) (fp0_0 : ∀ W, (Sta.mk w0 M H R φ).ok W → Cl W Ap0_0 (p0.fEntries.flatMap GEntry.enc)) (p1 : Int) (r : GEntry × Bool) (hm : m_plog_Get p0 p1 = some r) :
    Cn Try.prog 29 #[.agg #[.int .i64 p0.fBase, .int .i64 p0.fBaseTerm, .slice Ap0_0 p0.fEntries.length cp0_0], .int .i64 p1] ⟨w0, M, H, R, φ⟩ (fun x : Unit => .tuple #[.agg #[.int .i64 r.1.fTerm, .int .i64 r.1.fKind, .string r.1.fData], .bool r.2]) (fun x => True) (fun x => ⟨w0, M, H, R, φ⟩) := by
 unfold m_plog_Get at hm
 refine cn_intro (fn := Try.f29) (N := 26) Try.func29 rfl Try.ntmps29 rfl ?_
 refine c_seq ?_
 refine c_region ?_
 refine g_e rfl (e_box 100020 rfl) (fun g1 _ => ?_)
 refine g_e rfl (e_alloc 100040 Try.zeroValue46) (fun g2 _ => ?_)
 refine g_v rfl r_assign ?_
 refine g_nil ?_
 refine d_then ?_
 refine c_seq ?_
 refine c_seq ?_
 refine c_region ?_
 refine g_v rfl r_move ?_
 refine g_v rfl (r_field (n := 0) Try.underlying28 rfl Try.sizeOf3 rfl rfl) ?_
 refine g_v rfl (r_load (tag := 100020) rfl rfl rfl Try.isAgg3) ?_
 refine g_v rfl (r_leq rfl rfl) ?_
 refine g_v rfl r_move ?_
 refine g_if rfl rfl rfl rfl rfl (fun h3 => ?_) (fun h3 => ?_)
 ·
  replace hm := ite_f hm (of_decide_eq_false h3)
  refine g_v rfl r_move ?_
  refine g_do rfl rfl rfl rfl rfl h3 ?_
  refine g_v rfl (r_loadA (tag := 100020) rfl rfl Try.isAgg28 Try.sizeOf28 rfl rfl) ?_
  refine g_do rfl rfl rfl rfl rfl h3 ?_
  replace hm := bnd hm
  obtain ⟨x4, hx5, hm⟩ := hm
  refine g_cn ⟨w0, M, _, _, φ⟩ (fun _ h => h) Try.call13 rfl rfl (c_plog_Last p0 Ap0_0 cp0_0 hcp0_0 (fun W hS => fp0_0 W (ok_pre (H1 := [_, _]) (R1 := []) hS (fun W h => h))) _ hx5) (fun _ _ => ?_)
  refine g_do rfl rfl rfl rfl rfl h3 ?_
  refine g_v rfl (r_gtr rfl rfl) ?_
  refine g_v rfl (r_pick0 rfl h3) ?_
  refine g_nil ?_
  refine d_then ?_
  refine c_flat [(1, .int .i64 p1), (2, .pointer (some ⟨g1, 0, none⟩)), (4, .pointer (some ⟨g2, 0, none⟩)), (15, .bool (decide (x4 < p1)))] ⟨rfl, rfl, rfl, rfl, trivial⟩ (fun u => ?_)
  refine c_sta ⟨w0, M, (100040, g2, .cells #[.int .i64 0, .int .i64 0, .string (⟨#[]⟩ : ByteArray)] 46 (0, 0)) :: (100020, g1, .cells #[.int .i64 p0.fBase, .int .i64 p0.fBaseTerm, .slice Ap0_0 p0.fEntries.length cp0_0] 28 (0, 0)) :: H, R, φ⟩ (fun _ h => h) ?_
  refine c_cond rfl (fun h6 => ?_) (fun h6 => ?_)
  ·
   replace hm := ite_t hm (of_decide_eq_true h6)
   refine c_seq ?_
   refine c_region ?_
   refine g_v rfl (r_build _ rfl (bld46_3)) ?_
   refine g_storeL (tag := 100040) rfl rfl rfl rfl Try.sizeOf46 rfl rfl ?_
   refine g_v rfl r_assign ?_
   refine g_nil ?_
   refine d_then ?_
   refine c_ret ?_
   refine d_ret_then ?_
   replace hm := Option.some.inj hm
   subst hm
   refine d_retC () Try.results29 ?_ trivial (fun W h => ok_pre (H1 := [_, _]) (R1 := []) h (fun W hφ => hφ)) (.inr rfl)
   refine res_agg (tag := 100040) rfl rfl Try.isAgg46 Try.sizeOf46 ?_
   refine res_tmp ?_
   refine res_nil ?_
   exact rfl
  ·
   replace hm := ite_f hm (of_decide_eq_false h6)
   refine c_skip ?_
   refine d_then ?_
   refine c_seq ?_
   refine c_region ?_
   refine g_v rfl (r_field (n := 2) Try.underlying28 rfl Try.sizeOf26 rfl rfl) ?_
   refine g_v rfl (r_load (tag := 100020) rfl rfl rfl Try.isAgg26) ?_
   refine g_v rfl r_move ?_
   refine g_v rfl (r_field (n := 0) Try.underlying28 rfl Try.sizeOf3 rfl rfl) ?_
   refine g_v rfl (r_load (tag := 100020) rfl rfl rfl Try.isAgg3) ?_
   refine g_v rfl (r_sub rfl rfl rfl) ?_
   refine g_v rfl (r_sub rfl rfl rfl) ?_
   replace hm := bnd hm
   obtain ⟨x7, hx7, hm⟩ := hm
   refine g_know _ (fun W hS => cl_at (p := (Sta.mk w0 M H R φ).ok) (sz := 3) (fun _ => rfl) (by decide) (ok_pre (H1 := [_, _]) (R1 := []) hS (fun W h => h)) fp0_0 hx7) ?_
   rintro ⟨ad8, hA10, f9⟩
   refine g_v rfl (r_ix Try.underlying26 Try.sizeOf46 rfl hA10 rfl hx7) ?_
   refine g_v rfl (r_ldA rfl Try.isAgg46 Try.sizeOf46 (fun W hS => (f9 W (ok_pre (H1 := [_, _]) (R1 := []) hS (fun W h => h))).take 3) rfl) ?_
   refine g_storeL (tag := 100040) rfl rfl rfl rfl Try.sizeOf46 rfl rfl ?_
   refine g_v rfl r_assign ?_
   refine g_nil ?_
   refine d_then ?_
   refine c_flat [(4, .pointer (some ⟨g2, 0, none⟩)), (5, .bool true)] ⟨rfl, rfl, trivial⟩ (fun u => ?_)
   refine c_sta ⟨w0, M, (100040, g2, .cells #[.int .i64 x7.fTerm, .int .i64 x7.fKind, .string x7.fData] 46 (0, 0)) :: (100020, g1, .cells #[.int .i64 p0.fBase, .int .i64 p0.fBaseTerm, .slice Ap0_0 p0.fEntries.length cp0_0] 28 (0, 0)) :: H, R, φ⟩ (fun _ h => h) ?_
   refine c_ret ?_
   replace hm := Option.some.inj hm
   subst hm
   refine d_retC () Try.results29 ?_ trivial (fun W h => ok_pre (H1 := [_, _]) (R1 := []) h (fun W hφ => hφ)) (.inr rfl)
   refine res_agg (tag := 100040) rfl rfl Try.isAgg46 Try.sizeOf46 ?_
   refine res_tmp ?_
   refine res_nil ?_
   exact rfl
 ·
  replace hm := ite_t hm (of_decide_eq_true h3)
  refine g_no rfl rfl rfl rfl rfl h3 ?_
  refine g_no rfl rfl rfl rfl rfl h3 ?_
  refine g_no rfl rfl rfl rfl rfl h3 ?_
  refine g_v rfl (r_pick1 rfl h3) ?_
  refine g_nil ?_
  refine d_then ?_
  refine c_flat [(1, .int .i64 p1), (2, .pointer (some ⟨g1, 0, none⟩)), (4, .pointer (some ⟨g2, 0, none⟩)), (15, .bool true)] ⟨rfl, rfl, rfl, rfl, trivial⟩ (fun u => ?_)
  refine c_sta ⟨w0, M, (100040, g2, .cells #[.int .i64 0, .int .i64 0, .string (⟨#[]⟩ : ByteArray)] 46 (0, 0)) :: (100020, g1, .cells #[.int .i64 p0.fBase, .int .i64 p0.fBaseTerm, .slice Ap0_0 p0.fEntries.length cp0_0] 28 (0, 0)) :: H, R, φ⟩ (fun _ h => h) ?_
  refine c_cond1 rfl rfl ?_
  refine c_seq ?_
  refine c_region ?_
  refine g_v rfl (r_build _ rfl (bld46_3)) ?_
  refine g_storeL (tag := 100040) rfl rfl rfl rfl Try.sizeOf46 rfl rfl ?_
  refine g_v rfl r_assign ?_
  refine g_nil ?_
  refine d_then ?_
  refine c_ret ?_
  refine d_ret_then ?_
  replace hm := Option.some.inj hm
  subst hm
  refine d_retC () Try.results29 ?_ trivial (fun W h => ok_pre (H1 := [_, _]) (R1 := []) h (fun W hφ => hφ)) (.inr rfl)
  refine res_agg (tag := 100040) rfl rfl Try.isAgg46 Try.sizeOf46 ?_
  refine res_tmp ?_
  refine res_nil ?_
  exact rfl

noncomputable def m_plog_Term (p0 : GLog) (p1 : Int) : Option (Int × Bool) :=
  if p1 = p0.fBase then
    some (p0.fBaseTerm, true)
  else
    (m_plog_Get p0 p1).bind fun (z6 : GEntry × Bool) =>
    some (z6.1.fTerm, z6.2)
theorem c_plog_Term {w0 : World} {M : Nat → Prop} {H : List (Nat × Nat × Obj)} {R : List (Nat × Row)} {φ : World → Prop} (p0 : GLog) (Ap0_0 : Option Addr) (cp0_0 : Nat) (hcp0_0 : p0.fEntries.length ≤ cp0_0) (fp0_0 : ∀ W, (Sta.mk w0 M H R φ).ok W → Cl W Ap0_0 (p0.fEntries.flatMap GEntry.enc)) (p1 : Int) (r : Int × Bool) (hm : m_plog_Term p0 p1 = some r) :
    Cn Try.prog 11 #[.agg #[.int .i64 p0.fBase, .int .i64 p0.fBaseTerm, .slice Ap0_0 p0.fEntries.length cp0_0], .int .i64 p1] ⟨w0, M, H, R, φ⟩ (fun x : Unit => .tuple #[.int .i64 r.1, .bool r.2]) (fun x => True) (fun x => ⟨w0, M, H, R, φ⟩) := by
 unfold m_plog_Term at hm
 refine cn_intro (fn := Try.f11) (N := 23) Try.func11 rfl Try.ntmps11 rfl ?_
 refine c_seq ?_
 refine c_region ?_
 refine g_e rfl (e_box 100020 rfl) (fun g1 _ => ?_)
 refine g_v rfl r_assign ?_
 refine g_v rfl r_assign ?_
 refine g_nil ?_
 refine d_then ?_
 refine c_seq ?_
 refine c_seq ?_
 refine c_region ?_
 refine g_v rfl r_move ?_
 refine g_v rfl (r_field (n := 0) Try.underlying28 rfl Try.sizeOf3 rfl rfl) ?_
 refine g_v rfl (r_load (tag := 100020) rfl rfl rfl Try.isAgg3) ?_
 refine g_v rfl (r_eql rfl rfl) ?_
 refine g_nil ?_
 refine d_then ?_
 refine c_cond rfl (fun h2 => ?_) (fun h2 => ?_)
 ·
  replace hm := ite_t hm (of_decide_eq_true h2)
  refine c_seq ?_
  refine c_region ?_
  refine g_v rfl (r_field (n := 1) Try.underlying28 rfl Try.sizeOf3 rfl rfl) ?_
  refine g_v rfl (r_load (tag := 100020) rfl rfl rfl Try.isAgg3) ?_
  refine g_v rfl r_assign ?_
  refine g_v rfl r_assign ?_
  refine g_nil ?_
  refine d_then ?_
  refine c_flat [(4, .int .i64 p0.fBaseTerm), (5, .bool true)] ⟨rfl, rfl, trivial⟩ (fun u => ?_)
  refine c_sta ⟨w0, M, (100020, g1, .cells #[.int .i64 p0.fBase, .int .i64 p0.fBaseTerm, .slice Ap0_0 p0.fEntries.length cp0_0] 28 (0, 0)) :: H, R, φ⟩ (fun _ h => h) ?_
  refine c_ret ?_
  refine d_ret_then ?_
  replace hm := Option.some.inj hm
  subst hm
  refine d_retC () Try.results11 ?_ trivial (fun W h => ok_pre (H1 := [_]) (R1 := []) h (fun W hφ => hφ)) (.inr rfl)
  refine res_tmp ?_
  refine res_tmp ?_
  refine res_nil ?_
  exact rfl
 ·
  replace hm := ite_f hm (of_decide_eq_false h2)
  refine c_skip ?_
  refine d_then ?_
  refine c_seq ?_
  refine c_region ?_
  refine g_v rfl (r_loadA (tag := 100020) rfl rfl Try.isAgg28 Try.sizeOf28 rfl rfl) ?_
  refine g_v rfl r_move ?_
  replace hm := bnd hm
  obtain ⟨⟨x3, x4⟩, hx5, hm⟩ := hm
  refine g_cn ⟨w0, M, _, _, φ⟩ (fun _ h => h) Try.call29 rfl rfl (c_plog_Get p0 Ap0_0 cp0_0 hcp0_0 (fun W hS => fp0_0 W (ok_pre (H1 := [_]) (R1 := []) hS (fun W h => h))) p1 _ hx5) (fun _ _ => ?_)
  refine g_v rfl r_move ?_
  refine g_v rfl (r_extract rfl rfl) ?_
  refine g_v rfl (r_extract rfl rfl) ?_
  refine g_e rfl (e_alloc 100060 Try.zeroValue46) (fun g7 _ => ?_)
  refine g_storeL (tag := 100060) rfl rfl rfl rfl Try.sizeOf46 rfl rfl ?_
  refine g_v rfl r_assign ?_
  refine g_nil ?_
  refine d_then ?_
  refine c_flat [(6, .pointer (some ⟨g7, 0, none⟩)), (7, .bool x4)] ⟨rfl, rfl, trivial⟩ (fun u => ?_)
  refine c_sta ⟨w0, M, (100060, g7, .cells #[.int .i64 x3.fTerm, .int .i64 x3.fKind, .string x3.fData] 46 (0, 0)) :: (100020, g1, .cells #[.int .i64 p0.fBase, .int .i64 p0.fBaseTerm, .slice Ap0_0 p0.fEntries.length cp0_0] 28 (0, 0)) :: H, R, φ⟩ (fun _ h => h) ?_
  refine c_seq ?_
  refine c_region ?_
  refine g_v rfl (r_field (n := 0) Try.underlying46 rfl Try.sizeOf3 rfl rfl) ?_
  refine g_v rfl (r_load (tag := 100060) rfl rfl rfl Try.isAgg3) ?_
  refine g_v rfl r_move ?_
  refine g_v rfl r_assign ?_
  refine g_v rfl r_assign ?_
  refine g_nil ?_
  refine d_then ?_
  refine c_ret ?_
  replace hm := Option.some.inj hm
  subst hm
  refine d_retC () Try.results11 ?_ trivial (fun W h => ok_pre (H1 := [_, _]) (R1 := []) h (fun W hφ => hφ)) (.inr rfl)
  refine res_tmp ?_
  refine res_tmp ?_
  refine res_nil ?_
  exact rfl

theorem lit46_4 (z0 : Int) (z1 : Int) (z2 : ByteArray) : Try.prog.builtSlice 46 1 [(0, .agg #[.int .i64 z0, .int .i64 z1, .string z2])] = some #[.int .i64 z0, .int .i64 z1, .string z2] := by kernel_rfl
noncomputable def m_plog_upto (p0 : GLog) (p1 : Int) : Option GLog :=
  (cutHi p0.fEntries (w64 (p1 - p0.fBase))).bind fun l4 =>
  some (⟨p0.fBase, p0.fBaseTerm, l4⟩ : GLog)
theorem c_plog_upto {w0 : World} {M : Nat → Prop} {H : List (Nat × Nat × Obj)} {R : List (Nat × Row)} {φ : World → Prop} (p0 : GLog) (Ap0_0 : Option Addr) (cp0_0 : Nat) (hcp0_0 : p0.fEntries.length ≤ cp0_0) (fp0_0 : ∀ W, φ W → Cl W Ap0_0 (p0.fEntries.flatMap GEntry.enc)) (p1 : Int) (r : GLog) (hm : m_plog_upto p0 p1 = some r) :
    Cn Try.prog 31 #[.agg #[.int .i64 p0.fBase, .int .i64 p0.fBaseTerm, .slice Ap0_0 p0.fEntries.length cp0_0], .int .i64 p1] ⟨w0, M, H, R, φ⟩ (fun x : Option Addr × Nat => .agg #[.int .i64 r.fBase, .int .i64 r.fBaseTerm, .slice x.1 r.fEntries.length x.2]) (fun x => r.fEntries.length ≤ x.2) (fun x => ⟨w0, M, H, R, fun W => φ W ∧ Cl W x.1 (r.fEntries.flatMap GEntry.enc)⟩) := by
 unfold m_plog_upto at hm
 refine cn_intro (fn := Try.f31) (N := 17) Try.func31 rfl Try.ntmps31 rfl ?_
 refine c_seq ?_
 refine c_region ?_
 refine g_e rfl (e_box 100020 rfl) (fun g1 _ => ?_)
 refine g_e rfl (e_alloc 100040 Try.zeroValue28) (fun g2 _ => ?_)
 refine g_nil ?_
 refine d_then ?_
 refine c_seq ?_
 refine c_region ?_
 refine g_v rfl r_move ?_
 refine g_v rfl (r_field (n := 0) Try.underlying28 rfl Try.sizeOf3 rfl rfl) ?_
 refine g_v rfl (r_load (tag := 100020) rfl rfl rfl Try.isAgg3) ?_
 refine g_v rfl (r_sub rfl rfl rfl) ?_
 refine g_v rfl r_assign ?_
 refine g_nil ?_
 refine d_then ?_
 refine c_seq ?_
 refine c_region ?_
 refine g_v rfl (r_field (n := 2) Try.underlying28 rfl Try.sizeOf26 rfl rfl) ?_
 refine g_v rfl (r_load (tag := 100020) rfl rfl rfl Try.isAgg26) ?_
 refine g_v rfl r_move ?_
 refine g_v rfl r_move ?_
 replace hm := bnd hm
 obtain ⟨l4, hl4, hm⟩ := hm
 have f3 := fun (W : World) (h : φ W) => cl_cutHi (enc := GEntry.enc) (sz := 3) (fun _ => rfl) hl4 (fp0_0 W h)
 refine g_v rfl (r_lcutFull Try.underlying26 Try.sizeOf46 rfl hcp0_0 rfl rfl hl4) ?_
 refine g_v rfl (r_field (n := 2) Try.underlying28 rfl Try.sizeOf26 rfl rfl) ?_
 refine g_storeL (tag := 100020) rfl rfl rfl rfl Try.sizeOf26 rfl rfl ?_
 refine g_nil ?_
 refine d_then ?_
 refine c_flat [(2, .pointer (some ⟨g1, 0, none⟩)), (4, .pointer (some ⟨g2, 0, none⟩))] ⟨rfl, rfl, trivial⟩ (fun u => ?_)
 refine c_sta ⟨w0, M, (100040, g2, .cells #[.int .i64 0, .int .i64 0, .slice none 0 0] 28 (0, 0)) :: (100020, g1, .cells #[.int .i64 p0.fBase, .int .i64 p0.fBaseTerm, .slice Ap0_0 l4.length l4.length] 28 (0, 0)) :: H, R, φ⟩ (fun _ h => h) ?_
 refine c_seq ?_
 refine c_region ?_
 refine g_v rfl (r_loadA (tag := 100020) rfl rfl Try.isAgg28 Try.sizeOf28 rfl rfl) ?_
 refine g_storeL (tag := 100040) rfl rfl rfl rfl Try.sizeOf28 rfl rfl ?_
 refine g_nil ?_
 refine d_then ?_
 refine c_ret ?_
 replace hm := Option.some.inj hm
 subst hm
 refine d_retC (Ap0_0, l4.length) Try.results31 ?_ (Nat.le_refl _) (fun W h => ok_pre (H1 := [_, _]) (R1 := []) h (fun W hφ => ⟨hφ, (fun W h => f3 W h) W hφ⟩)) (.inr rfl)
 refine res_agg (tag := 100040) rfl rfl Try.isAgg28 Try.sizeOf28 ?_
 refine res_nil ?_
 exact rfl

theorem inf46_5  : (Try.prog.info? 46).map (fun i => (i.zero, i.size, i.bytes)) = some (some (.agg #[.int .i64 0, .int .i64 0, .string (⟨#[]⟩ : ByteArray)]), 3, 32) := by kernel_rfl
noncomputable def m_plog_Add (p0 : GLog) (p1 : List GEntry) : Option GLog :=
  (cutHi p0.fEntries (p0.fEntries.length : Int)).bind fun l4 =>
  (app 32 l4 p1).bind fun l5 =>
  some (⟨p0.fBase, p0.fBaseTerm, l5⟩ : GLog)
theorem c_plog_Add {w0 : World} {M : Nat → Prop} {H : List (Nat × Nat × Obj)} {R : List (Nat × Row)} {φ : World → Prop} (p0 : GLog) (Ap0_0 : Option Addr) (cp0_0 : Nat) (hcp0_0 : p0.fEntries.length ≤ cp0_0) (fp0_0 : ∀ W, φ W → Cl W Ap0_0 (p0.fEntries.flatMap GEntry.enc)) (p1 : List GEntry) (Ap1_0 : Option Addr) (cp1_0 : Nat) (hcp1_0 : p1.length ≤ cp1_0) (fp1_0 : ∀ W, φ W → Cl W Ap1_0 (p1.flatMap GEntry.enc)) (r : GLog) (hm : m_plog_Add p0 p1 = some r) :
    Cn Try.prog 30 #[.agg #[.int .i64 p0.fBase, .int .i64 p0.fBaseTerm, .slice Ap0_0 p0.fEntries.length cp0_0], .slice Ap1_0 p1.length cp1_0] ⟨w0, M, H, R, φ⟩ (fun x : Option Addr × Nat => .agg #[.int .i64 r.fBase, .int .i64 r.fBaseTerm, .slice x.1 r.fEntries.length x.2]) (fun x => r.fEntries.length ≤ x.2) (fun x => ⟨w0, M, H, R, fun W => φ W ∧ Cl W x.1 (r.fEntries.flatMap GEntry.enc)⟩) := by
 unfold m_plog_Add at hm
 refine cn_intro (fn := Try.f30) (N := 18) Try.func30 rfl Try.ntmps30 rfl ?_
 refine c_seq ?_
 refine c_region ?_
 refine g_e rfl (e_box 100020 rfl) (fun g1 _ => ?_)
 refine g_e rfl (e_alloc 100040 Try.zeroValue28) (fun g2 _ => ?_)
 refine g_nil ?_
 refine d_then ?_
 refine c_seq ?_
 refine c_region ?_
 refine g_v rfl (r_field (n := 2) Try.underlying28 rfl Try.sizeOf26 rfl rfl) ?_
 refine g_v rfl (r_load (tag := 100020) rfl rfl rfl Try.isAgg26) ?_
 refine g_v rfl (r_field (n := 2) Try.underlying28 rfl Try.sizeOf26 rfl rfl) ?_
 refine g_v rfl (r_load (tag := 100020) rfl rfl rfl Try.isAgg26) ?_
 refine g_v rfl (r_lenL Try.underlying26 rfl) ?_
 refine g_v rfl (r_field (n := 2) Try.underlying28 rfl Try.sizeOf26 rfl rfl) ?_
 refine g_v rfl (r_load (tag := 100020) rfl rfl rfl Try.isAgg26) ?_
 refine g_v rfl (r_lenL Try.underlying26 rfl) ?_
 replace hm := bnd hm
 obtain ⟨l4, hl4, hm⟩ := hm
 have f3 := fun (W : World) (h : φ W) => cl_cutHi (enc := GEntry.enc) (sz := 3) (fun _ => rfl) hl4 (fp0_0 W h)
 refine g_v rfl (r_lcutFull Try.underlying26 Try.sizeOf46 rfl hcp0_0 rfl rfl hl4) ?_
 refine g_v rfl r_move ?_
 replace hm := bnd hm
 obtain ⟨l5, hl5, hm⟩ := hm
 refine g_e rfl (e_appF (enc := GEntry.enc) (l := l4) (l1 := p1) (l2 := l5) Try.underlying26 inf46_5 rfl (by decide) (by decide) (fun _ => rfl) (fun _ => rfl) rfl (fun W h => f3 W h) rfl (fun W h => fp1_0 W h) hl5) (fun ⟨A6, c7⟩ hc7 => ?_)
 refine g_abs (fun φ9 q9' => ?_)
 have q9 : ∀ W, φ9 W → φ W := fun W h => (q9' W h).1
 have f8 := fun (W : World) (h : φ9 W) => (q9' W h).2
 refine g_v rfl (r_field (n := 2) Try.underlying28 rfl Try.sizeOf26 rfl rfl) ?_
 refine g_storeL (tag := 100020) rfl rfl rfl rfl Try.sizeOf26 rfl rfl ?_
 refine g_nil ?_
 refine d_then ?_
 refine c_flat [(2, .pointer (some ⟨g1, 0, none⟩)), (4, .pointer (some ⟨g2, 0, none⟩))] ⟨rfl, rfl, trivial⟩ (fun u => ?_)
 refine c_sta ⟨w0, M, (100040, g2, .cells #[.int .i64 0, .int .i64 0, .slice none 0 0] 28 (0, 0)) :: (100020, g1, .cells #[.int .i64 p0.fBase, .int .i64 p0.fBaseTerm, .slice A6 l5.length c7] 28 (0, 0)) :: H, R, φ9⟩ (fun _ h => h) ?_
 refine c_seq ?_
 refine c_region ?_
 refine g_v rfl (r_loadA (tag := 100020) rfl rfl Try.isAgg28 Try.sizeOf28 rfl rfl) ?_
 refine g_storeL (tag := 100040) rfl rfl rfl rfl Try.sizeOf28 rfl rfl ?_
 refine g_nil ?_
 refine d_then ?_
 refine c_ret ?_
 replace hm := Option.some.inj hm
 subst hm
 refine d_retC (A6, c7) Try.results30 ?_ hc7 (fun W h => ok_pre (H1 := [_, _]) (R1 := []) h (fun W hφ => ⟨(q9 _ hφ), (fun W h => f8 W h) W hφ⟩)) (.inr rfl)
 refine res_agg (tag := 100040) rfl rfl Try.isAgg28 Try.sizeOf28 ?_
 refine res_nil ?_
 exact rfl

noncomputable def m_plog_Put_j1 (p0 : GLog) : Option (GLog × Int) :=
  some (p0, 0)
noncomputable def m_plog_Put_s2 (p2 : List GEntry) (p0 : GLog) (p1 : Int) (i303 : Int) : Option (Int ⊕ (Unit ⊕ (GLog × Int))) :=
  if i303 < (p2.length : Int) then
    (at_ p2 i303).bind fun x404 =>
    (m_plog_Term p0 (w64 ((w64 (p1 + 1)) + i303))).bind fun (z412 : Int × Bool) =>
    if p0.fBase < w64 ((w64 (p1 + 1)) + i303) then
      if z412.2 = true then
        if z412.1 ≠ x404.fTerm then
          (cutLo p2 i303).bind fun l445 =>
          (m_plog_upto p0 (w64 ((w64 ((w64 (p1 + 1)) + i303)) - 1))).bind fun x446 =>
          (m_plog_Add x446 l445).bind fun x452 =>
          some (.inr (.inr (x452, w64 ((w64 (p1 + 1)) + i303))))
        else
          some (.inl (w64 (i303 + 1)))
      else
        (cutLo p2 i303).bind fun l488 =>
        (m_plog_upto p0 (w64 ((w64 ((w64 (p1 + 1)) + i303)) - 1))).bind fun x489 =>
        (m_plog_Add x489 l488).bind fun x495 =>
        some (.inr (.inr (x495, w64 ((w64 (p1 + 1)) + i303))))
    else
      some (.inl (w64 (i303 + 1)))
  else
    some (.inr (.inl ()))
noncomputable def m_plog_Put (p0 : GLog) (p1 : Int) (p2 : List GEntry) : Option (GLog × Int) :=
  if p1 < 0 then
    some (p0, 0)
  else
    (m_plog_Last p0).bind fun x4 =>
    if x4 < p1 then
      some (p0, 0)
    else
      (loop (fun s => m_plog_Put_s2 p2 p0 p1 s) 0).bind fun e => Sum.elim (fun e => m_plog_Put_j1 p0) (fun x => some x) e
theorem c_plog_Put {w0 : World} {M : Nat → Prop} {H : List (Nat × Nat × Obj)} {R : List (Nat × Row)} {φ : World → Prop} (p0 : GLog) (Ap0_0 : Option Addr) (cp0_0 : Nat) (hcp0_0 : p0.fEntries.length ≤ cp0_0) (fp0_0 : ∀ W, φ W → Cl W Ap0_0 (p0.fEntries.flatMap GEntry.enc)) (p1 : Int) (p2 : List GEntry) (Ap2_0 : Option Addr) (cp2_0 : Nat) (hcp2_0 : p2.length ≤ cp2_0) (fp2_0 : ∀ W, φ W → Cl W Ap2_0 (p2.flatMap GEntry.enc)) (r : GLog × Int) (hm : m_plog_Put p0 p1 p2 = some r) :
    Cn Try.prog 12 #[.agg #[.int .i64 p0.fBase, .int .i64 p0.fBaseTerm, .slice Ap0_0 p0.fEntries.length cp0_0], .int .i64 p1, .slice Ap2_0 p2.length cp2_0] ⟨w0, M, H, R, φ⟩ (fun x : Option Addr × Nat => .tuple #[.agg #[.int .i64 r.1.fBase, .int .i64 r.1.fBaseTerm, .slice x.1 r.1.fEntries.length x.2], .int .i64 r.2]) (fun x => r.1.fEntries.length ≤ x.2) (fun x => ⟨w0, M, H, R, fun W => φ W ∧ Cl W x.1 (r.1.fEntries.flatMap GEntry.enc)⟩) := by
 unfold m_plog_Put at hm
 refine cn_intro (fn := Try.f12) (N := 64) Try.func12 rfl Try.ntmps12 rfl ?_
 refine c_seq ?_
 refine c_region ?_
 refine g_e rfl (e_box 100030 rfl) (fun g1 _ => ?_)
 refine g_e rfl (e_alloc 100060 Try.zeroValue28) (fun g2 _ => ?_)
 refine g_v rfl r_assign ?_
 refine g_nil ?_
 refine d_then ?_
 refine c_seq ?_
 refine c_seq ?_
 refine c_region ?_
 refine g_v rfl r_move ?_
 refine g_v rfl (r_lss rfl rfl) ?_
 refine g_v rfl r_move ?_
 refine g_if rfl rfl rfl rfl rfl (fun h3 => ?_) (fun h3 => ?_)
 ·
  replace hm := ite_f hm (of_decide_eq_false h3)
  refine g_v rfl r_move ?_
  refine g_do rfl rfl rfl rfl rfl h3 ?_
  refine g_v rfl (r_loadA (tag := 100030) rfl rfl Try.isAgg28 Try.sizeOf28 rfl rfl) ?_
  refine g_do rfl rfl rfl rfl rfl h3 ?_
  replace hm := bnd hm
  obtain ⟨x4, hx5, hm⟩ := hm
  refine g_cn ⟨w0, M, _, _, φ⟩ (fun _ h => h) Try.call13 rfl rfl (c_plog_Last p0 Ap0_0 cp0_0 hcp0_0 (fun W hS => fp0_0 W hS.now) _ hx5) (fun _ _ => ?_)
  refine g_do rfl rfl rfl rfl rfl h3 ?_
  refine g_v rfl (r_gtr rfl rfl) ?_
  refine g_v rfl (r_pick0 rfl h3) ?_
  refine g_nil ?_
  refine d_then ?_
  refine c_flat [(1, .int .i64 p1), (2, .slice Ap2_0 p2.length cp2_0), (3, .pointer (some ⟨g1, 0, none⟩)), (6, .pointer (some ⟨g2, 0, none⟩)), (20, .bool (decide (x4 < p1)))] ⟨rfl, rfl, rfl, rfl, rfl, trivial⟩ (fun u => ?_)
  refine c_sta ⟨w0, M, (100060, g2, .cells #[.int .i64 0, .int .i64 0, .slice none 0 0] 28 (0, 0)) :: (100030, g1, .cells #[.int .i64 p0.fBase, .int .i64 p0.fBaseTerm, .slice Ap0_0 p0.fEntries.length cp0_0] 28 (0, 0)) :: H, R, φ⟩ (fun _ h => h) ?_
  refine c_cond rfl (fun h6 => ?_) (fun h6 => ?_)
  ·
   replace hm := ite_t hm (of_decide_eq_true h6)
   refine c_seq ?_
   refine c_region ?_
   refine g_v rfl (r_loadA (tag := 100030) rfl rfl Try.isAgg28 Try.sizeOf28 rfl rfl) ?_
   refine g_storeL (tag := 100060) rfl rfl rfl rfl Try.sizeOf28 rfl rfl ?_
   refine g_v rfl r_assign ?_
   refine g_nil ?_
   refine d_then ?_
   refine c_ret ?_
   refine d_ret_then ?_
   replace hm := Option.some.inj hm
   subst hm
   refine d_retC (Ap0_0, cp0_0) Try.results12 ?_ hcp0_0 (fun W h => ok_pre (H1 := [_, _]) (R1 := []) h (fun W hφ => ⟨hφ, (fun W h => fp0_0 W h) W hφ⟩)) (.inr rfl)
   refine res_agg (tag := 100060) rfl rfl Try.isAgg28 Try.sizeOf28 ?_
   refine res_tmp ?_
   refine res_nil ?_
   exact rfl
  ·
   replace hm := ite_f hm (of_decide_eq_false h6)
   refine c_skip ?_
   refine d_then ?_
   refine c_seq ?_
   refine c_seq ?_
   refine c_region ?_
   refine g_v rfl r_move ?_
   refine g_v rfl (r_lenL Try.underlying26 rfl) ?_
   refine g_v rfl r_move ?_
   refine g_nil ?_
   refine d_then ?_
   refine c_cut (ι := Unit) [3, 6] (fun _ => []) (fun _ => ⟨w0, M, (100060, g2, .cells #[.int .i64 0, .int .i64 0, .slice none 0 0] 28 (0, 0)) :: (100030, g1, .cells #[.int .i64 p0.fBase, .int .i64 p0.fBaseTerm, .slice Ap0_0 p0.fEntries.length cp0_0] 28 (0, 0)) :: H, R, φ⟩) (fun _ => m_plog_Put_j1 p0 = some r) ?_ (fun _ u hm => ?_)
   ·
    refine c_block ?_
    replace hm := bnd hm
    obtain ⟨out2, hl2, hr2⟩ := hm
    obtain ⟨n402', hl2⟩ := loop_lp hl2
    refine c_loopU (ι := Nat × Int) [1, 2, 3, 6, 22, 23, 24] (fun ⟨n402, i303⟩ => [(24, .int .i64 i303)]) (fun ⟨n402, i303⟩ => ⟨w0, M, (100060, g2, .cells #[.int .i64 0, .int .i64 0, .slice none 0 0] 28 (0, 0)) :: (100030, g1, .cells #[.int .i64 p0.fBase, .int .i64 p0.fBaseTerm, .slice Ap0_0 p0.fEntries.length cp0_0] 28 (0, 0)) :: H, R, φ⟩) (fun ⟨n402, i303⟩ => Lp (fun s => m_plog_Put_s2 p2 p0 p1 s) n402 i303 out2) (fun ⟨n402, i303⟩ => n402) (n402', 0) hl2 ⟨rfl, rfl, rfl, rfl, rfl, rfl, rfl, trivial⟩ (fun W h => h.phi (fun W hφ => hφ)) (fun ⟨n402, i303⟩ u hlp => ?_)
    obtain ⟨o2, hm, hnx2⟩ := lp_step hlp
    clear hlp
    replace hm : m_plog_Put_s2 p2 p0 p1 i303 = some o2 := hm
    unfold m_plog_Put_s2 at hm
    refine c_flat [(1, .int .i64 p1), (2, .slice Ap2_0 p2.length cp2_0), (3, .pointer (some ⟨g1, 0, none⟩)), (6, .pointer (some ⟨g2, 0, none⟩)), (22, .slice Ap2_0 p2.length cp2_0), (23, .int .i64 (p2.length : Int)), (24, .int .i64 i303)] ⟨rfl, rfl, rfl, rfl, rfl, rfl, rfl, trivial⟩ (fun u => ?_)
    refine c_sta ⟨w0, M, (100060, g2, .cells #[.int .i64 0, .int .i64 0, .slice none 0 0] 28 (0, 0)) :: (100030, g1, .cells #[.int .i64 p0.fBase, .int .i64 p0.fBaseTerm, .slice Ap0_0 p0.fEntries.length cp0_0] 28 (0, 0)) :: H, R, φ⟩ (fun _ h => h) ?_
    refine c_seq ?_
    refine c_region ?_
    refine g_v rfl (r_lss rfl rfl) ?_
    refine g_nil ?_
    refine d_then ?_
    refine c_seq ?_
    refine c_cond rfl (fun h403 => ?_) (fun h403 => ?_)
    ·
     replace hm := ite_t hm (of_decide_eq_true h403)
     refine c_skip ?_
     refine d_then ?_
     refine c_seq ?_
     refine c_block ?_
     refine c_seq ?_
     refine c_region ?_
     refine g_v rfl r_move ?_
     replace hm := bnd hm
     obtain ⟨x404, hx404, hm⟩ := hm
     refine g_know _ (fun W hS => cl_at (p := φ) (sz := 3) (fun _ => rfl) (by decide) hS.now fp2_0 hx404) ?_
     rintro ⟨ad405, hA407, f406⟩
     refine g_v rfl (r_ix Try.underlying26 Try.sizeOf46 rfl hA407 rfl hx404) ?_
     refine g_v rfl (r_ldA rfl Try.isAgg46 Try.sizeOf46 (fun W hS => (f406 W hS.now).take 3) rfl) ?_
     refine g_e rfl (e_alloc 100090 Try.zeroValue46) (fun g408 _ => ?_)
     refine g_v rfl r_assign ?_
     refine g_storeL (tag := 100090) rfl rfl rfl rfl Try.sizeOf46 rfl rfl ?_
     refine g_nil ?_
     refine d_then ?_
     refine c_seq ?_
     refine c_region ?_
     refine g_v rfl r_move ?_
     refine g_v rfl (r_add rfl rfl rfl) ?_
     refine g_v rfl r_move ?_
     refine g_v rfl (r_add rfl rfl rfl) ?_
     refine g_v rfl r_assign ?_
     refine g_nil ?_
     refine d_then ?_
     refine c_flat [(1, .int .i64 p1), (2, .slice Ap2_0 p2.length cp2_0), (3, .pointer (some ⟨g1, 0, none⟩)), (6, .pointer (some ⟨g2, 0, none⟩)), (8, .int .i64 i303), (9, .pointer (some ⟨g408, 0, none⟩)), (10, .int .i64 (w64 ((w64 (p1 + 1)) + i303))), (22, .slice Ap2_0 p2.length cp2_0), (23, .int .i64 (p2.length : Int)), (24, .int .i64 i303)] ⟨rfl, rfl, rfl, rfl, rfl, rfl, rfl, rfl, rfl, rfl, trivial⟩ (fun u => ?_)
     refine c_sta ⟨w0, M, (100090, g408, .cells #[.int .i64 x404.fTerm, .int .i64 x404.fKind, .string x404.fData] 46 (0, 0)) :: (100060, g2, .cells #[.int .i64 0, .int .i64 0, .slice none 0 0] 28 (0, 0)) :: (100030, g1, .cells #[.int .i64 p0.fBase, .int .i64 p0.fBaseTerm, .slice Ap0_0 p0.fEntries.length cp0_0] 28 (0, 0)) :: H, R, φ⟩ (fun _ h => h) ?_
     refine c_seq ?_
     refine c_region ?_
     refine g_v rfl (r_loadA (tag := 100030) rfl rfl Try.isAgg28 Try.sizeOf28 rfl rfl) ?_
     refine g_v rfl r_move ?_
     replace hm := bnd hm
     obtain ⟨⟨x409, x410⟩, hx411, hm⟩ := hm
     refine g_cn ⟨w0, M, _, _, φ⟩ (fun _ h => h) Try.call11 rfl rfl (c_plog_Term p0 Ap0_0 cp0_0 hcp0_0 (fun W hS => fp0_0 W hS.now) (w64 ((w64 (p1 + 1)) + i303)) _ hx411) (fun _ _ => ?_)
     refine g_v rfl r_move ?_
     refine g_v rfl (r_extract rfl rfl) ?_
     refine g_v rfl (r_extract rfl rfl) ?_
     refine g_v rfl r_assign ?_
     refine g_v rfl r_assign ?_
     refine g_nil ?_
     refine d_then ?_
     refine c_seq ?_
     refine c_region ?_
     refine g_v rfl r_move ?_
     refine g_v rfl (r_field (n := 0) Try.underlying28 rfl Try.sizeOf3 rfl rfl) ?_
     refine g_v rfl (r_load (tag := 100030) rfl rfl rfl Try.isAgg3) ?_
     refine g_v rfl (r_gtr rfl rfl) ?_
     refine g_v rfl r_move ?_
     refine g_if rfl rfl rfl rfl rfl (fun h413 => ?_) (fun h413 => ?_)
     ·
      replace hm := ite_t hm (of_decide_eq_true h413)
      refine g_v rfl r_move ?_
      refine g_do rfl rfl rfl rfl rfl h413 ?_
      refine g_v rfl (r_not rfl) ?_
      refine g_do rfl rfl rfl rfl rfl h413 ?_
      refine g_v rfl r_move ?_
      refine g_if rfl rfl rfl rfl rfl (fun h414 => ?_) (fun h414 => ?_)
      ·
       have h414' : x410 = true := by revert h414; cases x410 <;> simp
       replace hm := ite_t hm h414'
       refine g_v rfl r_move ?_
       refine g_do rfl rfl rfl rfl rfl h414 ?_
       refine g_v rfl (r_field (n := 0) Try.underlying46 rfl Try.sizeOf3 rfl rfl) ?_
       refine g_do rfl rfl rfl rfl rfl h414 ?_
       refine g_v rfl (r_load (tag := 100090) rfl rfl rfl Try.isAgg3) ?_
       refine g_do rfl rfl rfl rfl rfl h414 ?_
       refine g_v rfl (r_neq rfl rfl) ?_
       refine g_do rfl rfl rfl rfl rfl h413 ?_
       refine g_v rfl (r_pick0 rfl h414) ?_
       refine g_v rfl (r_pick1 rfl h413) ?_
       refine g_nil ?_
       refine d_then ?_
       refine c_flat [(1, .int .i64 p1), (2, .slice Ap2_0 p2.length cp2_0), (3, .pointer (some ⟨g1, 0, none⟩)), (6, .pointer (some ⟨g2, 0, none⟩)), (8, .int .i64 i303), (10, .int .i64 (w64 ((w64 (p1 + 1)) + i303))), (22, .slice Ap2_0 p2.length cp2_0), (23, .int .i64 (p2.length : Int)), (24, .int .i64 i303), (52, .bool (decide (x409 ≠ x404.fTerm)))] ⟨rfl, rfl, rfl, rfl, rfl, rfl, rfl, rfl, rfl, rfl, trivial⟩ (fun u => ?_)
       refine c_sta ⟨w0, M, (100090, g408, .cells #[.int .i64 x404.fTerm, .int .i64 x404.fKind, .string x404.fData] 46 (0, 0)) :: (100060, g2, .cells #[.int .i64 0, .int .i64 0, .slice none 0 0] 28 (0, 0)) :: (100030, g1, .cells #[.int .i64 p0.fBase, .int .i64 p0.fBaseTerm, .slice Ap0_0 p0.fEntries.length cp0_0] 28 (0, 0)) :: H, R, φ⟩ (fun _ h => h) ?_
       refine c_cond rfl (fun h415 => ?_) (fun h415 => ?_)
       ·
        replace hm := ite_t hm (of_decide_eq_true h415)
        refine c_seq ?_
        refine ga_start (n := 11) ⟨w0, M, (100090, g408, .cells #[.int .i64 x404.fTerm, .int .i64 x404.fKind, .string x404.fData] 46 (0, 0)) :: (100060, g2, .cells #[.int .i64 0, .int .i64 0, .slice none 0 0] 28 (0, 0)) :: (100030, g1, .cells #[.int .i64 p0.fBase, .int .i64 p0.fBaseTerm, .slice Ap0_0 p0.fEntries.length cp0_0] 28 (0, 0)) :: H, R, φ⟩ [9] #[false, false, false, false, false, false, false, false, false, false, false] (fun W h => h.phi (fun W hφ => hφ)) mixed rfl rfl ?_
        refine ga_v (i := 0) #[true, false, false, false, false, false, false, false, false, false, false] rfl (by kernel_rfl) (fun _ _ _ _ h => h) rfl (r_loadA (tag := 100030) rfl rfl Try.isAgg28 Try.sizeOf28 rfl rfl) ?_
        refine ga_v (i := 1) #[true, true, false, false, false, false, false, false, false, false, false] rfl (by kernel_rfl) (fun _ _ _ _ h => h) rfl (r_move) ?_
        refine ga_v (i := 2) #[true, true, true, false, false, false, false, false, false, false, false] rfl (by kernel_rfl) (fun _ _ _ _ h => h) rfl (r_sub rfl rfl rfl) ?_
        refine ga_v (i := 4) #[true, true, true, false, true, false, false, false, false, false, false] rfl (by kernel_rfl) (fun _ _ _ _ h => h) rfl (r_move) ?_
        refine ga_v (i := 5) #[true, true, true, false, true, true, false, false, false, false, false] rfl (by kernel_rfl) (fun _ _ _ _ h => h) rfl (r_move) ?_
        replace hm := bnd hm
        obtain ⟨l445, hl445, hm⟩ := hm
        have f444 := fun (W : World) (h : φ W) => cl_cutLo (enc := GEntry.enc) (sz := 3) (c := cp2_0) (fun _ => rfl) hcp2_0 hl445 (fp2_0 W h)
        refine ga_v (i := 6) #[true, true, true, false, true, true, true, false, false, false, false] rfl (by kernel_rfl) (fun _ _ _ _ h => h) rfl (r_lcutLo Try.underlying26 Try.sizeOf46 rfl hcp2_0 rfl hl445) ?_
        refine ga_p (i := 8) #[true, true, true, false, true, true, true, false, true, false, false] rfl (.inl rfl) (by kernel_rfl) (fun _ _ _ _ h => h) rfl ?_
        replace hm := bnd hm
        obtain ⟨x446, hx447, hm⟩ := hm
        refine ga_cn (first := #[]) (i := 3) #[true, true, true, true, true, true, true, false, true, false, false] rfl (by kernel_rfl) (by decide)  ⟨w0, M, _, _, φ⟩ (fun _ h => h) Try.call31 rfl rfl rfl (c_plog_upto p0 Ap0_0 cp0_0 hcp0_0 (fun W h => fp0_0 W h) (w64 ((w64 ((w64 (p1 + 1)) + i303)) - 1)) _ hx447) (fun ⟨A448, c449⟩ W hc449 h => (h.phi (fun _ hh => hh.1)).phi (fun W hφ => hφ)) (fun ⟨A448, c449⟩ hc449 => ?_)
        refine ga_abs (fun φ451 q451' => ?_)
        have q451 : ∀ W, φ451 W → φ W := fun W h => (q451' W h).1
        have f450 := fun (W : World) (h : φ451 W) => (q451' W h).2
        replace hm := bnd hm
        obtain ⟨x452, hx453, hm⟩ := hm
        refine ga_cn (first := #[]) (i := 7) #[true, true, true, true, true, true, true, true, true, false, false] rfl (by kernel_rfl) (by decide)  ⟨w0, M, _, _, φ451⟩ (fun _ h => h) Try.call30 rfl rfl rfl (c_plog_Add x446 A448 c449 hc449 (fun W h => f450 W h) l445 (if cp2_0 = (i303).toNat then Ap2_0 else Ap2_0.map (·.add ((i303).toNat * 3))) (cp2_0 - (i303).toNat) (cutLo_len hcp2_0 hl445) (fun W h => f444 W (q451 _ h)) _ hx453) (fun ⟨A454, c455⟩ W hc455 h => (h.phi (fun _ hh => hh.1)).phi (fun W hφ => (q451 _ hφ))) (fun ⟨A454, c455⟩ hc455 => ?_)
        refine ga_abs (fun φ457 q457' => ?_)
        have q457 : ∀ W, φ457 W → φ451 W := fun W h => (q457' W h).1
        have f456 := fun (W : World) (h : φ457 W) => (q457' W h).2
        refine ga_lastL (i := 9) (tag := 100060) #[true, true, true, true, true, true, true, true, true, true, false] rfl (by kernel_rfl) (by decide) rfl rfl rfl rfl Try.sizeOf28 rfl rfl ?_
        refine gz_p (i := 10) #[true, true, true, true, true, true, true, true, true, true, true] rfl (.inr rfl) (by kernel_rfl) (fun _ _ _ _ h => h) rfl ?_
        refine gz_done (by kernel_rfl) ?_
        refine d_then ?_
        refine c_flat [(6, .pointer (some ⟨g2, 0, none⟩)), (7, .int .i64 (w64 ((w64 (p1 + 1)) + i303)))] ⟨rfl, rfl, trivial⟩ (fun u => ?_)
        refine c_sta ⟨w0, M, (100090, g408, .cells #[.int .i64 x404.fTerm, .int .i64 x404.fKind, .string x404.fData] 46 (0, 0)) :: (100060, g2, .cells #[.int .i64 x452.fBase, .int .i64 x452.fBaseTerm, .slice A454 x452.fEntries.length c455] 28 (0, 0)) :: (100030, g1, .cells #[.int .i64 p0.fBase, .int .i64 p0.fBaseTerm, .slice Ap0_0 p0.fEntries.length cp0_0] 28 (0, 0)) :: H, R, φ457⟩ (fun _ h => h) ?_
        refine c_ret ?_
        refine d_ret_block ?_
        refine d_ret_then ?_
        refine d_ret_then ?_
        refine d_ret_block ?_
        refine d_ret_then ?_
        refine d_ret_then ?_
        replace hm := nx_out (C := (fun e => Sum.elim (fun e => m_plog_Put_j1 p0) (fun x => some x) e = some r)) hm hnx2 hr2
        replace hm : some (x452, w64 ((w64 (p1 + 1)) + i303)) = some r := hm
        replace hm := Option.some.inj hm
        subst hm
        refine d_retC (A454, c455) Try.results12 ?_ hc455 (fun W h => ok_pre (H1 := [_, _, _]) (R1 := []) h (fun W hφ => ⟨(q451 _ (q457 _ hφ)), (fun W h => f456 W h) W hφ⟩)) (.inr rfl)
        refine res_agg (tag := 100060) rfl rfl Try.isAgg28 Try.sizeOf28 ?_
        refine res_tmp ?_
        refine res_nil ?_
        exact rfl
       ·
        replace hm := ite_f hm (of_decide_eq_false h415)
        refine c_skip ?_
        refine d_normal_block ?_
        refine d_then ?_
        refine c_region ?_
        refine g_v rfl (r_add rfl rfl rfl) ?_
        refine g_v rfl r_move ?_
        refine g_nil ?_
        obtain ⟨n458, hn458, hlp⟩ := nx_inl hm hnx2
        exact d_round (n458, w64 (i303 + 1)) hlp hn458 ⟨rfl, rfl, rfl, rfl, rfl, rfl, rfl, trivial⟩ (fun W h => (h.dropH (t := 100090) rfl).phi (fun W hφ => hφ))
      ·
       have h414' : x410 = false := by revert h414; cases x410 <;> simp
       replace hm := ite_f hm (bool_nt h414')
       refine g_no rfl rfl rfl rfl rfl h414 ?_
       refine g_no rfl rfl rfl rfl rfl h414 ?_
       refine g_no rfl rfl rfl rfl rfl h414 ?_
       refine g_do rfl rfl rfl rfl rfl h413 ?_
       refine g_v rfl (r_pick1 rfl h414) ?_
       refine g_v rfl (r_pick1 rfl h413) ?_
       refine g_nil ?_
       refine d_then ?_
       refine c_flat [(1, .int .i64 p1), (2, .slice Ap2_0 p2.length cp2_0), (3, .pointer (some ⟨g1, 0, none⟩)), (6, .pointer (some ⟨g2, 0, none⟩)), (8, .int .i64 i303), (10, .int .i64 (w64 ((w64 (p1 + 1)) + i303))), (22, .slice Ap2_0 p2.length cp2_0), (23, .int .i64 (p2.length : Int)), (24, .int .i64 i303), (52, .bool true)] ⟨rfl, rfl, rfl, rfl, rfl, rfl, rfl, rfl, rfl, rfl, trivial⟩ (fun u => ?_)
       refine c_sta ⟨w0, M, (100090, g408, .cells #[.int .i64 x404.fTerm, .int .i64 x404.fKind, .string x404.fData] 46 (0, 0)) :: (100060, g2, .cells #[.int .i64 0, .int .i64 0, .slice none 0 0] 28 (0, 0)) :: (100030, g1, .cells #[.int .i64 p0.fBase, .int .i64 p0.fBaseTerm, .slice Ap0_0 p0.fEntries.length cp0_0] 28 (0, 0)) :: H, R, φ⟩ (fun _ h => h) ?_
       refine c_cond1 rfl rfl ?_
       refine c_seq ?_
       refine ga_start (n := 11) ⟨w0, M, (100090, g408, .cells #[.int .i64 x404.fTerm, .int .i64 x404.fKind, .string x404.fData] 46 (0, 0)) :: (100060, g2, .cells #[.int .i64 0, .int .i64 0, .slice none 0 0] 28 (0, 0)) :: (100030, g1, .cells #[.int .i64 p0.fBase, .int .i64 p0.fBaseTerm, .slice Ap0_0 p0.fEntries.length cp0_0] 28 (0, 0)) :: H, R, φ⟩ [9] #[false, false, false, false, false, false, false, false, false, false, false] (fun W h => h.phi (fun W hφ => hφ)) mixed rfl rfl ?_
       refine ga_v (i := 0) #[true, false, false, false, false, false, false, false, false, false, false] rfl (by kernel_rfl) (fun _ _ _ _ h => h) rfl (r_loadA (tag := 100030) rfl rfl Try.isAgg28 Try.sizeOf28 rfl rfl) ?_
       refine ga_v (i := 1) #[true, true, false, false, false, false, false, false, false, false, false] rfl (by kernel_rfl) (fun _ _ _ _ h => h) rfl (r_move) ?_
       refine ga_v (i := 2) #[true, true, true, false, false, false, false, false, false, false, false] rfl (by kernel_rfl) (fun _ _ _ _ h => h) rfl (r_sub rfl rfl rfl) ?_
       refine ga_v (i := 4) #[true, true, true, false, true, false, false, false, false, false, false] rfl (by kernel_rfl) (fun _ _ _ _ h => h) rfl (r_move) ?_
       refine ga_v (i := 5) #[true, true, true, false, true, true, false, false, false, false, false] rfl (by kernel_rfl) (fun _ _ _ _ h => h) rfl (r_move) ?_
       replace hm := bnd hm
       obtain ⟨l488, hl488, hm⟩ := hm
       have f487 := fun (W : World) (h : φ W) => cl_cutLo (enc := GEntry.enc) (sz := 3) (c := cp2_0) (fun _ => rfl) hcp2_0 hl488 (fp2_0 W h)
       refine ga_v (i := 6) #[true, true, true, false, true, true, true, false, false, false, false] rfl (by kernel_rfl) (fun _ _ _ _ h => h) rfl (r_lcutLo Try.underlying26 Try.sizeOf46 rfl hcp2_0 rfl hl488) ?_
       refine ga_p (i := 8) #[true, true, true, false, true, true, true, false, true, false, false] rfl (.inl rfl) (by kernel_rfl) (fun _ _ _ _ h => h) rfl ?_
       replace hm := bnd hm
       obtain ⟨x489, hx490, hm⟩ := hm
       refine ga_cn (first := #[]) (i := 3) #[true, true, true, true, true, true, true, false, true, false, false] rfl (by kernel_rfl) (by decide)  ⟨w0, M, _, _, φ⟩ (fun _ h => h) Try.call31 rfl rfl rfl (c_plog_upto p0 Ap0_0 cp0_0 hcp0_0 (fun W h => fp0_0 W h) (w64 ((w64 ((w64 (p1 + 1)) + i303)) - 1)) _ hx490) (fun ⟨A491, c492⟩ W hc492 h => (h.phi (fun _ hh => hh.1)).phi (fun W hφ => hφ)) (fun ⟨A491, c492⟩ hc492 => ?_)
       refine ga_abs (fun φ494 q494' => ?_)
       have q494 : ∀ W, φ494 W → φ W := fun W h => (q494' W h).1
       have f493 := fun (W : World) (h : φ494 W) => (q494' W h).2
       replace hm := bnd hm
       obtain ⟨x495, hx496, hm⟩ := hm
       refine ga_cn (first := #[]) (i := 7) #[true, true, true, true, true, true, true, true, true, false, false] rfl (by kernel_rfl) (by decide)  ⟨w0, M, _, _, φ494⟩ (fun _ h => h) Try.call30 rfl rfl rfl (c_plog_Add x489 A491 c492 hc492 (fun W h => f493 W h) l488 (if cp2_0 = (i303).toNat then Ap2_0 else Ap2_0.map (·.add ((i303).toNat * 3))) (cp2_0 - (i303).toNat) (cutLo_len hcp2_0 hl488) (fun W h => f487 W (q494 _ h)) _ hx496) (fun ⟨A497, c498⟩ W hc498 h => (h.phi (fun _ hh => hh.1)).phi (fun W hφ => (q494 _ hφ))) (fun ⟨A497, c498⟩ hc498 => ?_)
       refine ga_abs (fun φ500 q500' => ?_)
       have q500 : ∀ W, φ500 W → φ494 W := fun W h => (q500' W h).1
       have f499 := fun (W : World) (h : φ500 W) => (q500' W h).2
       refine ga_lastL (i := 9) (tag := 100060) #[true, true, true, true, true, true, true, true, true, true, false] rfl (by kernel_rfl) (by decide) rfl rfl rfl rfl Try.sizeOf28 rfl rfl ?_
       refine gz_p (i := 10) #[true, true, true, true, true, true, true, true, true, true, true] rfl (.inr rfl) (by kernel_rfl) (fun _ _ _ _ h => h) rfl ?_
       refine gz_done (by kernel_rfl) ?_
       refine d_then ?_
       refine c_flat [(6, .pointer (some ⟨g2, 0, none⟩)), (7, .int .i64 (w64 ((w64 (p1 + 1)) + i303)))] ⟨rfl, rfl, trivial⟩ (fun u => ?_)
       refine c_sta ⟨w0, M, (100090, g408, .cells #[.int .i64 x404.fTerm, .int .i64 x404.fKind, .string x404.fData] 46 (0, 0)) :: (100060, g2, .cells #[.int .i64 x495.fBase, .int .i64 x495.fBaseTerm, .slice A497 x495.fEntries.length c498] 28 (0, 0)) :: (100030, g1, .cells #[.int .i64 p0.fBase, .int .i64 p0.fBaseTerm, .slice Ap0_0 p0.fEntries.length cp0_0] 28 (0, 0)) :: H, R, φ500⟩ (fun _ h => h) ?_
       refine c_ret ?_
       refine d_ret_block ?_
       refine d_ret_then ?_
       refine d_ret_then ?_
       refine d_ret_block ?_
       refine d_ret_then ?_
       refine d_ret_then ?_
       replace hm := nx_out (C := (fun e => Sum.elim (fun e => m_plog_Put_j1 p0) (fun x => some x) e = some r)) hm hnx2 hr2
       replace hm : some (x495, w64 ((w64 (p1 + 1)) + i303)) = some r := hm
       replace hm := Option.some.inj hm
       subst hm
       refine d_retC (A497, c498) Try.results12 ?_ hc498 (fun W h => ok_pre (H1 := [_, _, _]) (R1 := []) h (fun W hφ => ⟨(q494 _ (q500 _ hφ)), (fun W h => f499 W h) W hφ⟩)) (.inr rfl)
       refine res_agg (tag := 100060) rfl rfl Try.isAgg28 Try.sizeOf28 ?_
       refine res_tmp ?_
       refine res_nil ?_
       exact rfl
     ·
      replace hm := ite_f hm (of_decide_eq_false h413)
      refine g_no rfl rfl rfl rfl rfl h413 ?_
      refine g_no rfl rfl rfl rfl rfl h413 ?_
      refine g_nu rfl rfl rfl rfl rfl ?_
      refine g_nu rfl rfl rfl rfl rfl ?_
      refine g_nu rfl rfl rfl rfl rfl ?_
      refine g_nu rfl rfl rfl rfl rfl ?_
      refine g_no rfl rfl rfl rfl rfl h413 ?_
      refine g_v rfl (r_pick0 rfl h413) ?_
      refine g_nil ?_
      refine d_then ?_
      refine c_flat [(1, .int .i64 p1), (2, .slice Ap2_0 p2.length cp2_0), (3, .pointer (some ⟨g1, 0, none⟩)), (6, .pointer (some ⟨g2, 0, none⟩)), (8, .int .i64 i303), (10, .int .i64 (w64 ((w64 (p1 + 1)) + i303))), (22, .slice Ap2_0 p2.length cp2_0), (23, .int .i64 (p2.length : Int)), (24, .int .i64 i303), (52, .bool false)] ⟨rfl, rfl, rfl, rfl, rfl, rfl, rfl, rfl, rfl, rfl, trivial⟩ (fun u => ?_)
      refine c_sta ⟨w0, M, (100090, g408, .cells #[.int .i64 x404.fTerm, .int .i64 x404.fKind, .string x404.fData] 46 (0, 0)) :: (100060, g2, .cells #[.int .i64 0, .int .i64 0, .slice none 0 0] 28 (0, 0)) :: (100030, g1, .cells #[.int .i64 p0.fBase, .int .i64 p0.fBaseTerm, .slice Ap0_0 p0.fEntries.length cp0_0] 28 (0, 0)) :: H, R, φ⟩ (fun _ h => h) ?_
      refine c_cond0 rfl rfl ?_
      refine c_skip ?_
      refine d_normal_block ?_
      refine d_then ?_
      refine c_region ?_
      refine g_v rfl (r_add rfl rfl rfl) ?_
      refine g_v rfl r_move ?_
      refine g_nil ?_
      obtain ⟨n501, hn501, hlp⟩ := nx_inl hm hnx2
      exact d_round (n501, w64 (i303 + 1)) hlp hn501 ⟨rfl, rfl, rfl, rfl, rfl, rfl, rfl, trivial⟩ (fun W h => (h.dropH (t := 100090) rfl).phi (fun W hφ => hφ))
    ·
     replace hm := ite_f hm (of_decide_eq_false h403)
     refine c_exit ?_
     refine d_exit_then ?_
     refine d_exit_then ?_
     refine d_exit_block ?_
     replace hm := nx_out (C := (fun e => Sum.elim (fun e => m_plog_Put_j1 p0) (fun x => some x) e = some r)) hm hnx2 hr2
     exact d_round () hm Nat.zero_lt_one ⟨rfl, rfl, trivial⟩ (fun W h => h.phi (fun W hφ => hφ))
   ·
    unfold m_plog_Put_j1 at hm
    refine d_flat [(3, .pointer (some ⟨g1, 0, none⟩)), (6, .pointer (some ⟨g2, 0, none⟩))] ⟨rfl, rfl, trivial⟩ (fun u => ?_)
    refine d_sta ⟨w0, M, (100060, g2, .cells #[.int .i64 0, .int .i64 0, .slice none 0 0] 28 (0, 0)) :: (100030, g1, .cells #[.int .i64 p0.fBase, .int .i64 p0.fBaseTerm, .slice Ap0_0 p0.fEntries.length cp0_0] 28 (0, 0)) :: H, R, φ⟩ (fun _ h => h) ?_
    refine d_then ?_
    refine c_seq ?_
    refine c_region ?_
    refine g_v rfl (r_loadA (tag := 100030) rfl rfl Try.isAgg28 Try.sizeOf28 rfl rfl) ?_
    refine g_storeL (tag := 100060) rfl rfl rfl rfl Try.sizeOf28 rfl rfl ?_
    refine g_v rfl r_assign ?_
    refine g_nil ?_
    refine d_then ?_
    refine c_ret ?_
    replace hm := Option.some.inj hm
    subst hm
    refine d_retC (Ap0_0, cp0_0) Try.results12 ?_ hcp0_0 (fun W h => ok_pre (H1 := [_, _]) (R1 := []) h (fun W hφ => ⟨hφ, (fun W h => fp0_0 W h) W hφ⟩)) (.inr rfl)
    refine res_agg (tag := 100060) rfl rfl Try.isAgg28 Try.sizeOf28 ?_
    refine res_tmp ?_
    refine res_nil ?_
    exact rfl
 ·
  replace hm := ite_t hm (of_decide_eq_true h3)
  refine g_no rfl rfl rfl rfl rfl h3 ?_
  refine g_no rfl rfl rfl rfl rfl h3 ?_
  refine g_no rfl rfl rfl rfl rfl h3 ?_
  refine g_v rfl (r_pick1 rfl h3) ?_
  refine g_nil ?_
  refine d_then ?_
  refine c_cond1 rfl rfl ?_
  refine c_seq ?_
  refine c_region ?_
  refine g_v rfl (r_loadA (tag := 100030) rfl rfl Try.isAgg28 Try.sizeOf28 rfl rfl) ?_
  refine g_storeL (tag := 100060) rfl rfl rfl rfl Try.sizeOf28 rfl rfl ?_
  refine g_v rfl r_assign ?_
  refine g_nil ?_
  refine d_then ?_
  refine c_flat [(6, .pointer (some ⟨g2, 0, none⟩)), (7, .int .i64 0)] ⟨rfl, rfl, trivial⟩ (fun u => ?_)
  refine c_sta ⟨w0, M, (100060, g2, .cells #[.int .i64 p0.fBase, .int .i64 p0.fBaseTerm, .slice Ap0_0 p0.fEntries.length cp0_0] 28 (0, 0)) :: (100030, g1, .cells #[.int .i64 p0.fBase, .int .i64 p0.fBaseTerm, .slice Ap0_0 p0.fEntries.length cp0_0] 28 (0, 0)) :: H, R, φ⟩ (fun _ h => h) ?_
  refine c_ret ?_
  refine d_ret_then ?_
  replace hm := Option.some.inj hm
  subst hm
  refine d_retC (Ap0_0, cp0_0) Try.results12 ?_ hcp0_0 (fun W h => ok_pre (H1 := [_, _]) (R1 := []) h (fun W hφ => ⟨hφ, (fun W h => fp0_0 W h) W hφ⟩)) (.inr rfl)
  refine res_agg (tag := 100060) rfl rfl Try.isAgg28 Try.sizeOf28 ?_
  refine res_tmp ?_
  refine res_nil ?_
  exact rfl

noncomputable def m_plog_Newer (p0 : GLog) (p1 : Int) (p2 : Int) : Option Bool :=
  (m_plog_Last p0).bind fun x14 =>
  (m_plog_Term p0 x14).bind fun (z19 : Int × Bool) =>
  if z19.1 < p2 then
    some true
  else
    if p2 = z19.1 then
      (m_plog_Last p0).bind fun x22 =>
      some (decide (x22 ≤ p1))
    else
      some false
theorem c_plog_Newer {w0 : World} {M : Nat → Prop} {H : List (Nat × Nat × Obj)} {R : List (Nat × Row)} {φ : World → Prop} (p0 : GLog) (Ap0_0 : Option Addr) (cp0_0 : Nat) (hcp0_0 : p0.fEntries.length ≤ cp0_0) (fp0_0 : ∀ W, (Sta.mk w0 M H R φ).ok W → Cl W Ap0_0 (p0.fEntries.flatMap GEntry.enc)) (p1 : Int) (p2 : Int) (r : Bool) (hm : m_plog_Newer p0 p1 p2 = some r) :
    Cn Try.prog 14 #[.agg #[.int .i64 p0.fBase, .int .i64 p0.fBaseTerm, .slice Ap0_0 p0.fEntries.length cp0_0], .int .i64 p1, .int .i64 p2] ⟨w0, M, H, R, φ⟩ (fun x : Unit => .bool r) (fun x => True) (fun x => ⟨w0, M, H, R, φ⟩) := by
 unfold m_plog_Newer at hm
 refine cn_intro (fn := Try.f14) (N := 30) Try.func14 rfl Try.ntmps14 rfl ?_
 refine c_seq ?_
 refine c_region ?_
 refine g_e rfl (e_box 100030 rfl) (fun g1 _ => ?_)
 refine g_v rfl r_assign ?_
 refine g_nil ?_
 refine d_then ?_
 refine c_seq ?_
 refine ga_start (n := 9) ⟨w0, M, (100030, g1, .cells #[.int .i64 p0.fBase, .int .i64 p0.fBaseTerm, .slice Ap0_0 p0.fEntries.length cp0_0] 28 (0, 0)) :: H, R, φ⟩ [] #[false, false, false, false, false, false, false, false, false] (fun W h => h.phi (fun W hφ => hφ)) mixed rfl rfl ?_
 refine ga_v (i := 0) #[true, false, false, false, false, false, false, false, false] rfl (by kernel_rfl) (fun _ _ _ _ h => h) rfl (r_loadA (tag := 100030) rfl rfl Try.isAgg28 Try.sizeOf28 rfl rfl) ?_
 refine ga_r (i := 1) #[true, true, false, false, false, false, false, false, false] rfl (by kernel_rfl) (by decide) rfl (r_loadA (tag := 100030) rfl rfl Try.isAgg28 Try.sizeOf28 rfl rfl) ?_
 replace hm := bnd hm
 obtain ⟨x14, hx15, hm⟩ := hm
 refine ga_cn (first := #[]) (i := 2) #[true, true, true, false, false, false, false, false, false] rfl (by kernel_rfl) (by decide)  ⟨w0, M, _, _, φ⟩ (fun _ h => h) Try.call13 rfl rfl rfl (c_plog_Last p0 Ap0_0 cp0_0 hcp0_0 (fun W hS => fp0_0 W (ok_pre (H1 := [_]) (R1 := []) hS (fun W h => h))) _ hx15) (fun _ W _ h => h.phi (fun W hφ => hφ)) (fun _ _ => ?_)
 replace hm := bnd hm
 obtain ⟨⟨x16, x17⟩, hx18, hm⟩ := hm
 refine ga_cn (first := #[]) (i := 3) #[true, true, true, true, false, false, false, false, false] rfl (by kernel_rfl) (by decide)  ⟨w0, M, _, _, φ⟩ (fun _ h => h) Try.call11 rfl rfl rfl (c_plog_Term p0 Ap0_0 cp0_0 hcp0_0 (fun W hS => fp0_0 W (ok_pre (H1 := [_]) (R1 := []) hS (fun W h => h))) x14 _ hx18) (fun _ W _ h => h.phi (fun W hφ => hφ)) (fun _ _ => ?_)
 refine ga_r (i := 4) #[true, true, true, true, true, false, false, false, false] rfl (by kernel_rfl) (by decide) rfl (r_move) ?_
 refine ga_v (i := 5) #[true, true, true, true, true, true, false, false, false] rfl (by kernel_rfl) (fun _ _ _ _ h => h) rfl (r_extract rfl rfl) ?_
 refine ga_v (i := 6) #[true, true, true, true, true, true, true, false, false] rfl (by kernel_rfl) (fun _ _ _ _ h => h) rfl (r_extract rfl rfl) ?_
 refine ga_r (i := 7) #[true, true, true, true, true, true, true, true, false] rfl (by kernel_rfl) (by decide) rfl (r_assign) ?_
 refine ga_r (i := 8) #[true, true, true, true, true, true, true, true, true] rfl (by kernel_rfl) (by decide) rfl (r_assign) ?_
 refine ga_done (by kernel_rfl) ?_
 refine d_then ?_
 refine c_flat [(1, .int .i64 p1), (2, .int .i64 p2), (3, .pointer (some ⟨g1, 0, none⟩)), (7, .int .i64 x16)] ⟨rfl, rfl, rfl, rfl, trivial⟩ (fun u => ?_)
 refine c_sta ⟨w0, M, (100030, g1, .cells #[.int .i64 p0.fBase, .int .i64 p0.fBaseTerm, .slice Ap0_0 p0.fEntries.length cp0_0] 28 (0, 0)) :: H, R, φ⟩ (fun _ h => h) ?_
 refine c_seq ?_
 refine c_region ?_
 refine g_v rfl r_move ?_
 refine g_v rfl r_move ?_
 refine g_v rfl (r_gtr rfl rfl) ?_
 refine g_v rfl r_move ?_
 refine g_if rfl rfl rfl rfl rfl (fun h20 => ?_) (fun h20 => ?_)
 ·
  replace hm := ite_f hm (of_decide_eq_false h20)
  refine g_v rfl r_move ?_
  refine g_do rfl rfl rfl rfl rfl h20 ?_
  refine g_v rfl r_move ?_
  refine g_do rfl rfl rfl rfl rfl h20 ?_
  refine g_v rfl (r_eql rfl rfl) ?_
  refine g_do rfl rfl rfl rfl rfl h20 ?_
  refine g_v rfl r_move ?_
  refine g_if rfl rfl rfl rfl rfl (fun h21 => ?_) (fun h21 => ?_)
  ·
   replace hm := ite_t hm (of_decide_eq_true h21)
   refine g_v rfl r_move ?_
   refine g_do rfl rfl rfl rfl rfl h21 ?_
   refine g_v rfl (r_loadA (tag := 100030) rfl rfl Try.isAgg28 Try.sizeOf28 rfl rfl) ?_
   refine g_do rfl rfl rfl rfl rfl h21 ?_
   replace hm := bnd hm
   obtain ⟨x22, hx23, hm⟩ := hm
   refine g_cn ⟨w0, M, _, _, φ⟩ (fun _ h => h) Try.call13 rfl rfl (c_plog_Last p0 Ap0_0 cp0_0 hcp0_0 (fun W hS => fp0_0 W (ok_pre (H1 := [_]) (R1 := []) hS (fun W h => h))) _ hx23) (fun _ _ => ?_)
   refine g_do rfl rfl rfl rfl rfl h21 ?_
   refine g_v rfl (r_geq rfl rfl) ?_
   refine g_do rfl rfl rfl rfl rfl h20 ?_
   refine g_v rfl (r_pick1 rfl h21) ?_
   refine g_v rfl (r_pick0 rfl h20) ?_
   refine g_v rfl r_assign ?_
   refine g_nil ?_
   refine d_then ?_
   refine c_flat [(6, .bool (decide (x22 ≤ p1)))] ⟨rfl, trivial⟩ (fun u => ?_)
   refine c_sta ⟨w0, M, (100030, g1, .cells #[.int .i64 p0.fBase, .int .i64 p0.fBaseTerm, .slice Ap0_0 p0.fEntries.length cp0_0] 28 (0, 0)) :: H, R, φ⟩ (fun _ h => h) ?_
   refine c_ret ?_
   replace hm := Option.some.inj hm
   subst hm
   refine d_retC () Try.results14 ?_ trivial (fun W h => ok_pre (H1 := [_]) (R1 := []) h (fun W hφ => hφ)) (.inr rfl)
   refine res_tmp ?_
   refine res_nil ?_
   exact rfl
  ·
   replace hm := ite_f hm (of_decide_eq_false h21)
   refine g_no rfl rfl rfl rfl rfl h21 ?_
   refine g_no rfl rfl rfl rfl rfl h21 ?_
   refine g_no rfl rfl rfl rfl rfl h21 ?_
   refine g_do rfl rfl rfl rfl rfl h20 ?_
   refine g_v rfl (r_pick0 rfl h21) ?_
   refine g_v rfl (r_pick0 rfl h20) ?_
   refine g_v rfl r_assign ?_
   refine g_nil ?_
   refine d_then ?_
   refine c_flat [(6, .bool false)] ⟨rfl, trivial⟩ (fun u => ?_)
   refine c_sta ⟨w0, M, (100030, g1, .cells #[.int .i64 p0.fBase, .int .i64 p0.fBaseTerm, .slice Ap0_0 p0.fEntries.length cp0_0] 28 (0, 0)) :: H, R, φ⟩ (fun _ h => h) ?_
   refine c_ret ?_
   replace hm := Option.some.inj hm
   subst hm
   refine d_retC () Try.results14 ?_ trivial (fun W h => ok_pre (H1 := [_]) (R1 := []) h (fun W hφ => hφ)) (.inr rfl)
   refine res_tmp ?_
   refine res_nil ?_
   exact rfl
 ·
  replace hm := ite_t hm (of_decide_eq_true h20)
  refine g_no rfl rfl rfl rfl rfl h20 ?_
  refine g_no rfl rfl rfl rfl rfl h20 ?_
  refine g_no rfl rfl rfl rfl rfl h20 ?_
  refine g_nu rfl rfl rfl rfl rfl ?_
  refine g_nu rfl rfl rfl rfl rfl ?_
  refine g_nu rfl rfl rfl rfl rfl ?_
  refine g_nu rfl rfl rfl rfl rfl ?_
  refine g_no rfl rfl rfl rfl rfl h20 ?_
  refine g_v rfl (r_pick1 rfl h20) ?_
  refine g_v rfl r_assign ?_
  refine g_nil ?_
  refine d_then ?_
  refine c_ret ?_
  replace hm := Option.some.inj hm
  subst hm
  refine d_retC () Try.results14 ?_ trivial (fun W h => ok_pre (H1 := [_]) (R1 := []) h (fun W hφ => hφ)) (.inr rfl)
  refine res_tmp ?_
  refine res_nil ?_
  exact rfl

theorem lit3_6 (z0 : Int) (z1 : Int) : Try.prog.builtSlice 3 2 [(0, .int .i64 z0), (1, .int .i64 z1)] = some #[.int .i64 z0, .int .i64 z1] := by kernel_rfl
theorem inf5_7  : (Try.prog.info? 5).map (fun i => (i.zero, i.size, i.bytes)) = some (some (.int .u8 0), 1, 1) := by kernel_rfl
noncomputable def m_plog_Data_j1  (l36 : List Int) : Option ByteArray :=
  some (strOfNums l36)
noncomputable def m_plog_Data_s2 (p0 : List Int) (l53 : List Int) (i56 : Int) : Option (((List Int) × Int) ⊕ (List Int)) :=
  if i56 < (p0.length : Int) then
    (at_ p0 i56).bind fun x73 =>
    (at_ l53 i56).bind fun x77 =>
    (setAt l53 i56 (IntKind.u8.wrap x73)).bind fun l81 =>
    some (.inl (l81, w64 (i56 + 1)))
  else
    some (.inr l53)
noncomputable def m_plog_Data (p0 : List Int) : Option ByteArray :=
  (mkL 1 (p0.length : Int) 0).bind fun l1 =>
  (loop (fun s => m_plog_Data_s2 p0 s.1 s.2) (l1, 0)).bind fun e => m_plog_Data_j1 e
theorem c_plog_Data {w0 : World} {M : Nat → Prop} {H : List (Nat × Nat × Obj)} {R : List (Nat × Row)} {φ : World → Prop} (p0 : List Int) (Ap0_0 : Option Addr) (cp0_0 : Nat) (hcp0_0 : p0.length ≤ cp0_0) (fp0_0 : ∀ W, (Sta.mk w0 M H R φ).ok W → Cl W Ap0_0 (p0.flatMap (fun x : Int => [Value.int .i64 x]))) (r : ByteArray) (hm : m_plog_Data p0 = some r) :
    Cn Try.prog 15 #[.slice Ap0_0 p0.length cp0_0] ⟨w0, M, H, R, φ⟩ (fun x : Unit => .string r) (fun x => True) (fun x => ⟨w0, M, H, R, φ⟩) := by
 unfold m_plog_Data at hm
 refine cn_intro (fn := Try.f15) (N := 24) Try.func15 rfl Try.ntmps15 rfl ?_
 refine c_seq ?_
 refine c_region ?_
 refine g_v rfl r_assign ?_
 refine g_nil ?_
 refine d_then ?_
 refine c_seq ?_
 refine c_region ?_
 refine g_v rfl r_move ?_
 refine g_v rfl (r_lenL Try.underlying25 rfl) ?_
 replace hm := bnd hm
 obtain ⟨l1, hl1, hm⟩ := hm
 refine g_e rfl (e_make (tag := 1) (enc := (fun x : Int => [Value.int .u8 x])) Try.underlying56 inf5_7 rfl rfl rfl rfl hl1) (fun g2 _ => ?_)
 refine g_v rfl r_assign ?_
 refine g_nil ?_
 refine d_then ?_
 refine c_seq ?_
 refine c_seq ?_
 refine c_region ?_
 refine g_v rfl r_move ?_
 refine g_v rfl (r_lenL Try.underlying25 rfl) ?_
 refine g_v rfl r_move ?_
 refine g_nil ?_
 refine d_then ?_
 refine c_cut (ι := (List Int) × Option Addr × Nat) [3] (fun ⟨l36, A37, c38⟩ => [(3, .slice A37 l36.length c38)]) (fun ⟨l36, A37, c38⟩ => ⟨w0, M, H, (1, ⟨.slice A37 l36.length c38, 5, 1, l36.length, l36.flatMap (fun x : Int => [Value.int .u8 x])⟩) :: R, φ⟩) (fun ⟨l36, A37, c38⟩ => m_plog_Data_j1 l36 = some r ∧ l36.length ≤ c38) ?_ (fun ⟨l36, A37, c38⟩ u ⟨hm, hc38⟩ => ?_)
 ·
  refine c_block ?_
  replace hm := bnd hm
  obtain ⟨out2, hl2, hr2⟩ := hm
  obtain ⟨n71', hl2⟩ := loop_lp hl2
  refine c_loopU (ι := Nat × (List Int) × Int × Option Addr × Nat) [3, 9, 10, 11] (fun ⟨n71, l53, i56, A54, c55⟩ => [(3, .slice A54 l53.length c55), (11, .int .i64 i56)]) (fun ⟨n71, l53, i56, A54, c55⟩ => ⟨w0, M, H, (1, ⟨.slice A54 l53.length c55, 5, 1, l53.length, l53.flatMap (fun x : Int => [Value.int .u8 x])⟩) :: R, φ⟩) (fun ⟨n71, l53, i56, A54, c55⟩ => Lp (fun s => m_plog_Data_s2 p0 s.1 s.2) n71 (l53, i56) out2 ∧ l53.length ≤ c55) (fun ⟨n71, l53, i56, A54, c55⟩ => n71) (n71', l1, 0, some ⟨g2, 0, none⟩, l1.length) ⟨hl2, (Nat.le_refl _)⟩ ⟨rfl, rfl, rfl, rfl, trivial⟩ (fun W h => h.phi (fun W hφ => hφ)) (fun ⟨n71, l53, i56, A54, c55⟩ u ⟨hlp, hc55⟩ => ?_)
  obtain ⟨o2, hm, hnx2⟩ := lp_step hlp
  clear hlp
  replace hm : m_plog_Data_s2 p0 l53 i56 = some o2 := hm
  unfold m_plog_Data_s2 at hm
  refine c_flat [(3, .slice A54 l53.length c55), (9, .slice Ap0_0 p0.length cp0_0), (10, .int .i64 (p0.length : Int)), (11, .int .i64 i56)] ⟨rfl, rfl, rfl, rfl, trivial⟩ (fun u => ?_)
  refine c_sta ⟨w0, M, H, (1, ⟨.slice A54 l53.length c55, 5, 1, l53.length, l53.flatMap (fun x : Int => [Value.int .u8 x])⟩) :: R, φ⟩ (fun _ h => h) ?_
  refine c_seq ?_
  refine c_region ?_
  refine g_v rfl (r_lss rfl rfl) ?_
  refine g_nil ?_
  refine d_then ?_
  refine c_seq ?_
  refine c_cond rfl (fun h72 => ?_) (fun h72 => ?_)
  ·
   replace hm := ite_t hm (of_decide_eq_true h72)
   refine c_skip ?_
   refine d_then ?_
   refine c_seq ?_
   refine c_block ?_
   refine c_seq ?_
   refine c_region ?_
   refine g_v rfl r_move ?_
   replace hm := bnd hm
   obtain ⟨x73, hx73, hm⟩ := hm
   refine g_know _ (fun W hS => cl_at (p := (Sta.mk w0 M H R φ).ok) (sz := 1) (fun _ => rfl) (by decide) (ok_pre (H1 := []) (R1 := [_]) hS (fun W h => h)) fp0_0 hx73) ?_
   rintro ⟨ad74, hA76, f75⟩
   refine g_v rfl (r_ix Try.underlying25 Try.sizeOf3 rfl hA76 rfl hx73) ?_
   refine g_v rfl (r_ld rfl Try.isAgg3 (fun W hS => Cl.head (f75 W (ok_pre (H1 := []) (R1 := [_]) hS (fun W h => h))))) ?_
   refine g_v rfl r_assign ?_
   refine g_v rfl r_assign ?_
   refine g_nil ?_
   refine d_then ?_
   refine c_region ?_
   refine g_v rfl r_move ?_
   refine g_v rfl r_move ?_
   refine g_v rfl r_move ?_
   refine g_v rfl (r_conv Try.underlying3 Try.underlying5 rfl rfl) ?_
   replace hm := bnd hm
   obtain ⟨x77, hx77, hm⟩ := hm
   refine g_know _ (fun W hS => cl_at (p := (Sta.ok ⟨w0, M, H, (1, ⟨.slice A54 l53.length c55, 5, 1, l53.length, l53.flatMap (fun x : Int => [Value.int .u8 x])⟩) :: R, φ⟩)) (sz := 1) (fun _ => rfl) (by decide) hS (fun W hS => rowCl (S := ⟨w0, M, H, (1, ⟨.slice A54 l53.length c55, 5, 1, l53.length, l53.flatMap (fun x : Int => [Value.int .u8 x])⟩) :: R, φ⟩) (tag := 1) rfl W hS) hx77) ?_
   rintro ⟨ad78, hA80, f79⟩
   refine g_v rfl (r_ix Try.underlying56 Try.sizeOf5 rfl hA80 rfl hx77) ?_
   replace hm := bnd hm
   obtain ⟨l81, hl81, hm⟩ := hm
   refine g_stR (tag := 1) (enc := (fun x : Int => [Value.int .u8 x])) (l := l53) (off := 0) (vs := [.int .u8 (IntKind.u8.wrap x73)]) (add0 rfl) hA80 rfl rfl hx77 hl81 rfl (Nat.le_of_ble_eq_true rfl) (fun _ => rfl) rfl rfl Try.sizeOf5 ?_
   rw [show l53.length = l81.length from (setAt_lenE hl81).symm]
   refine g_nil ?_
   refine d_normal_block ?_
   refine d_then ?_
   refine c_flat [(3, .slice A54 l81.length c55), (9, .slice Ap0_0 p0.length cp0_0), (10, .int .i64 (p0.length : Int)), (11, .int .i64 i56)] ⟨rfl, rfl, rfl, rfl, trivial⟩ (fun u => ?_)
   refine c_sta ⟨w0, M, H, (1, ⟨.slice A54 l81.length c55, 5, 1, l81.length, l81.flatMap (fun x : Int => [Value.int .u8 x])⟩) :: R, φ⟩ (fun _ h => h) ?_
   refine c_region ?_
   refine g_v rfl (r_add rfl rfl rfl) ?_
   refine g_v rfl r_move ?_
   refine g_nil ?_
   obtain ⟨n82, hn82, hlp⟩ := nx_inl hm hnx2
   exact d_round (n82, l81, w64 (i56 + 1), A54, c55) ⟨hlp, (setAt_len hc55 hl81)⟩ hn82 ⟨rfl, rfl, rfl, rfl, trivial⟩ (fun W h => h.phi (fun W hφ => hφ))
  ·
   replace hm := ite_f hm (of_decide_eq_false h72)
   refine c_exit ?_
   refine d_exit_then ?_
   refine d_exit_then ?_
   refine d_exit_block ?_
   replace hm := nx_out (C := (fun e => m_plog_Data_j1 e = some r)) hm hnx2 hr2
   exact d_round (l53, A54, c55) ⟨hm, hc55⟩ Nat.zero_lt_one ⟨rfl, trivial⟩ (fun W h => h.phi (fun W hφ => hφ))
 ·
  unfold m_plog_Data_j1 at hm
  refine d_flat [(3, .slice A37 l36.length c38)] ⟨rfl, trivial⟩ (fun u => ?_)
  refine d_sta ⟨w0, M, H, (1, ⟨.slice A37 l36.length c38, 5, 1, l36.length, l36.flatMap (fun x : Int => [Value.int .u8 x])⟩) :: R, φ⟩ (fun _ h => h) ?_
  refine d_then ?_
  refine c_seq ?_
  refine c_region ?_
  refine g_v rfl r_move ?_
  refine g_v rfl (r_textE Try.underlying56 Try.underlying5 Try.underlying9 rfl (fun W hS => rowCl (tag := 1) rfl W hS)) ?_
  refine g_v rfl r_assign ?_
  refine g_nil ?_
  refine d_then ?_
  refine c_ret ?_
  replace hm := Option.some.inj hm
  subst hm
  refine d_retC () Try.results15 ?_ trivial (fun W h => ok_pre (H1 := []) (R1 := [_]) h (fun W hφ => hφ)) (.inr rfl)
  refine res_tmp ?_
  refine res_nil ?_
  exact rfl

noncomputable def m_law11_awake  : Option Bool :=
  (m_law11_example).bind fun x1 =>
  (m_plog_Term x1 2).bind fun (z11 : Int × Bool) =>
  (m_plog_Term x1 4).bind fun (z15 : Int × Bool) =>
  (m_plog_Term x1 5).bind fun (z19 : Int × Bool) =>
  (m_plog_Put x1 3 ([(⟨3, 0, (⟨#[]⟩ : ByteArray)⟩ : GEntry)])).bind fun (z30 : GLog × Int) =>
  (m_plog_Put x1 3 ([(⟨2, 0, (⟨#[]⟩ : ByteArray)⟩ : GEntry), (⟨2, 0, (⟨#[]⟩ : ByteArray)⟩ : GEntry)])).bind fun (z42 : GLog × Int) =>
  (m_plog_Last x1).bind fun x44 =>
  if x44 = 4 then
    if z11.1 = 1 then
      if z11.2 = true then
        if z15.1 = 2 then
          if z15.2 = true then
            if z19.2 = true then
              some false
            else
              if z30.2 = 4 then
                if (z30.1.fEntries.length : Int) = 2 then
                  if z42.2 = 5 then
                    if (z42.1.fEntries.length : Int) = 3 then
                      (m_plog_Newer x1 4 2).bind fun x56 =>
                      if x56 = true then
                        (m_plog_Newer x1 3 2).bind fun x59 =>
                        if x59 = true then
                          some false
                        else
                          (m_plog_Newer x1 1 3).bind fun x62 =>
                          if x62 = true then
                            (m_plog_Data [1, 5]).bind fun x66 =>
                            some (decide (x66 = (⟨#[1, 5]⟩ : ByteArray)))
                          else
                            some false
                      else
                        some false
                    else
                      some false
                  else
                    some false
                else
                  some false
              else
                some false
          else
            some false
        else
          some false
      else
        some false
    else
      some false
  else
    some false
theorem c_law11_awake {w0 : World} {M : Nat → Prop} {H : List (Nat × Nat × Obj)} {R : List (Nat × Row)} {φ : World → Prop}  (r : Bool) (hm : m_law11_awake = some r) :
    Cn Try.prog 4 #[] ⟨w0, M, H, R, φ⟩ (fun x : Unit => .bool r) (fun x => True) (fun x => ⟨w0, M, H, R, φ⟩) := by
 unfold m_law11_awake at hm
 refine cn_intro (fn := Try.f4) (N := 102) Try.func4 rfl Try.ntmps4 rfl ?_
 refine c_seq ?_
 refine c_region ?_
 refine g_v rfl r_assign ?_
 refine g_nil ?_
 refine d_then ?_
 refine c_seq ?_
 refine c_region ?_
 replace hm := bnd hm
 obtain ⟨x1, hx2, hm⟩ := hm
 refine g_cn ⟨w0, M, _, _, φ⟩ (fun _ h => h) Try.call10 rfl rfl (c_law11_example  _ hx2) (fun ⟨A3, c4⟩ hc4 => ?_)
 refine g_abs (fun φ6 q6' => ?_)
 have q6 : ∀ W, φ6 W → φ W := fun W h => (q6' W h).1
 have f5 := fun (W : World) (h : φ6 W) => (q6' W h).2
 refine g_e rfl (e_alloc 100010 Try.zeroValue28) (fun g7 _ => ?_)
 refine g_storeL (tag := 100010) rfl rfl rfl rfl Try.sizeOf28 rfl rfl ?_
 refine g_nil ?_
 refine d_then ?_
 refine c_seq ?_
 refine c_region ?_
 refine g_v rfl (r_loadA (tag := 100010) rfl rfl Try.isAgg28 Try.sizeOf28 rfl rfl) ?_
 replace hm := bnd hm
 obtain ⟨⟨x8, x9⟩, hx10, hm⟩ := hm
 refine g_cn ⟨w0, M, _, _, φ6⟩ (fun _ h => h) Try.call11 rfl rfl (c_plog_Term x1 A3 c4 hc4 (fun W hS => f5 W hS.now) 2 _ hx10) (fun _ _ => ?_)
 refine g_v rfl r_move ?_
 refine g_v rfl (r_extract rfl rfl) ?_
 refine g_v rfl (r_extract rfl rfl) ?_
 refine g_v rfl r_assign ?_
 refine g_v rfl r_assign ?_
 refine g_nil ?_
 refine d_then ?_
 refine c_flat [(1, .pointer (some ⟨g7, 0, none⟩)), (2, .int .i64 x8), (3, .bool x9)] ⟨rfl, rfl, rfl, trivial⟩ (fun u => ?_)
 refine c_sta ⟨w0, M, (100010, g7, .cells #[.int .i64 x1.fBase, .int .i64 x1.fBaseTerm, .slice A3 x1.fEntries.length c4] 28 (0, 0)) :: H, R, φ6⟩ (fun _ h => h) ?_
 refine c_seq ?_
 refine c_region ?_
 refine g_v rfl (r_loadA (tag := 100010) rfl rfl Try.isAgg28 Try.sizeOf28 rfl rfl) ?_
 replace hm := bnd hm
 obtain ⟨⟨x12, x13⟩, hx14, hm⟩ := hm
 refine g_cn ⟨w0, M, _, _, φ6⟩ (fun _ h => h) Try.call11 rfl rfl (c_plog_Term x1 A3 c4 hc4 (fun W hS => f5 W hS.now) 4 _ hx14) (fun _ _ => ?_)
 refine g_v rfl r_move ?_
 refine g_v rfl (r_extract rfl rfl) ?_
 refine g_v rfl (r_extract rfl rfl) ?_
 refine g_v rfl r_assign ?_
 refine g_v rfl r_assign ?_
 refine g_nil ?_
 refine d_then ?_
 refine c_seq ?_
 refine c_region ?_
 refine g_v rfl (r_loadA (tag := 100010) rfl rfl Try.isAgg28 Try.sizeOf28 rfl rfl) ?_
 replace hm := bnd hm
 obtain ⟨⟨x16, x17⟩, hx18, hm⟩ := hm
 refine g_cn ⟨w0, M, _, _, φ6⟩ (fun _ h => h) Try.call11 rfl rfl (c_plog_Term x1 A3 c4 hc4 (fun W hS => f5 W hS.now) 5 _ hx18) (fun _ _ => ?_)
 refine g_v rfl r_move ?_
 refine g_v rfl (r_extract rfl rfl) ?_
 refine g_v rfl (r_extract rfl rfl) ?_
 refine g_v rfl r_assign ?_
 refine g_v rfl r_assign ?_
 refine g_nil ?_
 refine d_then ?_
 refine c_flat [(1, .pointer (some ⟨g7, 0, none⟩)), (2, .int .i64 x8), (3, .bool x9), (4, .int .i64 x12), (5, .bool x13), (7, .bool x17)] ⟨rfl, rfl, rfl, rfl, rfl, rfl, trivial⟩ (fun u => ?_)
 refine c_sta ⟨w0, M, (100010, g7, .cells #[.int .i64 x1.fBase, .int .i64 x1.fBaseTerm, .slice A3 x1.fEntries.length c4] 28 (0, 0)) :: H, R, φ6⟩ (fun _ h => h) ?_
 refine c_seq ?_
 refine c_region ?_
 refine g_v rfl (r_loadA (tag := 100010) rfl rfl Try.isAgg28 Try.sizeOf28 rfl rfl) ?_
 refine g_v rfl (r_build _ rfl (bld46_0 _)) ?_
 refine g_e rfl (e_lit (tag := 100310) (l := [(⟨3, 0, (⟨#[]⟩ : ByteArray)⟩ : GEntry)]) (enc := GEntry.enc) (sz := 3) rfl Try.underlying26 (lit46_4 _ _ _) rfl rfl (fun _ => rfl)) (fun g20 _ => ?_)
 refine g_shut (tag := 100310) rfl (fun φ21 q21' => ?_)
 have q21 : ∀ W, φ21 W → φ6 W := fun W h => (q21' W h).1
 have f22 := fun (W : World) (h : φ21 W) => (q21' W h).2
 replace hm := bnd hm
 obtain ⟨⟨x23, x24⟩, hx25, hm⟩ := hm
 refine g_cn ⟨w0, M, _, _, φ21⟩ (fun _ h => h) Try.call12 rfl rfl (c_plog_Put x1 A3 c4 hc4 (fun W h => f5 W (q21 _ h)) 3 ([(⟨3, 0, (⟨#[]⟩ : ByteArray)⟩ : GEntry)]) (some ⟨g20, 0, none⟩) 1 (Nat.le_refl _) (fun W h => f22 W h) _ hx25) (fun ⟨A26, c27⟩ hc27 => ?_)
 refine g_abs (fun φ29 q29' => ?_)
 have q29 : ∀ W, φ29 W → φ21 W := fun W h => (q29' W h).1
 have f28 := fun (W : World) (h : φ29 W) => (q29' W h).2
 refine g_v rfl r_move ?_
 refine g_v rfl (r_extract rfl rfl) ?_
 refine g_v rfl (r_extract rfl rfl) ?_
 refine g_e rfl (e_alloc 100080 Try.zeroValue28) (fun g31 _ => ?_)
 refine g_storeL (tag := 100080) rfl rfl rfl rfl Try.sizeOf28 rfl rfl ?_
 refine g_v rfl r_assign ?_
 refine g_nil ?_
 refine d_then ?_
 refine c_flat [(1, .pointer (some ⟨g7, 0, none⟩)), (2, .int .i64 x8), (3, .bool x9), (4, .int .i64 x12), (5, .bool x13), (7, .bool x17), (8, .pointer (some ⟨g31, 0, none⟩)), (9, .int .i64 x24)] ⟨rfl, rfl, rfl, rfl, rfl, rfl, rfl, rfl, trivial⟩ (fun u => ?_)
 refine c_sta ⟨w0, M, (100080, g31, .cells #[.int .i64 x23.fBase, .int .i64 x23.fBaseTerm, .slice A26 x23.fEntries.length c27] 28 (0, 0)) :: (100010, g7, .cells #[.int .i64 x1.fBase, .int .i64 x1.fBaseTerm, .slice A3 x1.fEntries.length c4] 28 (0, 0)) :: H, R, φ29⟩ (fun _ h => h) ?_
 refine c_seq ?_
 refine c_region ?_
 refine g_v rfl (r_loadA (tag := 100010) rfl rfl Try.isAgg28 Try.sizeOf28 rfl rfl) ?_
 refine g_v rfl (r_build _ rfl (bld46_0 _)) ?_
 refine g_v rfl (r_build _ rfl (bld46_0 _)) ?_
 refine g_e rfl (e_lit (tag := 100390) (l := [(⟨2, 0, (⟨#[]⟩ : ByteArray)⟩ : GEntry), (⟨2, 0, (⟨#[]⟩ : ByteArray)⟩ : GEntry)]) (enc := GEntry.enc) (sz := 3) rfl Try.underlying26 (lit46_1 _ _ _ _ _ _) rfl rfl (fun _ => rfl)) (fun g32 _ => ?_)
 refine g_shut (tag := 100390) rfl (fun φ33 q33' => ?_)
 have q33 : ∀ W, φ33 W → φ29 W := fun W h => (q33' W h).1
 have f34 := fun (W : World) (h : φ33 W) => (q33' W h).2
 replace hm := bnd hm
 obtain ⟨⟨x35, x36⟩, hx37, hm⟩ := hm
 refine g_cn ⟨w0, M, _, _, φ33⟩ (fun _ h => h) Try.call12 rfl rfl (c_plog_Put x1 A3 c4 hc4 (fun W h => f5 W (q21 _ (q29 _ (q33 _ h)))) 3 ([(⟨2, 0, (⟨#[]⟩ : ByteArray)⟩ : GEntry), (⟨2, 0, (⟨#[]⟩ : ByteArray)⟩ : GEntry)]) (some ⟨g32, 0, none⟩) 2 (Nat.le_refl _) (fun W h => f34 W h) _ hx37) (fun ⟨A38, c39⟩ hc39 => ?_)
 refine g_abs (fun φ41 q41' => ?_)
 have q41 : ∀ W, φ41 W → φ33 W := fun W h => (q41' W h).1
 have f40 := fun (W : World) (h : φ41 W) => (q41' W h).2
 refine g_v rfl r_move ?_
 refine g_v rfl (r_extract rfl rfl) ?_
 refine g_v rfl (r_extract rfl rfl) ?_
 refine g_e rfl (e_alloc 100100 Try.zeroValue28) (fun g43 _ => ?_)
 refine g_storeL (tag := 100100) rfl rfl rfl rfl Try.sizeOf28 rfl rfl ?_
 refine g_v rfl r_assign ?_
 refine g_nil ?_
 refine d_then ?_
 refine c_flat [(1, .pointer (some ⟨g7, 0, none⟩)), (2, .int .i64 x8), (3, .bool x9), (4, .int .i64 x12), (5, .bool x13), (7, .bool x17), (8, .pointer (some ⟨g31, 0, none⟩)), (9, .int .i64 x24), (10, .pointer (some ⟨g43, 0, none⟩)), (11, .int .i64 x36)] ⟨rfl, rfl, rfl, rfl, rfl, rfl, rfl, rfl, rfl, rfl, trivial⟩ (fun u => ?_)
 refine c_sta ⟨w0, M, (100100, g43, .cells #[.int .i64 x35.fBase, .int .i64 x35.fBaseTerm, .slice A38 x35.fEntries.length c39] 28 (0, 0)) :: (100080, g31, .cells #[.int .i64 x23.fBase, .int .i64 x23.fBaseTerm, .slice A26 x23.fEntries.length c27] 28 (0, 0)) :: (100010, g7, .cells #[.int .i64 x1.fBase, .int .i64 x1.fBaseTerm, .slice A3 x1.fEntries.length c4] 28 (0, 0)) :: H, R, φ41⟩ (fun _ h => h) ?_
 refine c_seq ?_
 refine c_region ?_
 refine g_v rfl (r_loadA (tag := 100010) rfl rfl Try.isAgg28 Try.sizeOf28 rfl rfl) ?_
 replace hm := bnd hm
 obtain ⟨x44, hx45, hm⟩ := hm
 refine g_cn ⟨w0, M, _, _, φ41⟩ (fun _ h => h) Try.call13 rfl rfl (c_plog_Last x1 A3 c4 hc4 (fun W hS => f5 W (q21 _ (q29 _ (q33 _ (q41 _ hS.now))))) _ hx45) (fun _ _ => ?_)
 refine g_v rfl (r_eql rfl rfl) ?_
 refine g_v rfl r_move ?_
 refine g_if rfl rfl rfl rfl rfl (fun h46 => ?_) (fun h46 => ?_)
 ·
  replace hm := ite_t hm (of_decide_eq_true h46)
  refine g_v rfl r_move ?_
  refine g_do rfl rfl rfl rfl rfl h46 ?_
  refine g_v rfl (r_eql rfl rfl) ?_
  refine g_v rfl (r_pick1 rfl h46) ?_
  refine g_v rfl r_move ?_
  refine g_if rfl rfl rfl rfl rfl (fun h47 => ?_) (fun h47 => ?_)
  ·
   replace hm := ite_t hm (of_decide_eq_true h47)
   refine g_v rfl r_move ?_
   refine g_v rfl (r_pick1 rfl h47) ?_
   refine g_v rfl r_move ?_
   refine g_if rfl rfl rfl rfl rfl (fun h48 => ?_) (fun h48 => ?_)
   ·
    replace hm := ite_t hm h48
    refine g_v rfl r_move ?_
    refine g_do rfl rfl rfl rfl rfl h48 ?_
    refine g_v rfl (r_eql rfl rfl) ?_
    refine g_v rfl (r_pick1 rfl h48) ?_
    refine g_v rfl r_move ?_
    refine g_if rfl rfl rfl rfl rfl (fun h49 => ?_) (fun h49 => ?_)
    ·
     replace hm := ite_t hm (of_decide_eq_true h49)
     refine g_v rfl r_move ?_
     refine g_v rfl (r_pick1 rfl h49) ?_
     refine g_v rfl r_move ?_
     refine g_if rfl rfl rfl rfl rfl (fun h50 => ?_) (fun h50 => ?_)
     ·
      replace hm := ite_t hm h50
      refine g_v rfl r_move ?_
      refine g_do rfl rfl rfl rfl rfl h50 ?_
      refine g_v rfl (r_not rfl) ?_
      refine g_v rfl (r_pick1 rfl h50) ?_
      refine g_v rfl r_move ?_
      refine g_if rfl rfl rfl rfl rfl (fun h51 => ?_) (fun h51 => ?_)
      ·
       have h51' : x17 = false := by revert h51; cases x17 <;> simp
       replace hm := ite_f hm (bool_nt h51')
       refine g_v rfl r_move ?_
       refine g_do rfl rfl rfl rfl rfl h51 ?_
       refine g_v rfl (r_eql rfl rfl) ?_
       refine g_v rfl (r_pick1 rfl h51) ?_
       refine g_v rfl r_move ?_
       refine g_if rfl rfl rfl rfl rfl (fun h52 => ?_) (fun h52 => ?_)
       ·
        replace hm := ite_t hm (of_decide_eq_true h52)
        refine g_v rfl (r_field (n := 2) Try.underlying28 rfl Try.sizeOf26 rfl rfl) ?_
        refine g_do rfl rfl rfl rfl rfl h52 ?_
        refine g_v rfl (r_load (tag := 100080) rfl rfl rfl Try.isAgg26) ?_
        refine g_do rfl rfl rfl rfl rfl h52 ?_
        refine g_v rfl (r_lenL Try.underlying26 rfl) ?_
        refine g_do rfl rfl rfl rfl rfl h52 ?_
        refine g_v rfl (r_eql rfl rfl) ?_
        refine g_v rfl (r_pick1 rfl h52) ?_
        refine g_v rfl r_move ?_
        refine g_if rfl rfl rfl rfl rfl (fun h53 => ?_) (fun h53 => ?_)
        ·
         replace hm := ite_t hm (of_decide_eq_true h53)
         refine g_v rfl r_move ?_
         refine g_do rfl rfl rfl rfl rfl h53 ?_
         refine g_v rfl (r_eql rfl rfl) ?_
         refine g_v rfl (r_pick1 rfl h53) ?_
         refine g_v rfl r_move ?_
         refine g_if rfl rfl rfl rfl rfl (fun h54 => ?_) (fun h54 => ?_)
         ·
          replace hm := ite_t hm (of_decide_eq_true h54)
          refine g_v rfl (r_field (n := 2) Try.underlying28 rfl Try.sizeOf26 rfl rfl) ?_
          refine g_do rfl rfl rfl rfl rfl h54 ?_
          refine g_v rfl (r_load (tag := 100100) rfl rfl rfl Try.isAgg26) ?_
          refine g_do rfl rfl rfl rfl rfl h54 ?_
          refine g_v rfl (r_lenL Try.underlying26 rfl) ?_
          refine g_do rfl rfl rfl rfl rfl h54 ?_
          refine g_v rfl (r_eql rfl rfl) ?_
          refine g_v rfl (r_pick1 rfl h54) ?_
          refine g_v rfl r_move ?_
          refine g_if rfl rfl rfl rfl rfl (fun h55 => ?_) (fun h55 => ?_)
          ·
           replace hm := ite_t hm (of_decide_eq_true h55)
           refine g_v rfl (r_loadA (tag := 100010) rfl rfl Try.isAgg28 Try.sizeOf28 rfl rfl) ?_
           refine g_do rfl rfl rfl rfl rfl h55 ?_
           replace hm := bnd hm
           obtain ⟨x56, hx57, hm⟩ := hm
           refine g_cn ⟨w0, M, _, _, φ41⟩ (fun _ h => h) Try.call14 rfl rfl (c_plog_Newer x1 A3 c4 hc4 (fun W hS => f5 W (q21 _ (q29 _ (q33 _ (q41 _ hS.now))))) 4 2 _ hx57) (fun _ _ => ?_)
           refine g_v rfl (r_pick1 rfl h55) ?_
           refine g_v rfl r_move ?_
           refine g_if rfl rfl rfl rfl rfl (fun h58 => ?_) (fun h58 => ?_)
           ·
            replace hm := ite_t hm h58
            refine g_v rfl (r_loadA (tag := 100010) rfl rfl Try.isAgg28 Try.sizeOf28 rfl rfl) ?_
            refine g_do rfl rfl rfl rfl rfl h58 ?_
            replace hm := bnd hm
            obtain ⟨x59, hx60, hm⟩ := hm
            refine g_cn ⟨w0, M, _, _, φ41⟩ (fun _ h => h) Try.call14 rfl rfl (c_plog_Newer x1 A3 c4 hc4 (fun W hS => f5 W (q21 _ (q29 _ (q33 _ (q41 _ hS.now))))) 3 2 _ hx60) (fun _ _ => ?_)
            refine g_do rfl rfl rfl rfl rfl h58 ?_
            refine g_v rfl (r_not rfl) ?_
            refine g_v rfl (r_pick1 rfl h58) ?_
            refine g_v rfl r_move ?_
            refine g_if rfl rfl rfl rfl rfl (fun h61 => ?_) (fun h61 => ?_)
            ·
             have h61' : x59 = false := by revert h61; cases x59 <;> simp
             replace hm := ite_f hm (bool_nt h61')
             refine g_v rfl (r_loadA (tag := 100010) rfl rfl Try.isAgg28 Try.sizeOf28 rfl rfl) ?_
             refine g_do rfl rfl rfl rfl rfl h61 ?_
             replace hm := bnd hm
             obtain ⟨x62, hx63, hm⟩ := hm
             refine g_cn ⟨w0, M, _, _, φ41⟩ (fun _ h => h) Try.call14 rfl rfl (c_plog_Newer x1 A3 c4 hc4 (fun W hS => f5 W (q21 _ (q29 _ (q33 _ (q41 _ hS.now))))) 1 3 _ hx63) (fun _ _ => ?_)
             refine g_v rfl (r_pick1 rfl h61) ?_
             refine g_v rfl r_move ?_
             refine g_if rfl rfl rfl rfl rfl (fun h64 => ?_) (fun h64 => ?_)
             ·
              replace hm := ite_t hm h64
              refine g_e rfl (e_lit (tag := 100980) (l := [1, 5]) (enc := (fun x : Int => [Value.int .i64 x])) (sz := 1) rfl Try.underlying25 (lit3_6 _ _) rfl rfl (fun _ => rfl)) (fun g65 _ => ?_)
              refine g_do rfl rfl rfl rfl rfl h64 ?_
              replace hm := bnd hm
              obtain ⟨x66, hx67, hm⟩ := hm
              refine g_cn ⟨w0, M, _, _, φ41⟩ (fun _ h => h) Try.call15 rfl rfl (c_plog_Data [1, 5] (some ⟨g65, 0, none⟩) 2 (Nat.le_refl _) (fun W hS => rowCl (tag := 100980) rfl W hS) _ hx67) (fun _ _ => ?_)
              refine g_do rfl rfl rfl rfl rfl h64 ?_
              refine g_v rfl (r_eqlT rfl rfl) ?_
              refine g_v rfl (r_pick1 rfl h64) ?_
              refine g_v rfl r_assign ?_
              refine g_nil ?_
              refine d_then ?_
              refine c_flat [(0, .bool (decide (x66 = (⟨#[1, 5]⟩ : ByteArray))))] ⟨rfl, trivial⟩ (fun u => ?_)
              refine c_sta ⟨w0, M, (100100, g43, .cells #[.int .i64 x35.fBase, .int .i64 x35.fBaseTerm, .slice A38 x35.fEntries.length c39] 28 (0, 0)) :: (100080, g31, .cells #[.int .i64 x23.fBase, .int .i64 x23.fBaseTerm, .slice A26 x23.fEntries.length c27] 28 (0, 0)) :: (100010, g7, .cells #[.int .i64 x1.fBase, .int .i64 x1.fBaseTerm, .slice A3 x1.fEntries.length c4] 28 (0, 0)) :: H, (100980, ⟨.slice (some ⟨g65, 0, none⟩) [1, 5].length 2, 3, 1, [1, 5].length, [1, 5].flatMap (fun x : Int => [Value.int .i64 x])⟩) :: R, φ41⟩ (fun _ h => h) ?_
              refine c_ret ?_
              replace hm := Option.some.inj hm
              subst hm
              refine d_retC () Try.results4 ?_ trivial (fun W h => ok_pre (H1 := [_, _, _]) (R1 := [_]) h (fun W hφ => (q6 _ (q21 _ (q29 _ (q33 _ (q41 _ hφ))))))) (.inr rfl)
              refine res_tmp ?_
              refine res_nil ?_
              exact rfl
             ·
              replace hm := ite_f hm (bool_nt h64)
              refine g_no rfl rfl rfl rfl rfl h64 ?_
              refine g_no rfl rfl rfl rfl rfl h64 ?_
              refine g_v rfl (r_pick0 rfl h64) ?_
              refine g_v rfl r_assign ?_
              refine g_nil ?_
              refine d_then ?_
              refine c_flat [(0, .bool false)] ⟨rfl, trivial⟩ (fun u => ?_)
              refine c_sta ⟨w0, M, (100100, g43, .cells #[.int .i64 x35.fBase, .int .i64 x35.fBaseTerm, .slice A38 x35.fEntries.length c39] 28 (0, 0)) :: (100080, g31, .cells #[.int .i64 x23.fBase, .int .i64 x23.fBaseTerm, .slice A26 x23.fEntries.length c27] 28 (0, 0)) :: (100010, g7, .cells #[.int .i64 x1.fBase, .int .i64 x1.fBaseTerm, .slice A3 x1.fEntries.length c4] 28 (0, 0)) :: H, R, φ41⟩ (fun _ h => h) ?_
              refine c_ret ?_
              replace hm := Option.some.inj hm
              subst hm
              refine d_retC () Try.results4 ?_ trivial (fun W h => ok_pre (H1 := [_, _, _]) (R1 := []) h (fun W hφ => (q6 _ (q21 _ (q29 _ (q33 _ (q41 _ hφ))))))) (.inr rfl)
              refine res_tmp ?_
              refine res_nil ?_
              exact rfl
            ·
             have h61' : x59 = true := by revert h61; cases x59 <;> simp
             replace hm := ite_t hm h61'
             refine g_no rfl rfl rfl rfl rfl h61 ?_
             refine g_v rfl (r_pick0 rfl h61) ?_
             refine g_v rfl r_move ?_
             refine g_no rfl rfl rfl rfl rfl rfl ?_
             refine g_no rfl rfl rfl rfl rfl rfl ?_
             refine g_no rfl rfl rfl rfl rfl rfl ?_
             refine g_v rfl (r_pick0 rfl rfl) ?_
             refine g_v rfl r_assign ?_
             refine g_nil ?_
             refine d_then ?_
             refine c_flat [(0, .bool false)] ⟨rfl, trivial⟩ (fun u => ?_)
             refine c_sta ⟨w0, M, (100100, g43, .cells #[.int .i64 x35.fBase, .int .i64 x35.fBaseTerm, .slice A38 x35.fEntries.length c39] 28 (0, 0)) :: (100080, g31, .cells #[.int .i64 x23.fBase, .int .i64 x23.fBaseTerm, .slice A26 x23.fEntries.length c27] 28 (0, 0)) :: (100010, g7, .cells #[.int .i64 x1.fBase, .int .i64 x1.fBaseTerm, .slice A3 x1.fEntries.length c4] 28 (0, 0)) :: H, R, φ41⟩ (fun _ h => h) ?_
             refine c_ret ?_
             replace hm := Option.some.inj hm
             subst hm
             refine d_retC () Try.results4 ?_ trivial (fun W h => ok_pre (H1 := [_, _, _]) (R1 := []) h (fun W hφ => (q6 _ (q21 _ (q29 _ (q33 _ (q41 _ hφ))))))) (.inr rfl)
             refine res_tmp ?_
             refine res_nil ?_
             exact rfl
           ·
            replace hm := ite_f hm (bool_nt h58)
            refine g_no rfl rfl rfl rfl rfl h58 ?_
            refine g_no rfl rfl rfl rfl rfl h58 ?_
            refine g_v rfl (r_pick0 rfl h58) ?_
            refine g_v rfl r_move ?_
            refine g_no rfl rfl rfl rfl rfl rfl ?_
            refine g_no rfl rfl rfl rfl rfl rfl ?_
            refine g_v rfl (r_pick0 rfl rfl) ?_
            refine g_v rfl r_move ?_
            refine g_no rfl rfl rfl rfl rfl rfl ?_
            refine g_no rfl rfl rfl rfl rfl rfl ?_
            refine g_no rfl rfl rfl rfl rfl rfl ?_
            refine g_v rfl (r_pick0 rfl rfl) ?_
            refine g_v rfl r_assign ?_
            refine g_nil ?_
            refine d_then ?_
            refine c_flat [(0, .bool false)] ⟨rfl, trivial⟩ (fun u => ?_)
            refine c_sta ⟨w0, M, (100100, g43, .cells #[.int .i64 x35.fBase, .int .i64 x35.fBaseTerm, .slice A38 x35.fEntries.length c39] 28 (0, 0)) :: (100080, g31, .cells #[.int .i64 x23.fBase, .int .i64 x23.fBaseTerm, .slice A26 x23.fEntries.length c27] 28 (0, 0)) :: (100010, g7, .cells #[.int .i64 x1.fBase, .int .i64 x1.fBaseTerm, .slice A3 x1.fEntries.length c4] 28 (0, 0)) :: H, R, φ41⟩ (fun _ h => h) ?_
            refine c_ret ?_
            replace hm := Option.some.inj hm
            subst hm
            refine d_retC () Try.results4 ?_ trivial (fun W h => ok_pre (H1 := [_, _, _]) (R1 := []) h (fun W hφ => (q6 _ (q21 _ (q29 _ (q33 _ (q41 _ hφ))))))) (.inr rfl)
            refine res_tmp ?_
            refine res_nil ?_
            exact rfl
          ·
           replace hm := ite_f hm (of_decide_eq_false h55)
           refine g_no rfl rfl rfl rfl rfl h55 ?_
           refine g_v rfl (r_pick0 rfl h55) ?_
           refine g_v rfl r_move ?_
           refine g_no rfl rfl rfl rfl rfl rfl ?_
           refine g_no rfl rfl rfl rfl rfl rfl ?_
           refine g_no rfl rfl rfl rfl rfl rfl ?_
           refine g_v rfl (r_pick0 rfl rfl) ?_
           refine g_v rfl r_move ?_
           refine g_no rfl rfl rfl rfl rfl rfl ?_
           refine g_no rfl rfl rfl rfl rfl rfl ?_
           refine g_v rfl (r_pick0 rfl rfl) ?_
           refine g_v rfl r_move ?_
           refine g_no rfl rfl rfl rfl rfl rfl ?_
           refine g_no rfl rfl rfl rfl rfl rfl ?_
           refine g_no rfl rfl rfl rfl rfl rfl ?_
           refine g_v rfl (r_pick0 rfl rfl) ?_
           refine g_v rfl r_assign ?_
           refine g_nil ?_
           refine d_then ?_
           refine c_flat [(0, .bool false)] ⟨rfl, trivial⟩ (fun u => ?_)
           refine c_sta ⟨w0, M, (100100, g43, .cells #[.int .i64 x35.fBase, .int .i64 x35.fBaseTerm, .slice A38 x35.fEntries.length c39] 28 (0, 0)) :: (100080, g31, .cells #[.int .i64 x23.fBase, .int .i64 x23.fBaseTerm, .slice A26 x23.fEntries.length c27] 28 (0, 0)) :: (100010, g7, .cells #[.int .i64 x1.fBase, .int .i64 x1.fBaseTerm, .slice A3 x1.fEntries.length c4] 28 (0, 0)) :: H, R, φ41⟩ (fun _ h => h) ?_
           refine c_ret ?_
           replace hm := Option.some.inj hm
           subst hm
           refine d_retC () Try.results4 ?_ trivial (fun W h => ok_pre (H1 := [_, _, _]) (R1 := []) h (fun W hφ => (q6 _ (q21 _ (q29 _ (q33 _ (q41 _ hφ))))))) (.inr rfl)
           refine res_tmp ?_
           refine res_nil ?_
           exact rfl
         ·
          replace hm := ite_f hm (of_decide_eq_false h54)
          refine g_no rfl rfl rfl rfl rfl h54 ?_
          refine g_no rfl rfl rfl rfl rfl h54 ?_
          refine g_no rfl rfl rfl rfl rfl h54 ?_
          refine g_v rfl (r_pick0 rfl h54) ?_
          refine g_v rfl r_move ?_
          refine g_no rfl rfl rfl rfl rfl rfl ?_
          refine g_no rfl rfl rfl rfl rfl rfl ?_
          refine g_v rfl (r_pick0 rfl rfl) ?_
          refine g_v rfl r_move ?_
          refine g_no rfl rfl rfl rfl rfl rfl ?_
          refine g_no rfl rfl rfl rfl rfl rfl ?_
          refine g_no rfl rfl rfl rfl rfl rfl ?_
          refine g_v rfl (r_pick0 rfl rfl) ?_
          refine g_v rfl r_move ?_
          refine g_no rfl rfl rfl rfl rfl rfl ?_
          refine g_no rfl rfl rfl rfl rfl rfl ?_
          refine g_v rfl (r_pick0 rfl rfl) ?_
          refine g_v rfl r_move ?_
          refine g_no rfl rfl rfl rfl rfl rfl ?_
          refine g_no rfl rfl rfl rfl rfl rfl ?_
          refine g_no rfl rfl rfl rfl rfl rfl ?_
          refine g_v rfl (r_pick0 rfl rfl) ?_
          refine g_v rfl r_assign ?_
          refine g_nil ?_
          refine d_then ?_
          refine c_flat [(0, .bool false)] ⟨rfl, trivial⟩ (fun u => ?_)
          refine c_sta ⟨w0, M, (100100, g43, .cells #[.int .i64 x35.fBase, .int .i64 x35.fBaseTerm, .slice A38 x35.fEntries.length c39] 28 (0, 0)) :: (100080, g31, .cells #[.int .i64 x23.fBase, .int .i64 x23.fBaseTerm, .slice A26 x23.fEntries.length c27] 28 (0, 0)) :: (100010, g7, .cells #[.int .i64 x1.fBase, .int .i64 x1.fBaseTerm, .slice A3 x1.fEntries.length c4] 28 (0, 0)) :: H, R, φ41⟩ (fun _ h => h) ?_
          refine c_ret ?_
          replace hm := Option.some.inj hm
          subst hm
          refine d_retC () Try.results4 ?_ trivial (fun W h => ok_pre (H1 := [_, _, _]) (R1 := []) h (fun W hφ => (q6 _ (q21 _ (q29 _ (q33 _ (q41 _ hφ))))))) (.inr rfl)
          refine res_tmp ?_
          refine res_nil ?_
          exact rfl
        ·
         replace hm := ite_f hm (of_decide_eq_false h53)
         refine g_no rfl rfl rfl rfl rfl h53 ?_
         refine g_v rfl (r_pick0 rfl h53) ?_
         refine g_v rfl r_move ?_
         refine g_no rfl rfl rfl rfl rfl rfl ?_
         refine g_no rfl rfl rfl rfl rfl rfl ?_
         refine g_no rfl rfl rfl rfl rfl rfl ?_
         refine g_no rfl rfl rfl rfl rfl rfl ?_
         refine g_v rfl (r_pick0 rfl rfl) ?_
         refine g_v rfl r_move ?_
         refine g_no rfl rfl rfl rfl rfl rfl ?_
         refine g_no rfl rfl rfl rfl rfl rfl ?_
         refine g_v rfl (r_pick0 rfl rfl) ?_
         refine g_v rfl r_move ?_
         refine g_no rfl rfl rfl rfl rfl rfl ?_
         refine g_no rfl rfl rfl rfl rfl rfl ?_
         refine g_no rfl rfl rfl rfl rfl rfl ?_
         refine g_v rfl (r_pick0 rfl rfl) ?_
         refine g_v rfl r_move ?_
         refine g_no rfl rfl rfl rfl rfl rfl ?_
         refine g_no rfl rfl rfl rfl rfl rfl ?_
         refine g_v rfl (r_pick0 rfl rfl) ?_
         refine g_v rfl r_move ?_
         refine g_no rfl rfl rfl rfl rfl rfl ?_
         refine g_no rfl rfl rfl rfl rfl rfl ?_
         refine g_no rfl rfl rfl rfl rfl rfl ?_
         refine g_v rfl (r_pick0 rfl rfl) ?_
         refine g_v rfl r_assign ?_
         refine g_nil ?_
         refine d_then ?_
         refine c_flat [(0, .bool false)] ⟨rfl, trivial⟩ (fun u => ?_)
         refine c_sta ⟨w0, M, (100100, g43, .cells #[.int .i64 x35.fBase, .int .i64 x35.fBaseTerm, .slice A38 x35.fEntries.length c39] 28 (0, 0)) :: (100080, g31, .cells #[.int .i64 x23.fBase, .int .i64 x23.fBaseTerm, .slice A26 x23.fEntries.length c27] 28 (0, 0)) :: (100010, g7, .cells #[.int .i64 x1.fBase, .int .i64 x1.fBaseTerm, .slice A3 x1.fEntries.length c4] 28 (0, 0)) :: H, R, φ41⟩ (fun _ h => h) ?_
         refine c_ret ?_
         replace hm := Option.some.inj hm
         subst hm
         refine d_retC () Try.results4 ?_ trivial (fun W h => ok_pre (H1 := [_, _, _]) (R1 := []) h (fun W hφ => (q6 _ (q21 _ (q29 _ (q33 _ (q41 _ hφ))))))) (.inr rfl)
         refine res_tmp ?_
         refine res_nil ?_
         exact rfl
       ·
        replace hm := ite_f hm (of_decide_eq_false h52)
        refine g_no rfl rfl rfl rfl rfl h52 ?_
        refine g_no rfl rfl rfl rfl rfl h52 ?_
        refine g_no rfl rfl rfl rfl rfl h52 ?_
        refine g_v rfl (r_pick0 rfl h52) ?_
        refine g_v rfl r_move ?_
        refine g_no rfl rfl rfl rfl rfl rfl ?_
        refine g_no rfl rfl rfl rfl rfl rfl ?_
        refine g_v rfl (r_pick0 rfl rfl) ?_
        refine g_v rfl r_move ?_
        refine g_no rfl rfl rfl rfl rfl rfl ?_
        refine g_no rfl rfl rfl rfl rfl rfl ?_
        refine g_no rfl rfl rfl rfl rfl rfl ?_
        refine g_no rfl rfl rfl rfl rfl rfl ?_
        refine g_v rfl (r_pick0 rfl rfl) ?_
        refine g_v rfl r_move ?_
        refine g_no rfl rfl rfl rfl rfl rfl ?_
        refine g_no rfl rfl rfl rfl rfl rfl ?_
        refine g_v rfl (r_pick0 rfl rfl) ?_
        refine g_v rfl r_move ?_
        refine g_no rfl rfl rfl rfl rfl rfl ?_
        refine g_no rfl rfl rfl rfl rfl rfl ?_
        refine g_no rfl rfl rfl rfl rfl rfl ?_
        refine g_v rfl (r_pick0 rfl rfl) ?_
        refine g_v rfl r_move ?_
        refine g_no rfl rfl rfl rfl rfl rfl ?_
        refine g_no rfl rfl rfl rfl rfl rfl ?_
        refine g_v rfl (r_pick0 rfl rfl) ?_
        refine g_v rfl r_move ?_
        refine g_no rfl rfl rfl rfl rfl rfl ?_
        refine g_no rfl rfl rfl rfl rfl rfl ?_
        refine g_no rfl rfl rfl rfl rfl rfl ?_
        refine g_v rfl (r_pick0 rfl rfl) ?_
        refine g_v rfl r_assign ?_
        refine g_nil ?_
        refine d_then ?_
        refine c_flat [(0, .bool false)] ⟨rfl, trivial⟩ (fun u => ?_)
        refine c_sta ⟨w0, M, (100100, g43, .cells #[.int .i64 x35.fBase, .int .i64 x35.fBaseTerm, .slice A38 x35.fEntries.length c39] 28 (0, 0)) :: (100080, g31, .cells #[.int .i64 x23.fBase, .int .i64 x23.fBaseTerm, .slice A26 x23.fEntries.length c27] 28 (0, 0)) :: (100010, g7, .cells #[.int .i64 x1.fBase, .int .i64 x1.fBaseTerm, .slice A3 x1.fEntries.length c4] 28 (0, 0)) :: H, R, φ41⟩ (fun _ h => h) ?_
        refine c_ret ?_
        replace hm := Option.some.inj hm
        subst hm
        refine d_retC () Try.results4 ?_ trivial (fun W h => ok_pre (H1 := [_, _, _]) (R1 := []) h (fun W hφ => (q6 _ (q21 _ (q29 _ (q33 _ (q41 _ hφ))))))) (.inr rfl)
        refine res_tmp ?_
        refine res_nil ?_
        exact rfl
      ·
       have h51' : x17 = true := by revert h51; cases x17 <;> simp
       replace hm := ite_t hm h51'
       refine g_no rfl rfl rfl rfl rfl h51 ?_
       refine g_v rfl (r_pick0 rfl h51) ?_
       refine g_v rfl r_move ?_
       refine g_no rfl rfl rfl rfl rfl rfl ?_
       refine g_no rfl rfl rfl rfl rfl rfl ?_
       refine g_no rfl rfl rfl rfl rfl rfl ?_
       refine g_no rfl rfl rfl rfl rfl rfl ?_
       refine g_v rfl (r_pick0 rfl rfl) ?_
       refine g_v rfl r_move ?_
       refine g_no rfl rfl rfl rfl rfl rfl ?_
       refine g_no rfl rfl rfl rfl rfl rfl ?_
       refine g_v rfl (r_pick0 rfl rfl) ?_
       refine g_v rfl r_move ?_
       refine g_no rfl rfl rfl rfl rfl rfl ?_
       refine g_no rfl rfl rfl rfl rfl rfl ?_
       refine g_no rfl rfl rfl rfl rfl rfl ?_
       refine g_no rfl rfl rfl rfl rfl rfl ?_
       refine g_v rfl (r_pick0 rfl rfl) ?_
       refine g_v rfl r_move ?_
       refine g_no rfl rfl rfl rfl rfl rfl ?_
       refine g_no rfl rfl rfl rfl rfl rfl ?_
       refine g_v rfl (r_pick0 rfl rfl) ?_
       refine g_v rfl r_move ?_
       refine g_no rfl rfl rfl rfl rfl rfl ?_
       refine g_no rfl rfl rfl rfl rfl rfl ?_
       refine g_no rfl rfl rfl rfl rfl rfl ?_
       refine g_v rfl (r_pick0 rfl rfl) ?_
       refine g_v rfl r_move ?_
       refine g_no rfl rfl rfl rfl rfl rfl ?_
       refine g_no rfl rfl rfl rfl rfl rfl ?_
       refine g_v rfl (r_pick0 rfl rfl) ?_
       refine g_v rfl r_move ?_
       refine g_no rfl rfl rfl rfl rfl rfl ?_
       refine g_no rfl rfl rfl rfl rfl rfl ?_
       refine g_no rfl rfl rfl rfl rfl rfl ?_
       refine g_v rfl (r_pick0 rfl rfl) ?_
       refine g_v rfl r_assign ?_
       refine g_nil ?_
       refine d_then ?_
       refine c_flat [(0, .bool false)] ⟨rfl, trivial⟩ (fun u => ?_)
       refine c_sta ⟨w0, M, (100100, g43, .cells #[.int .i64 x35.fBase, .int .i64 x35.fBaseTerm, .slice A38 x35.fEntries.length c39] 28 (0, 0)) :: (100080, g31, .cells #[.int .i64 x23.fBase, .int .i64 x23.fBaseTerm, .slice A26 x23.fEntries.length c27] 28 (0, 0)) :: (100010, g7, .cells #[.int .i64 x1.fBase, .int .i64 x1.fBaseTerm, .slice A3 x1.fEntries.length c4] 28 (0, 0)) :: H, R, φ41⟩ (fun _ h => h) ?_
       refine c_ret ?_
       replace hm := Option.some.inj hm
       subst hm
       refine d_retC () Try.results4 ?_ trivial (fun W h => ok_pre (H1 := [_, _, _]) (R1 := []) h (fun W hφ => (q6 _ (q21 _ (q29 _ (q33 _ (q41 _ hφ))))))) (.inr rfl)
       refine res_tmp ?_
       refine res_nil ?_
       exact rfl
     ·
      replace hm := ite_f hm (bool_nt h50)
      refine g_no rfl rfl rfl rfl rfl h50 ?_
      refine g_v rfl (r_pick0 rfl h50) ?_
      refine g_v rfl r_move ?_
      refine g_no rfl rfl rfl rfl rfl rfl ?_
      refine g_no rfl rfl rfl rfl rfl rfl ?_
      refine g_v rfl (r_pick0 rfl rfl) ?_
      refine g_v rfl r_move ?_
      refine g_no rfl rfl rfl rfl rfl rfl ?_
      refine g_no rfl rfl rfl rfl rfl rfl ?_
      refine g_no rfl rfl rfl rfl rfl rfl ?_
      refine g_no rfl rfl rfl rfl rfl rfl ?_
      refine g_v rfl (r_pick0 rfl rfl) ?_
      refine g_v rfl r_move ?_
      refine g_no rfl rfl rfl rfl rfl rfl ?_
      refine g_no rfl rfl rfl rfl rfl rfl ?_
      refine g_v rfl (r_pick0 rfl rfl) ?_
      refine g_v rfl r_move ?_
      refine g_no rfl rfl rfl rfl rfl rfl ?_
      refine g_no rfl rfl rfl rfl rfl rfl ?_
      refine g_no rfl rfl rfl rfl rfl rfl ?_
      refine g_no rfl rfl rfl rfl rfl rfl ?_
      refine g_v rfl (r_pick0 rfl rfl) ?_
      refine g_v rfl r_move ?_
      refine g_no rfl rfl rfl rfl rfl rfl ?_
      refine g_no rfl rfl rfl rfl rfl rfl ?_
      refine g_v rfl (r_pick0 rfl rfl) ?_
      refine g_v rfl r_move ?_
      refine g_no rfl rfl rfl rfl rfl rfl ?_
      refine g_no rfl rfl rfl rfl rfl rfl ?_
      refine g_no rfl rfl rfl rfl rfl rfl ?_
      refine g_v rfl (r_pick0 rfl rfl) ?_
      refine g_v rfl r_move ?_
      refine g_no rfl rfl rfl rfl rfl rfl ?_
      refine g_no rfl rfl rfl rfl rfl rfl ?_
      refine g_v rfl (r_pick0 rfl rfl) ?_
      refine g_v rfl r_move ?_
      refine g_no rfl rfl rfl rfl rfl rfl ?_
      refine g_no rfl rfl rfl rfl rfl rfl ?_
      refine g_no rfl rfl rfl rfl rfl rfl ?_
      refine g_v rfl (r_pick0 rfl rfl) ?_
      refine g_v rfl r_assign ?_
      refine g_nil ?_
      refine d_then ?_
      refine c_flat [(0, .bool false)] ⟨rfl, trivial⟩ (fun u => ?_)
      refine c_sta ⟨w0, M, (100100, g43, .cells #[.int .i64 x35.fBase, .int .i64 x35.fBaseTerm, .slice A38 x35.fEntries.length c39] 28 (0, 0)) :: (100080, g31, .cells #[.int .i64 x23.fBase, .int .i64 x23.fBaseTerm, .slice A26 x23.fEntries.length c27] 28 (0, 0)) :: (100010, g7, .cells #[.int .i64 x1.fBase, .int .i64 x1.fBaseTerm, .slice A3 x1.fEntries.length c4] 28 (0, 0)) :: H, R, φ41⟩ (fun _ h => h) ?_
      refine c_ret ?_
      replace hm := Option.some.inj hm
      subst hm
      refine d_retC () Try.results4 ?_ trivial (fun W h => ok_pre (H1 := [_, _, _]) (R1 := []) h (fun W hφ => (q6 _ (q21 _ (q29 _ (q33 _ (q41 _ hφ))))))) (.inr rfl)
      refine res_tmp ?_
      refine res_nil ?_
      exact rfl
    ·
     replace hm := ite_f hm (of_decide_eq_false h49)
     refine g_v rfl (r_pick0 rfl h49) ?_
     refine g_v rfl r_move ?_
     refine g_no rfl rfl rfl rfl rfl rfl ?_
     refine g_no rfl rfl rfl rfl rfl rfl ?_
     refine g_v rfl (r_pick0 rfl rfl) ?_
     refine g_v rfl r_move ?_
     refine g_no rfl rfl rfl rfl rfl rfl ?_
     refine g_no rfl rfl rfl rfl rfl rfl ?_
     refine g_v rfl (r_pick0 rfl rfl) ?_
     refine g_v rfl r_move ?_
     refine g_no rfl rfl rfl rfl rfl rfl ?_
     refine g_no rfl rfl rfl rfl rfl rfl ?_
     refine g_no rfl rfl rfl rfl rfl rfl ?_
     refine g_no rfl rfl rfl rfl rfl rfl ?_
     refine g_v rfl (r_pick0 rfl rfl) ?_
     refine g_v rfl r_move ?_
     refine g_no rfl rfl rfl rfl rfl rfl ?_
     refine g_no rfl rfl rfl rfl rfl rfl ?_
     refine g_v rfl (r_pick0 rfl rfl) ?_
     refine g_v rfl r_move ?_
     refine g_no rfl rfl rfl rfl rfl rfl ?_
     refine g_no rfl rfl rfl rfl rfl rfl ?_
     refine g_no rfl rfl rfl rfl rfl rfl ?_
     refine g_no rfl rfl rfl rfl rfl rfl ?_
     refine g_v rfl (r_pick0 rfl rfl) ?_
     refine g_v rfl r_move ?_
     refine g_no rfl rfl rfl rfl rfl rfl ?_
     refine g_no rfl rfl rfl rfl rfl rfl ?_
     refine g_v rfl (r_pick0 rfl rfl) ?_
     refine g_v rfl r_move ?_
     refine g_no rfl rfl rfl rfl rfl rfl ?_
     refine g_no rfl rfl rfl rfl rfl rfl ?_
     refine g_no rfl rfl rfl rfl rfl rfl ?_
     refine g_v rfl (r_pick0 rfl rfl) ?_
     refine g_v rfl r_move ?_
     refine g_no rfl rfl rfl rfl rfl rfl ?_
     refine g_no rfl rfl rfl rfl rfl rfl ?_
     refine g_v rfl (r_pick0 rfl rfl) ?_
     refine g_v rfl r_move ?_
     refine g_no rfl rfl rfl rfl rfl rfl ?_
     refine g_no rfl rfl rfl rfl rfl rfl ?_
     refine g_no rfl rfl rfl rfl rfl rfl ?_
     refine g_v rfl (r_pick0 rfl rfl) ?_
     refine g_v rfl r_assign ?_
     refine g_nil ?_
     refine d_then ?_
     refine c_flat [(0, .bool false)] ⟨rfl, trivial⟩ (fun u => ?_)
     refine c_sta ⟨w0, M, (100100, g43, .cells #[.int .i64 x35.fBase, .int .i64 x35.fBaseTerm, .slice A38 x35.fEntries.length c39] 28 (0, 0)) :: (100080, g31, .cells #[.int .i64 x23.fBase, .int .i64 x23.fBaseTerm, .slice A26 x23.fEntries.length c27] 28 (0, 0)) :: (100010, g7, .cells #[.int .i64 x1.fBase, .int .i64 x1.fBaseTerm, .slice A3 x1.fEntries.length c4] 28 (0, 0)) :: H, R, φ41⟩ (fun _ h => h) ?_
     refine c_ret ?_
     replace hm := Option.some.inj hm
     subst hm
     refine d_retC () Try.results4 ?_ trivial (fun W h => ok_pre (H1 := [_, _, _]) (R1 := []) h (fun W hφ => (q6 _ (q21 _ (q29 _ (q33 _ (q41 _ hφ))))))) (.inr rfl)
     refine res_tmp ?_
     refine res_nil ?_
     exact rfl
   ·
    replace hm := ite_f hm (bool_nt h48)
    refine g_no rfl rfl rfl rfl rfl h48 ?_
    refine g_v rfl (r_pick0 rfl h48) ?_
    refine g_v rfl r_move ?_
    refine g_no rfl rfl rfl rfl rfl rfl ?_
    refine g_v rfl (r_pick0 rfl rfl) ?_
    refine g_v rfl r_move ?_
    refine g_no rfl rfl rfl rfl rfl rfl ?_
    refine g_no rfl rfl rfl rfl rfl rfl ?_
    refine g_v rfl (r_pick0 rfl rfl) ?_
    refine g_v rfl r_move ?_
    refine g_no rfl rfl rfl rfl rfl rfl ?_
    refine g_no rfl rfl rfl rfl rfl rfl ?_
    refine g_v rfl (r_pick0 rfl rfl) ?_
    refine g_v rfl r_move ?_
    refine g_no rfl rfl rfl rfl rfl rfl ?_
    refine g_no rfl rfl rfl rfl rfl rfl ?_
    refine g_no rfl rfl rfl rfl rfl rfl ?_
    refine g_no rfl rfl rfl rfl rfl rfl ?_
    refine g_v rfl (r_pick0 rfl rfl) ?_
    refine g_v rfl r_move ?_
    refine g_no rfl rfl rfl rfl rfl rfl ?_
    refine g_no rfl rfl rfl rfl rfl rfl ?_
    refine g_v rfl (r_pick0 rfl rfl) ?_
    refine g_v rfl r_move ?_
    refine g_no rfl rfl rfl rfl rfl rfl ?_
    refine g_no rfl rfl rfl rfl rfl rfl ?_
    refine g_no rfl rfl rfl rfl rfl rfl ?_
    refine g_no rfl rfl rfl rfl rfl rfl ?_
    refine g_v rfl (r_pick0 rfl rfl) ?_
    refine g_v rfl r_move ?_
    refine g_no rfl rfl rfl rfl rfl rfl ?_
    refine g_no rfl rfl rfl rfl rfl rfl ?_
    refine g_v rfl (r_pick0 rfl rfl) ?_
    refine g_v rfl r_move ?_
    refine g_no rfl rfl rfl rfl rfl rfl ?_
    refine g_no rfl rfl rfl rfl rfl rfl ?_
    refine g_no rfl rfl rfl rfl rfl rfl ?_
    refine g_v rfl (r_pick0 rfl rfl) ?_
    refine g_v rfl r_move ?_
    refine g_no rfl rfl rfl rfl rfl rfl ?_
    refine g_no rfl rfl rfl rfl rfl rfl ?_
    refine g_v rfl (r_pick0 rfl rfl) ?_
    refine g_v rfl r_move ?_
    refine g_no rfl rfl rfl rfl rfl rfl ?_
    refine g_no rfl rfl rfl rfl rfl rfl ?_
    refine g_no rfl rfl rfl rfl rfl rfl ?_
    refine g_v rfl (r_pick0 rfl rfl) ?_
    refine g_v rfl r_assign ?_
    refine g_nil ?_
    refine d_then ?_
    refine c_flat [(0, .bool false)] ⟨rfl, trivial⟩ (fun u => ?_)
    refine c_sta ⟨w0, M, (100100, g43, .cells #[.int .i64 x35.fBase, .int .i64 x35.fBaseTerm, .slice A38 x35.fEntries.length c39] 28 (0, 0)) :: (100080, g31, .cells #[.int .i64 x23.fBase, .int .i64 x23.fBaseTerm, .slice A26 x23.fEntries.length c27] 28 (0, 0)) :: (100010, g7, .cells #[.int .i64 x1.fBase, .int .i64 x1.fBaseTerm, .slice A3 x1.fEntries.length c4] 28 (0, 0)) :: H, R, φ41⟩ (fun _ h => h) ?_
    refine c_ret ?_
    replace hm := Option.some.inj hm
    subst hm
    refine d_retC () Try.results4 ?_ trivial (fun W h => ok_pre (H1 := [_, _, _]) (R1 := []) h (fun W hφ => (q6 _ (q21 _ (q29 _ (q33 _ (q41 _ hφ))))))) (.inr rfl)
    refine res_tmp ?_
    refine res_nil ?_
    exact rfl
  ·
   replace hm := ite_f hm (of_decide_eq_false h47)
   refine g_v rfl (r_pick0 rfl h47) ?_
   refine g_v rfl r_move ?_
   refine g_no rfl rfl rfl rfl rfl rfl ?_
   refine g_no rfl rfl rfl rfl rfl rfl ?_
   refine g_v rfl (r_pick0 rfl rfl) ?_
   refine g_v rfl r_move ?_
   refine g_no rfl rfl rfl rfl rfl rfl ?_
   refine g_v rfl (r_pick0 rfl rfl) ?_
   refine g_v rfl r_move ?_
   refine g_no rfl rfl rfl rfl rfl rfl ?_
   refine g_no rfl rfl rfl rfl rfl rfl ?_
   refine g_v rfl (r_pick0 rfl rfl) ?_
   refine g_v rfl r_move ?_
   refine g_no rfl rfl rfl rfl rfl rfl ?_
   refine g_no rfl rfl rfl rfl rfl rfl ?_
   refine g_v rfl (r_pick0 rfl rfl) ?_
   refine g_v rfl r_move ?_
   refine g_no rfl rfl rfl rfl rfl rfl ?_
   refine g_no rfl rfl rfl rfl rfl rfl ?_
   refine g_no rfl rfl rfl rfl rfl rfl ?_
   refine g_no rfl rfl rfl rfl rfl rfl ?_
   refine g_v rfl (r_pick0 rfl rfl) ?_
   refine g_v rfl r_move ?_
   refine g_no rfl rfl rfl rfl rfl rfl ?_
   refine g_no rfl rfl rfl rfl rfl rfl ?_
   refine g_v rfl (r_pick0 rfl rfl) ?_
   refine g_v rfl r_move ?_
   refine g_no rfl rfl rfl rfl rfl rfl ?_
   refine g_no rfl rfl rfl rfl rfl rfl ?_
   refine g_no rfl rfl rfl rfl rfl rfl ?_
   refine g_no rfl rfl rfl rfl rfl rfl ?_
   refine g_v rfl (r_pick0 rfl rfl) ?_
   refine g_v rfl r_move ?_
   refine g_no rfl rfl rfl rfl rfl rfl ?_
   refine g_no rfl rfl rfl rfl rfl rfl ?_
   refine g_v rfl (r_pick0 rfl rfl) ?_
   refine g_v rfl r_move ?_
   refine g_no rfl rfl rfl rfl rfl rfl ?_
   refine g_no rfl rfl rfl rfl rfl rfl ?_
   refine g_no rfl rfl rfl rfl rfl rfl ?_
   refine g_v rfl (r_pick0 rfl rfl) ?_
   refine g_v rfl r_move ?_
   refine g_no rfl rfl rfl rfl rfl rfl ?_
   refine g_no rfl rfl rfl rfl rfl rfl ?_
   refine g_v rfl (r_pick0 rfl rfl) ?_
   refine g_v rfl r_move ?_
   refine g_no rfl rfl rfl rfl rfl rfl ?_
   refine g_no rfl rfl rfl rfl rfl rfl ?_
   refine g_no rfl rfl rfl rfl rfl rfl ?_
   refine g_v rfl (r_pick0 rfl rfl) ?_
   refine g_v rfl r_assign ?_
   refine g_nil ?_
   refine d_then ?_
   refine c_flat [(0, .bool false)] ⟨rfl, trivial⟩ (fun u => ?_)
   refine c_sta ⟨w0, M, (100100, g43, .cells #[.int .i64 x35.fBase, .int .i64 x35.fBaseTerm, .slice A38 x35.fEntries.length c39] 28 (0, 0)) :: (100080, g31, .cells #[.int .i64 x23.fBase, .int .i64 x23.fBaseTerm, .slice A26 x23.fEntries.length c27] 28 (0, 0)) :: (100010, g7, .cells #[.int .i64 x1.fBase, .int .i64 x1.fBaseTerm, .slice A3 x1.fEntries.length c4] 28 (0, 0)) :: H, R, φ41⟩ (fun _ h => h) ?_
   refine c_ret ?_
   replace hm := Option.some.inj hm
   subst hm
   refine d_retC () Try.results4 ?_ trivial (fun W h => ok_pre (H1 := [_, _, _]) (R1 := []) h (fun W hφ => (q6 _ (q21 _ (q29 _ (q33 _ (q41 _ hφ))))))) (.inr rfl)
   refine res_tmp ?_
   refine res_nil ?_
   exact rfl
 ·
  replace hm := ite_f hm (of_decide_eq_false h46)
  refine g_no rfl rfl rfl rfl rfl h46 ?_
  refine g_v rfl (r_pick0 rfl h46) ?_
  refine g_v rfl r_move ?_
  refine g_no rfl rfl rfl rfl rfl rfl ?_
  refine g_v rfl (r_pick0 rfl rfl) ?_
  refine g_v rfl r_move ?_
  refine g_no rfl rfl rfl rfl rfl rfl ?_
  refine g_no rfl rfl rfl rfl rfl rfl ?_
  refine g_v rfl (r_pick0 rfl rfl) ?_
  refine g_v rfl r_move ?_
  refine g_no rfl rfl rfl rfl rfl rfl ?_
  refine g_v rfl (r_pick0 rfl rfl) ?_
  refine g_v rfl r_move ?_
  refine g_no rfl rfl rfl rfl rfl rfl ?_
  refine g_no rfl rfl rfl rfl rfl rfl ?_
  refine g_v rfl (r_pick0 rfl rfl) ?_
  refine g_v rfl r_move ?_
  refine g_no rfl rfl rfl rfl rfl rfl ?_
  refine g_no rfl rfl rfl rfl rfl rfl ?_
  refine g_v rfl (r_pick0 rfl rfl) ?_
  refine g_v rfl r_move ?_
  refine g_no rfl rfl rfl rfl rfl rfl ?_
  refine g_no rfl rfl rfl rfl rfl rfl ?_
  refine g_no rfl rfl rfl rfl rfl rfl ?_
  refine g_no rfl rfl rfl rfl rfl rfl ?_
  refine g_v rfl (r_pick0 rfl rfl) ?_
  refine g_v rfl r_move ?_
  refine g_no rfl rfl rfl rfl rfl rfl ?_
  refine g_no rfl rfl rfl rfl rfl rfl ?_
  refine g_v rfl (r_pick0 rfl rfl) ?_
  refine g_v rfl r_move ?_
  refine g_no rfl rfl rfl rfl rfl rfl ?_
  refine g_no rfl rfl rfl rfl rfl rfl ?_
  refine g_no rfl rfl rfl rfl rfl rfl ?_
  refine g_no rfl rfl rfl rfl rfl rfl ?_
  refine g_v rfl (r_pick0 rfl rfl) ?_
  refine g_v rfl r_move ?_
  refine g_no rfl rfl rfl rfl rfl rfl ?_
  refine g_no rfl rfl rfl rfl rfl rfl ?_
  refine g_v rfl (r_pick0 rfl rfl) ?_
  refine g_v rfl r_move ?_
  refine g_no rfl rfl rfl rfl rfl rfl ?_
  refine g_no rfl rfl rfl rfl rfl rfl ?_
  refine g_no rfl rfl rfl rfl rfl rfl ?_
  refine g_v rfl (r_pick0 rfl rfl) ?_
  refine g_v rfl r_move ?_
  refine g_no rfl rfl rfl rfl rfl rfl ?_
  refine g_no rfl rfl rfl rfl rfl rfl ?_
  refine g_v rfl (r_pick0 rfl rfl) ?_
  refine g_v rfl r_move ?_
  refine g_no rfl rfl rfl rfl rfl rfl ?_
  refine g_no rfl rfl rfl rfl rfl rfl ?_
  refine g_no rfl rfl rfl rfl rfl rfl ?_
  refine g_v rfl (r_pick0 rfl rfl) ?_
  refine g_v rfl r_assign ?_
  refine g_nil ?_
  refine d_then ?_
  refine c_flat [(0, .bool false)] ⟨rfl, trivial⟩ (fun u => ?_)
  refine c_sta ⟨w0, M, (100100, g43, .cells #[.int .i64 x35.fBase, .int .i64 x35.fBaseTerm, .slice A38 x35.fEntries.length c39] 28 (0, 0)) :: (100080, g31, .cells #[.int .i64 x23.fBase, .int .i64 x23.fBaseTerm, .slice A26 x23.fEntries.length c27] 28 (0, 0)) :: (100010, g7, .cells #[.int .i64 x1.fBase, .int .i64 x1.fBaseTerm, .slice A3 x1.fEntries.length c4] 28 (0, 0)) :: H, R, φ41⟩ (fun _ h => h) ?_
  refine c_ret ?_
  replace hm := Option.some.inj hm
  subst hm
  refine d_retC () Try.results4 ?_ trivial (fun W h => ok_pre (H1 := [_, _, _]) (R1 := []) h (fun W hφ => (q6 _ (q21 _ (q29 _ (q33 _ (q41 _ hφ))))))) (.inr rfl)
  refine res_tmp ?_
  refine res_nil ?_
  exact rfl

structure GHard where
  fTerm : Int
  fVote : Int
  fVoters : List Int
  fSnap : ByteArray
  fLog : GLog
noncomputable def m_plog_read_c1 (p0 : Int) (o0 : ByteArray) (o1 : Bool) : Option (ByteArray × ByteArray × Bool) :=
  if p0 < 0 then
    some ((⟨#[]⟩ : ByteArray), o0, true)
  else
    if (o0.size : Int) < p0 then
      some ((⟨#[]⟩ : ByteArray), o0, true)
    else
      (scutHi o0 p0).bind fun s3 =>
      (scutLo o0 p0).bind fun s4 =>
      some (s3, s4, o1)
theorem c_plog_read_c1 {w0 : World} {M : Nat → Prop} {H : List (Nat × Nat × Obj)} {R : List (Nat × Row)} {φ : World → Prop} (p0 : Int) (go0 : Nat) (o0 : ByteArray) (go1 : Nat) (o1 : Bool) (r : ByteArray × ByteArray × Bool) (hm : m_plog_read_c1 p0 o0 o1 = some r) :
    Cn Try.prog 35 #[.int .i64 p0, .pointer (some ⟨go0, 0, none⟩), .pointer (some ⟨go1, 0, none⟩)] ⟨w0, M, (1000, go0, .cells #[.string o0] 9 (0, 0)) :: (1001, go1, .cells #[.bool o1] 4 (0, 0)) :: H, R, φ⟩ (fun x : Unit => .string r.1) (fun x => True) (fun x => ⟨w0, M, (1000, go0, .cells #[.string r.2.1] 9 (0, 0)) :: (1001, go1, .cells #[.bool r.2.2] 4 (0, 0)) :: H, R, φ⟩) := by
 unfold m_plog_read_c1 at hm
 refine cn_intro (fn := Try.f35) (N := 21) Try.func35 rfl Try.ntmps35 rfl ?_
 refine c_seq ?_
 refine c_region ?_
 refine g_v rfl r_assign ?_
 refine g_nil ?_
 refine d_then ?_
 refine c_seq ?_
 refine c_seq ?_
 refine c_region ?_
 refine g_v rfl r_move ?_
 refine g_v rfl (r_lss rfl rfl) ?_
 refine g_v rfl r_move ?_
 refine g_if rfl rfl rfl rfl rfl (fun h1 => ?_) (fun h1 => ?_)
 ·
  replace hm := ite_f hm (of_decide_eq_false h1)
  refine g_v rfl (r_load (tag := 1000) rfl rfl rfl Try.isAgg9) ?_
  refine g_do rfl rfl rfl rfl rfl h1 ?_
  refine g_v rfl (r_len Try.underlying9 rfl) ?_
  refine g_do rfl rfl rfl rfl rfl h1 ?_
  refine g_v rfl r_move ?_
  refine g_do rfl rfl rfl rfl rfl h1 ?_
  refine g_v rfl (r_lss rfl rfl) ?_
  refine g_v rfl (r_pick0 rfl h1) ?_
  refine g_nil ?_
  refine d_then ?_
  refine c_flat [(0, .int .i64 p0), (1, .pointer (some ⟨go0, 0, none⟩)), (2, .pointer (some ⟨go1, 0, none⟩)), (13, .bool (decide ((o0.size : Int) < p0)))] ⟨rfl, rfl, rfl, rfl, trivial⟩ (fun u => ?_)
  refine c_sta ⟨w0, M, (1000, go0, .cells #[.string o0] 9 (0, 0)) :: (1001, go1, .cells #[.bool o1] 4 (0, 0)) :: H, R, φ⟩ (fun _ h => h) ?_
  refine c_cond rfl (fun h2 => ?_) (fun h2 => ?_)
  ·
   replace hm := ite_t hm (of_decide_eq_true h2)
   refine c_seq ?_
   refine c_region ?_
   refine g_storeL (tag := 1001) rfl rfl rfl rfl Try.sizeOf4 rfl rfl ?_
   refine g_nil ?_
   refine d_then ?_
   refine c_seq ?_
   refine c_region ?_
   refine g_v rfl r_assign ?_
   refine g_nil ?_
   refine d_then ?_
   refine c_ret ?_
   refine d_ret_then ?_
   replace hm := Option.some.inj hm
   subst hm
   refine d_retC () Try.results35 ?_ trivial (fun W h => h.phi (fun W hφ => hφ)) (.inr rfl)
   refine res_tmp ?_
   refine res_nil ?_
   exact rfl
  ·
   replace hm := ite_f hm (of_decide_eq_false h2)
   refine c_skip ?_
   refine d_then ?_
   refine c_seq ?_
   refine c_region ?_
   refine g_v rfl (r_load (tag := 1000) rfl rfl rfl Try.isAgg9) ?_
   refine g_v rfl r_move ?_
   replace hm := bnd hm
   obtain ⟨s3, hs3, hm⟩ := hm
   refine g_v rfl (r_scutHi Try.underlying9 rfl rfl hs3) ?_
   refine g_v rfl r_assign ?_
   refine g_nil ?_
   refine d_then ?_
   refine c_seq ?_
   refine c_region ?_
   refine g_v rfl (r_load (tag := 1000) rfl rfl rfl Try.isAgg9) ?_
   refine g_v rfl r_move ?_
   replace hm := bnd hm
   obtain ⟨s4, hs4, hm⟩ := hm
   refine g_v rfl (r_scutLo Try.underlying9 rfl rfl hs4) ?_
   refine g_storeL (tag := 1000) rfl rfl rfl rfl Try.sizeOf9 rfl rfl ?_
   refine g_nil ?_
   refine d_then ?_
   refine c_seq ?_
   refine c_region ?_
   refine g_v rfl r_move ?_
   refine g_v rfl r_assign ?_
   refine g_nil ?_
   refine d_then ?_
   refine c_flat [(4, .string s3)] ⟨rfl, trivial⟩ (fun u => ?_)
   refine c_sta ⟨w0, M, (1000, go0, .cells #[.string s4] 9 (0, 0)) :: (1001, go1, .cells #[.bool o1] 4 (0, 0)) :: H, R, φ⟩ (fun _ h => h) ?_
   refine c_ret ?_
   replace hm := Option.some.inj hm
   subst hm
   refine d_retC () Try.results35 ?_ trivial (fun W h => h.phi (fun W hφ => hφ)) (.inr rfl)
   refine res_tmp ?_
   refine res_nil ?_
   exact rfl
 ·
  replace hm := ite_t hm (of_decide_eq_true h1)
  refine g_no rfl rfl rfl rfl rfl h1 ?_
  refine g_no rfl rfl rfl rfl rfl h1 ?_
  refine g_no rfl rfl rfl rfl rfl h1 ?_
  refine g_v rfl (r_pick1 rfl h1) ?_
  refine g_nil ?_
  refine d_then ?_
  refine c_cond1 rfl rfl ?_
  refine c_seq ?_
  refine c_region ?_
  refine g_storeL (tag := 1001) rfl rfl rfl rfl Try.sizeOf4 rfl rfl ?_
  refine g_nil ?_
  refine d_then ?_
  refine c_seq ?_
  refine c_region ?_
  refine g_v rfl r_assign ?_
  refine g_nil ?_
  refine d_then ?_
  refine c_ret ?_
  refine d_ret_then ?_
  replace hm := Option.some.inj hm
  subst hm
  refine d_retC () Try.results35 ?_ trivial (fun W h => h.phi (fun W hφ => hφ)) (.inr rfl)
  refine res_tmp ?_
  refine res_nil ?_
  exact rfl

noncomputable def m_plog_read_c2_j1 (x2 : ByteArray) (x3 : Bool) (i27 : Int) : Option (Int × Bool × ByteArray) :=
  if 2199023255552 ≤ i27 then
    some (0, true, x2)
  else
    some (w64 i27, x3, x2)
noncomputable def m_plog_read_c2_s2 (x1 : ByteArray) (i36 : Int) (i37 : Int) : Option ((Int × Int) ⊕ Int) :=
  if i37 < ((bytesI x1).length : Int) then
    (at_ (bytesI x1) i37).bind fun x47 =>
    some (.inl (orI .u64 (IntKind.u64.wrap (i36 * 256)) (IntKind.u64.wrap x47), w64 (i37 + 1)))
  else
    some (.inr i36)
noncomputable def m_plog_read_c2 (o1 : Bool) (o2 : ByteArray) : Option (Int × Bool × ByteArray) :=
  (m_plog_read_c1 8 o2 o1).bind fun (z5 : ByteArray × ByteArray × Bool) =>
  (loop (fun s => m_plog_read_c2_s2 z5.1 s.1 s.2) (0, 0)).bind fun e => m_plog_read_c2_j1 z5.2.1 z5.2.2 e
theorem c_plog_read_c2 {w0 : World} {M : Nat → Prop} {H : List (Nat × Nat × Obj)} {R : List (Nat × Row)} {φ : World → Prop} (go0 : Nat) (go1 : Nat) (o1 : Bool) (go2 : Nat) (o2 : ByteArray) (r : Int × Bool × ByteArray) (hm : m_plog_read_c2 o1 o2 = some r) :
    Cn Try.prog 36 #[.pointer (some ⟨go0, 0, none⟩), .pointer (some ⟨go1, 0, none⟩)] ⟨w0, M, (1000, go0, .cells #[.func (.func 35) #[] #[.pointer (some ⟨go2, 0, none⟩), .pointer (some ⟨go1, 0, none⟩)]] 71 (0, 0)) :: (1001, go1, .cells #[.bool o1] 4 (0, 0)) :: (1002, go2, .cells #[.string o2] 9 (0, 0)) :: H, R, φ⟩ (fun x : Unit => .int .i64 r.1) (fun x => True) (fun x => ⟨w0, M, (1000, go0, .cells #[.func (.func 35) #[] #[.pointer (some ⟨go2, 0, none⟩), .pointer (some ⟨go1, 0, none⟩)]] 71 (0, 0)) :: (1001, go1, .cells #[.bool r.2.1] 4 (0, 0)) :: (1002, go2, .cells #[.string r.2.2] 9 (0, 0)) :: H, R, φ⟩) := by
 unfold m_plog_read_c2 at hm
 refine cn_intro (fn := Try.f36) (N := 24) Try.func36 rfl Try.ntmps36 rfl ?_
 refine c_seq ?_
 refine c_region ?_
 refine g_v rfl r_assign ?_
 refine g_nil ?_
 refine d_then ?_
 refine c_seq ?_
 refine c_region ?_
 refine g_v rfl r_assign ?_
 refine g_nil ?_
 refine d_then ?_
 refine c_seq ?_
 refine c_seq ?_
 refine c_region ?_
 refine g_v rfl (r_load (tag := 1000) rfl rfl rfl Try.isAgg71) ?_
 replace hm := bnd hm
 obtain ⟨⟨x1, x2, x3⟩, hx4, hm⟩ := hm
 refine g_cnv ⟨w0, M, (1000, go2, .cells #[.string o2] 9 (0, 0)) :: (1001, go1, .cells #[.bool o1] 4 (0, 0)) :: (1000, go0, .cells #[.func (.func 35) #[] #[.pointer (some ⟨go2, 0, none⟩), .pointer (some ⟨go1, 0, none⟩)]] 71 (0, 0)) :: H, R, φ⟩ (fun W h => (ok_front (t := 1002) (t' := 1000) (ok_front (t := 1001) (t' := 1001) h rfl) rfl)) Try.call35 rfl rfl rfl (c_plog_read_c1 8 go2 o2 go1 o1 _ hx4) (fun _ _ => ?_)
 refine g_sta _ (fun W h => (ok_front (t := 1000) (t' := 1002) (ok_front (t := 1001) (t' := 1001) h rfl) rfl)) ?_
 refine g_bytes rfl Try.underlying9 Try.underlying56 Try.underlying5 rfl (fun A6 c7 hc7 φ8 q8' => ?_)
 have q8 : ∀ W, φ8 W → φ W := fun W h => (q8' W h).1
 have f9 := fun (W : World) (h : φ8 W) => (q8' W h).2
 refine g_v rfl (r_lenL Try.underlying56 rfl) ?_
 refine g_v rfl r_move ?_
 refine g_nil ?_
 refine d_then ?_
 refine c_cut (ι := Int) [1, 3] (fun i27 => [(3, .int .u64 i27)]) (fun i27 => ⟨w0, M, (1002, go2, .cells #[.string x2] 9 (0, 0)) :: (1001, go1, .cells #[.bool x3] 4 (0, 0)) :: (1000, go0, .cells #[.func (.func 35) #[] #[.pointer (some ⟨go2, 0, none⟩), .pointer (some ⟨go1, 0, none⟩)]] 71 (0, 0)) :: H, R, φ8⟩) (fun i27 => m_plog_read_c2_j1 x2 x3 i27 = some r) ?_ (fun i27 u hm => ?_)
 ·
  refine c_block ?_
  replace hm := bnd hm
  obtain ⟨out2, hl2, hr2⟩ := hm
  obtain ⟨n45', hl2⟩ := loop_lp hl2
  refine c_loopU (ι := Nat × Int × Int) [1, 3, 8, 9, 10] (fun ⟨n45, i36, i37⟩ => [(3, .int .u64 i36), (10, .int .i64 i37)]) (fun ⟨n45, i36, i37⟩ => ⟨w0, M, (1002, go2, .cells #[.string x2] 9 (0, 0)) :: (1001, go1, .cells #[.bool x3] 4 (0, 0)) :: (1000, go0, .cells #[.func (.func 35) #[] #[.pointer (some ⟨go2, 0, none⟩), .pointer (some ⟨go1, 0, none⟩)]] 71 (0, 0)) :: H, R, φ8⟩) (fun ⟨n45, i36, i37⟩ => Lp (fun s => m_plog_read_c2_s2 x1 s.1 s.2) n45 (i36, i37) out2) (fun ⟨n45, i36, i37⟩ => n45) (n45', 0, 0) hl2 ⟨rfl, rfl, rfl, rfl, rfl, trivial⟩ (fun W h => h.phi (fun W hφ => hφ)) (fun ⟨n45, i36, i37⟩ u hlp => ?_)
  obtain ⟨o2, hm, hnx2⟩ := lp_step hlp
  clear hlp
  replace hm : m_plog_read_c2_s2 x1 i36 i37 = some o2 := hm
  unfold m_plog_read_c2_s2 at hm
  refine c_flat [(1, .pointer (some ⟨go1, 0, none⟩)), (3, .int .u64 i36), (8, .slice A6 (bytesI x1).length c7), (9, .int .i64 ((bytesI x1).length : Int)), (10, .int .i64 i37)] ⟨rfl, rfl, rfl, rfl, rfl, trivial⟩ (fun u => ?_)
  refine c_sta ⟨w0, M, (1002, go2, .cells #[.string x2] 9 (0, 0)) :: (1001, go1, .cells #[.bool x3] 4 (0, 0)) :: (1000, go0, .cells #[.func (.func 35) #[] #[.pointer (some ⟨go2, 0, none⟩), .pointer (some ⟨go1, 0, none⟩)]] 71 (0, 0)) :: H, R, φ8⟩ (fun _ h => h) ?_
  refine c_seq ?_
  refine c_region ?_
  refine g_v rfl (r_lss rfl rfl) ?_
  refine g_nil ?_
  refine d_then ?_
  refine c_seq ?_
  refine c_cond rfl (fun h46 => ?_) (fun h46 => ?_)
  ·
   replace hm := ite_t hm (of_decide_eq_true h46)
   refine c_skip ?_
   refine d_then ?_
   refine c_seq ?_
   refine c_block ?_
   refine c_seq ?_
   refine c_region ?_
   replace hm := bnd hm
   obtain ⟨x47, hx47, hm⟩ := hm
   refine g_know _ (fun W hS => cl_at (p := φ8) (sz := 1) (fun _ => rfl) (by decide) hS.now f9 hx47) ?_
   rintro ⟨ad48, hA50, f49⟩
   refine g_v rfl (r_ix Try.underlying56 Try.sizeOf5 rfl hA50 rfl hx47) ?_
   refine g_v rfl (r_ld rfl Try.isAgg5 (fun W hS => Cl.head (f49 W hS.now))) ?_
   refine g_v rfl r_assign ?_
   refine g_nil ?_
   refine d_then ?_
   refine c_region ?_
   refine g_v rfl r_move ?_
   refine g_v rfl (r_shl (n := 256) rfl rfl (by decide) (by decide) (by decide)) ?_
   refine g_v rfl r_move ?_
   refine g_v rfl (r_conv Try.underlying5 Try.underlying72 rfl rfl) ?_
   refine g_v rfl (r_bits_or rfl rfl) ?_
   refine g_v rfl r_assign ?_
   refine g_nil ?_
   refine d_normal_block ?_
   refine d_then ?_
   refine c_flat [(1, .pointer (some ⟨go1, 0, none⟩)), (3, .int .u64 (orI .u64 (IntKind.u64.wrap (i36 * 256)) (IntKind.u64.wrap x47))), (8, .slice A6 (bytesI x1).length c7), (9, .int .i64 ((bytesI x1).length : Int)), (10, .int .i64 i37)] ⟨rfl, rfl, rfl, rfl, rfl, trivial⟩ (fun u => ?_)
   refine c_sta ⟨w0, M, (1002, go2, .cells #[.string x2] 9 (0, 0)) :: (1001, go1, .cells #[.bool x3] 4 (0, 0)) :: (1000, go0, .cells #[.func (.func 35) #[] #[.pointer (some ⟨go2, 0, none⟩), .pointer (some ⟨go1, 0, none⟩)]] 71 (0, 0)) :: H, R, φ8⟩ (fun _ h => h) ?_
   refine c_region ?_
   refine g_v rfl (r_add rfl rfl rfl) ?_
   refine g_v rfl r_move ?_
   refine g_nil ?_
   obtain ⟨n51, hn51, hlp⟩ := nx_inl hm hnx2
   exact d_round (n51, orI .u64 (IntKind.u64.wrap (i36 * 256)) (IntKind.u64.wrap x47), w64 (i37 + 1)) hlp hn51 ⟨rfl, rfl, rfl, rfl, rfl, trivial⟩ (fun W h => h.phi (fun W hφ => hφ))
  ·
   replace hm := ite_f hm (of_decide_eq_false h46)
   refine c_exit ?_
   refine d_exit_then ?_
   refine d_exit_then ?_
   refine d_exit_block ?_
   replace hm := nx_out (C := (fun e => m_plog_read_c2_j1 x2 x3 e = some r)) hm hnx2 hr2
   exact d_round i36 hm Nat.zero_lt_one ⟨rfl, rfl, trivial⟩ (fun W h => h.phi (fun W hφ => hφ))
 ·
  unfold m_plog_read_c2_j1 at hm
  refine d_flat [(1, .pointer (some ⟨go1, 0, none⟩)), (3, .int .u64 i27)] ⟨rfl, rfl, trivial⟩ (fun u => ?_)
  refine d_sta ⟨w0, M, (1002, go2, .cells #[.string x2] 9 (0, 0)) :: (1001, go1, .cells #[.bool x3] 4 (0, 0)) :: (1000, go0, .cells #[.func (.func 35) #[] #[.pointer (some ⟨go2, 0, none⟩), .pointer (some ⟨go1, 0, none⟩)]] 71 (0, 0)) :: H, R, φ8⟩ (fun _ h => h) ?_
  refine d_then ?_
  refine c_seq ?_
  refine c_seq ?_
  refine c_region ?_
  refine g_v rfl r_move ?_
  refine g_v rfl (r_geq rfl rfl) ?_
  refine g_nil ?_
  refine d_then ?_
  refine c_cond rfl (fun h28 => ?_) (fun h28 => ?_)
  ·
   replace hm := ite_t hm (of_decide_eq_true h28)
   refine c_seq ?_
   refine c_region ?_
   refine g_storeL (tag := 1001) rfl rfl rfl rfl Try.sizeOf4 rfl rfl ?_
   refine g_nil ?_
   refine d_then ?_
   refine c_seq ?_
   refine c_region ?_
   refine g_v rfl r_assign ?_
   refine g_nil ?_
   refine d_then ?_
   refine c_ret ?_
   refine d_ret_then ?_
   replace hm := Option.some.inj hm
   subst hm
   refine d_retC () Try.results36 ?_ trivial (fun W h => (ok_front (t := 1000) (t' := 1000) (ok_front (t := 1001) (t' := 1001) (ok_front (t := 1002) (t' := 1002) h rfl) rfl) rfl).phi (fun W hφ => (q8 _ hφ))) (.inr rfl)
   refine res_tmp ?_
   refine res_nil ?_
   exact rfl
  ·
   replace hm := ite_f hm (of_decide_eq_false h28)
   refine c_skip ?_
   refine d_then ?_
   refine c_seq ?_
   refine c_region ?_
   refine g_v rfl r_move ?_
   refine g_v rfl (r_conv Try.underlying72 Try.underlying3 rfl rfl) ?_
   refine g_v rfl r_assign ?_
   refine g_nil ?_
   refine d_then ?_
   refine c_ret ?_
   replace hm := Option.some.inj hm
   subst hm
   refine d_retC () Try.results36 ?_ trivial (fun W h => (ok_front (t := 1000) (t' := 1000) (ok_front (t := 1001) (t' := 1001) (ok_front (t := 1002) (t' := 1002) h rfl) rfl) rfl).phi (fun W hφ => (q8 _ hφ))) (.inr rfl)
   refine res_tmp ?_
   refine res_nil ?_
   exact rfl

theorem bld28_8 (z0 : Int) (z1 : Int) : ∀ W, (Instr.build 28 #[(0, .int .i64 z0), (1, .int .i64 z1)]).run Try.prog W = .ok (.agg #[.int .i64 z0, .int .i64 z1, .slice none 0 0]) W := fun _ => by kernel_rfl
theorem bld30_9 (z0 : Int) (z1 : Int) (z2 : Int) (z3 : Int) (zA4 : Option Addr) (zn4 : Nat) (zc4 : Nat) : ∀ W, (Instr.build 30 #[(0, .int .i64 z0), (1, .int .i64 z1), (4, .agg #[.int .i64 z2, .int .i64 z3, .slice zA4 zn4 zc4])]).run Try.prog W = .ok (.agg #[.int .i64 z0, .int .i64 z1, .slice none 0 0, .string (⟨#[]⟩ : ByteArray), .int .i64 z2, .int .i64 z3, .slice zA4 zn4 zc4]) W := fun _ => by kernel_rfl
theorem lit3_10 (z0 : Int) : Try.prog.builtSlice 3 1 [(0, .int .i64 z0)] = some #[.int .i64 z0] := by kernel_rfl
theorem inf3_11  : (Try.prog.info? 3).map (fun i => (i.zero, i.size, i.bytes)) = some (some (.int .i64 0), 1, 8) := by kernel_rfl
noncomputable def m_plog_rising_j1 (p0 : List Int) : Option Bool :=
  some (decide (0 < (p0.length : Int)))
noncomputable def m_plog_rising_s2 (p0 : List Int) (i33 : Int) : Option (Int ⊕ (Unit ⊕ Bool)) :=
  if i33 < (p0.length : Int) then
    (at_ p0 i33).bind fun x50 =>
    if x50 < 0 then
      some (.inr (.inr false))
    else
      if 64 ≤ x50 then
        some (.inr (.inr false))
      else
        if 0 < i33 then
          (at_ p0 (w64 (i33 - 1))).bind fun x57 =>
          if x50 ≤ x57 then
            some (.inr (.inr false))
          else
            some (.inl (w64 (i33 + 1)))
        else
          some (.inl (w64 (i33 + 1)))
  else
    some (.inr (.inl ()))
noncomputable def m_plog_rising (p0 : List Int) : Option Bool :=
  (loop (fun s => m_plog_rising_s2 p0 s) 0).bind fun e => Sum.elim (fun e => m_plog_rising_j1 p0) (fun x => some x) e
theorem c_plog_rising {w0 : World} {M : Nat → Prop} {H : List (Nat × Nat × Obj)} {R : List (Nat × Row)} {φ : World → Prop} (p0 : List Int) (Ap0_0 : Option Addr) (cp0_0 : Nat) (hcp0_0 : p0.length ≤ cp0_0) (fp0_0 : ∀ W, (Sta.mk w0 M H R φ).ok W → Cl W Ap0_0 (p0.flatMap (fun x : Int => [Value.int .i64 x]))) (r : Bool) (hm : m_plog_rising p0 = some r) :
    Cn Try.prog 38 #[.slice Ap0_0 p0.length cp0_0] ⟨w0, M, H, R, φ⟩ (fun x : Unit => .bool r) (fun x => True) (fun x => ⟨w0, M, H, R, φ⟩) := by
 unfold m_plog_rising at hm
 refine cn_intro (fn := Try.f38) (N := 35) Try.func38 rfl Try.ntmps38 rfl ?_
 refine c_seq ?_
 refine c_region ?_
 refine g_v rfl r_assign ?_
 refine g_nil ?_
 refine d_then ?_
 refine c_seq ?_
 refine c_seq ?_
 refine c_region ?_
 refine g_v rfl r_move ?_
 refine g_v rfl (r_lenL Try.underlying25 rfl) ?_
 refine g_v rfl r_move ?_
 refine g_nil ?_
 refine d_then ?_
 refine c_cut (ι := Unit) [0] (fun _ => []) (fun _ => ⟨w0, M, H, R, φ⟩) (fun _ => m_plog_rising_j1 p0 = some r) ?_ (fun _ u hm => ?_)
 ·
  refine c_block ?_
  replace hm := bnd hm
  obtain ⟨out2, hl2, hr2⟩ := hm
  obtain ⟨n48', hl2⟩ := loop_lp hl2
  refine c_loopU (ι := Nat × Int) [0, 5, 6, 7] (fun ⟨n48, i33⟩ => [(7, .int .i64 i33)]) (fun ⟨n48, i33⟩ => ⟨w0, M, H, R, φ⟩) (fun ⟨n48, i33⟩ => Lp (fun s => m_plog_rising_s2 p0 s) n48 i33 out2) (fun ⟨n48, i33⟩ => n48) (n48', 0) hl2 ⟨rfl, rfl, rfl, rfl, trivial⟩ (fun W h => h.phi (fun W hφ => hφ)) (fun ⟨n48, i33⟩ u hlp => ?_)
  obtain ⟨o2, hm, hnx2⟩ := lp_step hlp
  clear hlp
  replace hm : m_plog_rising_s2 p0 i33 = some o2 := hm
  unfold m_plog_rising_s2 at hm
  refine c_flat [(0, .slice Ap0_0 p0.length cp0_0), (5, .slice Ap0_0 p0.length cp0_0), (6, .int .i64 (p0.length : Int)), (7, .int .i64 i33)] ⟨rfl, rfl, rfl, rfl, trivial⟩ (fun u => ?_)
  refine c_sta ⟨w0, M, H, R, φ⟩ (fun _ h => h) ?_
  refine c_seq ?_
  refine c_region ?_
  refine g_v rfl (r_lss rfl rfl) ?_
  refine g_nil ?_
  refine d_then ?_
  refine c_seq ?_
  refine c_cond rfl (fun h49 => ?_) (fun h49 => ?_)
  ·
   replace hm := ite_t hm (of_decide_eq_true h49)
   refine c_skip ?_
   refine d_then ?_
   refine c_seq ?_
   refine c_block ?_
   refine c_seq ?_
   refine c_region ?_
   refine g_v rfl r_move ?_
   replace hm := bnd hm
   obtain ⟨x50, hx50, hm⟩ := hm
   refine g_know _ (fun W hS => cl_at (p := (Sta.mk w0 M H R φ).ok) (sz := 1) (fun _ => rfl) (by decide) (ok_pre (H1 := []) (R1 := []) hS (fun W h => h)) fp0_0 hx50) ?_
   rintro ⟨ad51, hA53, f52⟩
   refine g_v rfl (r_ix Try.underlying25 Try.sizeOf3 rfl hA53 rfl hx50) ?_
   refine g_v rfl (r_ld rfl Try.isAgg3 (fun W hS => Cl.head (f52 W (ok_pre (H1 := []) (R1 := []) hS (fun W h => h))))) ?_
   refine g_v rfl r_assign ?_
   refine g_v rfl r_assign ?_
   refine g_nil ?_
   refine d_then ?_
   refine c_seq ?_
   refine c_region ?_
   refine g_v rfl r_move ?_
   refine g_v rfl (r_lss rfl rfl) ?_
   refine g_v rfl r_move ?_
   refine g_if rfl rfl rfl rfl rfl (fun h54 => ?_) (fun h54 => ?_)
   ·
    replace hm := ite_f hm (of_decide_eq_false h54)
    refine g_v rfl r_move ?_
    refine g_do rfl rfl rfl rfl rfl h54 ?_
    refine g_v rfl (r_geq rfl rfl) ?_
    refine g_v rfl (r_pick0 rfl h54) ?_
    refine g_v rfl r_move ?_
    refine g_if rfl rfl rfl rfl rfl (fun h55 => ?_) (fun h55 => ?_)
    ·
     replace hm := ite_f hm (of_decide_eq_false h55)
     refine g_v rfl r_move ?_
     refine g_do rfl rfl rfl rfl rfl h55 ?_
     refine g_v rfl (r_gtr rfl rfl) ?_
     refine g_do rfl rfl rfl rfl rfl h55 ?_
     refine g_v rfl r_move ?_
     refine g_if rfl rfl rfl rfl rfl (fun h56 => ?_) (fun h56 => ?_)
     ·
      replace hm := ite_t hm (of_decide_eq_true h56)
      refine g_v rfl r_move ?_
      refine g_do rfl rfl rfl rfl rfl h56 ?_
      refine g_v rfl r_move ?_
      refine g_do rfl rfl rfl rfl rfl h56 ?_
      refine g_v rfl r_move ?_
      refine g_do rfl rfl rfl rfl rfl h56 ?_
      refine g_v rfl (r_sub rfl rfl rfl) ?_
      refine g_do rfl rfl rfl rfl rfl h56 ?_
      replace hm := bnd hm
      obtain ⟨x57, hx57, hm⟩ := hm
      refine g_know _ (fun W hS => cl_at (p := (Sta.mk w0 M H R φ).ok) (sz := 1) (fun _ => rfl) (by decide) (ok_pre (H1 := []) (R1 := []) hS (fun W h => h)) fp0_0 hx57) ?_
      rintro ⟨ad58, hA60, f59⟩
      refine g_v rfl (r_ix Try.underlying25 Try.sizeOf3 rfl hA60 rfl hx57) ?_
      refine g_do rfl rfl rfl rfl rfl h56 ?_
      refine g_v rfl (r_ld rfl Try.isAgg3 (fun W hS => Cl.head (f59 W (ok_pre (H1 := []) (R1 := []) hS (fun W h => h))))) ?_
      refine g_do rfl rfl rfl rfl rfl h56 ?_
      refine g_v rfl (r_leq rfl rfl) ?_
      refine g_do rfl rfl rfl rfl rfl h55 ?_
      refine g_v rfl (r_pick1 rfl h56) ?_
      refine g_v rfl (r_pick0 rfl h55) ?_
      refine g_nil ?_
      refine d_then ?_
      refine c_flat [(0, .slice Ap0_0 p0.length cp0_0), (5, .slice Ap0_0 p0.length cp0_0), (6, .int .i64 (p0.length : Int)), (7, .int .i64 i33), (30, .bool (decide (x50 ≤ x57)))] ⟨rfl, rfl, rfl, rfl, rfl, trivial⟩ (fun u => ?_)
      refine c_sta ⟨w0, M, H, R, φ⟩ (fun _ h => h) ?_
      refine c_cond rfl (fun h61 => ?_) (fun h61 => ?_)
      ·
       replace hm := ite_t hm (of_decide_eq_true h61)
       refine c_seq ?_
       refine c_region ?_
       refine g_v rfl r_assign ?_
       refine g_nil ?_
       refine d_then ?_
       refine c_ret ?_
       refine d_ret_block ?_
       refine d_ret_then ?_
       refine d_ret_then ?_
       refine d_ret_block ?_
       refine d_ret_then ?_
       refine d_ret_then ?_
       replace hm := nx_out (C := (fun e => Sum.elim (fun e => m_plog_rising_j1 p0) (fun x => some x) e = some r)) hm hnx2 hr2
       replace hm : some false = some r := hm
       replace hm := Option.some.inj hm
       subst hm
       refine d_retC () Try.results38 ?_ trivial (fun W h => ok_pre (H1 := []) (R1 := []) h (fun W hφ => hφ)) (.inr rfl)
       refine res_tmp ?_
       refine res_nil ?_
       exact rfl
      ·
       replace hm := ite_f hm (of_decide_eq_false h61)
       refine c_skip ?_
       refine d_normal_block ?_
       refine d_then ?_
       refine c_region ?_
       refine g_v rfl (r_add rfl rfl rfl) ?_
       refine g_v rfl r_move ?_
       refine g_nil ?_
       obtain ⟨n62, hn62, hlp⟩ := nx_inl hm hnx2
       exact d_round (n62, w64 (i33 + 1)) hlp hn62 ⟨rfl, rfl, rfl, rfl, trivial⟩ (fun W h => h.phi (fun W hφ => hφ))
     ·
      replace hm := ite_f hm (of_decide_eq_false h56)
      refine g_no rfl rfl rfl rfl rfl h56 ?_
      refine g_no rfl rfl rfl rfl rfl h56 ?_
      refine g_no rfl rfl rfl rfl rfl h56 ?_
      refine g_no rfl rfl rfl rfl rfl h56 ?_
      refine g_no rfl rfl rfl rfl rfl h56 ?_
      refine g_no rfl rfl rfl rfl rfl h56 ?_
      refine g_do rfl rfl rfl rfl rfl h55 ?_
      refine g_v rfl (r_pick0 rfl h56) ?_
      refine g_v rfl (r_pick0 rfl h55) ?_
      refine g_nil ?_
      refine d_then ?_
      refine c_flat [(0, .slice Ap0_0 p0.length cp0_0), (5, .slice Ap0_0 p0.length cp0_0), (6, .int .i64 (p0.length : Int)), (7, .int .i64 i33), (30, .bool false)] ⟨rfl, rfl, rfl, rfl, rfl, trivial⟩ (fun u => ?_)
      refine c_sta ⟨w0, M, H, R, φ⟩ (fun _ h => h) ?_
      refine c_cond0 rfl rfl ?_
      refine c_skip ?_
      refine d_normal_block ?_
      refine d_then ?_
      refine c_region ?_
      refine g_v rfl (r_add rfl rfl rfl) ?_
      refine g_v rfl r_move ?_
      refine g_nil ?_
      obtain ⟨n63, hn63, hlp⟩ := nx_inl hm hnx2
      exact d_round (n63, w64 (i33 + 1)) hlp hn63 ⟨rfl, rfl, rfl, rfl, trivial⟩ (fun W h => h.phi (fun W hφ => hφ))
    ·
     replace hm := ite_t hm (of_decide_eq_true h55)
     refine g_no rfl rfl rfl rfl rfl h55 ?_
     refine g_no rfl rfl rfl rfl rfl h55 ?_
     refine g_nu rfl rfl rfl rfl rfl ?_
     refine g_nu rfl rfl rfl rfl rfl ?_
     refine g_nu rfl rfl rfl rfl rfl ?_
     refine g_nu rfl rfl rfl rfl rfl ?_
     refine g_nu rfl rfl rfl rfl rfl ?_
     refine g_nu rfl rfl rfl rfl rfl ?_
     refine g_nu rfl rfl rfl rfl rfl ?_
     refine g_no rfl rfl rfl rfl rfl h55 ?_
     refine g_v rfl (r_pick1 rfl h55) ?_
     refine g_nil ?_
     refine d_then ?_
     refine c_flat [(0, .slice Ap0_0 p0.length cp0_0), (5, .slice Ap0_0 p0.length cp0_0), (6, .int .i64 (p0.length : Int)), (7, .int .i64 i33), (30, .bool true)] ⟨rfl, rfl, rfl, rfl, rfl, trivial⟩ (fun u => ?_)
     refine c_sta ⟨w0, M, H, R, φ⟩ (fun _ h => h) ?_
     refine c_cond1 rfl rfl ?_
     refine c_seq ?_
     refine c_region ?_
     refine g_v rfl r_assign ?_
     refine g_nil ?_
     refine d_then ?_
     refine c_ret ?_
     refine d_ret_block ?_
     refine d_ret_then ?_
     refine d_ret_then ?_
     refine d_ret_block ?_
     refine d_ret_then ?_
     refine d_ret_then ?_
     replace hm := nx_out (C := (fun e => Sum.elim (fun e => m_plog_rising_j1 p0) (fun x => some x) e = some r)) hm hnx2 hr2
     replace hm : some false = some r := hm
     replace hm := Option.some.inj hm
     subst hm
     refine d_retC () Try.results38 ?_ trivial (fun W h => ok_pre (H1 := []) (R1 := []) h (fun W hφ => hφ)) (.inr rfl)
     refine res_tmp ?_
     refine res_nil ?_
     exact rfl
   ·
    replace hm := ite_t hm (of_decide_eq_true h54)
    refine g_no rfl rfl rfl rfl rfl h54 ?_
    refine g_v rfl (r_pick1 rfl h54) ?_
    refine g_v rfl r_move ?_
    refine g_no rfl rfl rfl rfl rfl rfl ?_
    refine g_no rfl rfl rfl rfl rfl rfl ?_
    refine g_no rfl rfl rfl rfl rfl rfl ?_
    refine g_nu rfl rfl rfl rfl rfl ?_
    refine g_nu rfl rfl rfl rfl rfl ?_
    refine g_nu rfl rfl rfl rfl rfl ?_
    refine g_nu rfl rfl rfl rfl rfl ?_
    refine g_nu rfl rfl rfl rfl rfl ?_
    refine g_nu rfl rfl rfl rfl rfl ?_
    refine g_nu rfl rfl rfl rfl rfl ?_
    refine g_no rfl rfl rfl rfl rfl rfl ?_
    refine g_v rfl (r_pick1 rfl rfl) ?_
    refine g_nil ?_
    refine d_then ?_
    refine c_flat [(0, .slice Ap0_0 p0.length cp0_0), (5, .slice Ap0_0 p0.length cp0_0), (6, .int .i64 (p0.length : Int)), (7, .int .i64 i33), (30, .bool true)] ⟨rfl, rfl, rfl, rfl, rfl, trivial⟩ (fun u => ?_)
    refine c_sta ⟨w0, M, H, R, φ⟩ (fun _ h => h) ?_
    refine c_cond1 rfl rfl ?_
    refine c_seq ?_
    refine c_region ?_
    refine g_v rfl r_assign ?_
    refine g_nil ?_
    refine d_then ?_
    refine c_ret ?_
    refine d_ret_block ?_
    refine d_ret_then ?_
    refine d_ret_then ?_
    refine d_ret_block ?_
    refine d_ret_then ?_
    refine d_ret_then ?_
    replace hm := nx_out (C := (fun e => Sum.elim (fun e => m_plog_rising_j1 p0) (fun x => some x) e = some r)) hm hnx2 hr2
    replace hm : some false = some r := hm
    replace hm := Option.some.inj hm
    subst hm
    refine d_retC () Try.results38 ?_ trivial (fun W h => ok_pre (H1 := []) (R1 := []) h (fun W hφ => hφ)) (.inr rfl)
    refine res_tmp ?_
    refine res_nil ?_
    exact rfl
  ·
   replace hm := ite_f hm (of_decide_eq_false h49)
   refine c_exit ?_
   refine d_exit_then ?_
   refine d_exit_then ?_
   refine d_exit_block ?_
   replace hm := nx_out (C := (fun e => Sum.elim (fun e => m_plog_rising_j1 p0) (fun x => some x) e = some r)) hm hnx2 hr2
   exact d_round () hm Nat.zero_lt_one ⟨rfl, trivial⟩ (fun W h => h.phi (fun W hφ => hφ))
 ·
  unfold m_plog_rising_j1 at hm
  refine d_flat [(0, .slice Ap0_0 p0.length cp0_0)] ⟨rfl, trivial⟩ (fun u => ?_)
  refine d_sta ⟨w0, M, H, R, φ⟩ (fun _ h => h) ?_
  refine d_then ?_
  refine c_seq ?_
  refine c_region ?_
  refine g_v rfl r_move ?_
  refine g_v rfl (r_lenL Try.underlying25 rfl) ?_
  refine g_v rfl (r_gtr rfl rfl) ?_
  refine g_v rfl r_assign ?_
  refine g_nil ?_
  refine d_then ?_
  refine c_ret ?_
  replace hm := Option.some.inj hm
  subst hm
  refine d_retC () Try.results38 ?_ trivial (fun W h => ok_pre (H1 := []) (R1 := []) h (fun W hφ => hφ)) (.inr rfl)
  refine res_tmp ?_
  refine res_nil ?_
  exact rfl

noncomputable def m_plog_List_j1  (l57 : List Int) : Option ((List Int) × Bool) :=
  (m_plog_rising l57).bind fun x60 =>
  if x60 = true then
    some (l57, true)
  else
    some (([] : List Int), false)
noncomputable def m_plog_List_s2 (p0 : ByteArray) (l73 : List Int) (i76 : Int) : Option (((List Int) × Int) ⊕ (List Int)) :=
  if i76 < (p0.size : Int) then
    (sat_ p0 i76).bind fun b89 =>
    (app 8 l73 [w64 b89]).bind fun l91 =>
    some (.inl (l91, w64 (i76 + 1)))
  else
    some (.inr l73)
noncomputable def m_plog_List (p0 : ByteArray) : Option ((List Int) × Bool) :=
  (loop (fun s => m_plog_List_s2 p0 s.1 s.2) (([] : List Int), 0)).bind fun e => m_plog_List_j1 e
theorem c_plog_List {w0 : World} {M : Nat → Prop} {H : List (Nat × Nat × Obj)} {R : List (Nat × Row)} {φ : World → Prop} (p0 : ByteArray) (r : (List Int) × Bool) (hm : m_plog_List p0 = some r) :
    Cn Try.prog 37 #[.string p0] ⟨w0, M, H, R, φ⟩ (fun x : Option Addr × Nat => .tuple #[.slice x.1 r.1.length x.2, .bool r.2]) (fun x => r.1.length ≤ x.2) (fun x => ⟨w0, M, H, (2000, ⟨.slice x.1 r.1.length x.2, 3, 1, r.1.length, r.1.flatMap (fun x : Int => [Value.int .i64 x])⟩) :: R, φ⟩) := by
 unfold m_plog_List at hm
 refine cn_intro (fn := Try.f37) (N := 23) Try.func37 rfl Try.ntmps37 rfl ?_
 refine c_seq ?_
 refine c_region ?_
 refine g_v rfl r_assign ?_
 refine g_v rfl r_assign ?_
 refine g_nil ?_
 refine d_then ?_
 refine c_seq ?_
 refine c_region ?_
 refine g_v rfl r_assign ?_
 refine g_nil ?_
 refine d_then ?_
 refine c_seq ?_
 refine c_seq ?_
 refine c_region ?_
 refine g_v rfl r_move ?_
 refine g_v rfl (r_len Try.underlying9 rfl) ?_
 refine g_v rfl r_move ?_
 refine g_nil ?_
 refine d_then ?_
 refine c_sta _ (fun W h => nilR h 3 3 1) ?_
 refine c_cut (ι := (List Int) × Option Addr × Nat) [4] (fun ⟨l57, A58, c59⟩ => [(4, .slice A58 l57.length c59)]) (fun ⟨l57, A58, c59⟩ => ⟨w0, M, H, (3, ⟨.slice A58 l57.length c59, 3, 1, l57.length, l57.flatMap (fun x : Int => [Value.int .i64 x])⟩) :: R, φ⟩) (fun ⟨l57, A58, c59⟩ => m_plog_List_j1 l57 = some r ∧ l57.length ≤ c59) ?_ (fun ⟨l57, A58, c59⟩ u ⟨hm, hc59⟩ => ?_)
 ·
  refine c_block ?_
  replace hm := bnd hm
  obtain ⟨out2, hl2, hr2⟩ := hm
  obtain ⟨n87', hl2⟩ := loop_lp hl2
  refine c_loopU (ι := Nat × (List Int) × Int × Option Addr × Nat) [0, 4, 7, 8] (fun ⟨n87, l73, i76, A74, c75⟩ => [(4, .slice A74 l73.length c75), (8, .int .i64 i76)]) (fun ⟨n87, l73, i76, A74, c75⟩ => ⟨w0, M, H, (3, ⟨.slice A74 l73.length c75, 3, 1, l73.length, l73.flatMap (fun x : Int => [Value.int .i64 x])⟩) :: R, φ⟩) (fun ⟨n87, l73, i76, A74, c75⟩ => Lp (fun s => m_plog_List_s2 p0 s.1 s.2) n87 (l73, i76) out2 ∧ l73.length ≤ c75) (fun ⟨n87, l73, i76, A74, c75⟩ => n87) (n87', ([] : List Int), 0, none, 0) ⟨hl2, (Nat.le_refl 0)⟩ ⟨rfl, rfl, rfl, rfl, trivial⟩ (fun W h => h.phi (fun W hφ => hφ)) (fun ⟨n87, l73, i76, A74, c75⟩ u ⟨hlp, hc75⟩ => ?_)
  obtain ⟨o2, hm, hnx2⟩ := lp_step hlp
  clear hlp
  replace hm : m_plog_List_s2 p0 l73 i76 = some o2 := hm
  unfold m_plog_List_s2 at hm
  refine c_flat [(0, .string p0), (4, .slice A74 l73.length c75), (7, .int .i64 (p0.size : Int)), (8, .int .i64 i76)] ⟨rfl, rfl, rfl, rfl, trivial⟩ (fun u => ?_)
  refine c_sta ⟨w0, M, H, (3, ⟨.slice A74 l73.length c75, 3, 1, l73.length, l73.flatMap (fun x : Int => [Value.int .i64 x])⟩) :: R, φ⟩ (fun _ h => h) ?_
  refine c_seq ?_
  refine c_region ?_
  refine g_v rfl (r_lss rfl rfl) ?_
  refine g_nil ?_
  refine d_then ?_
  refine c_seq ?_
  refine c_cond rfl (fun h88 => ?_) (fun h88 => ?_)
  ·
   replace hm := ite_t hm (of_decide_eq_true h88)
   refine c_skip ?_
   refine d_then ?_
   refine c_seq ?_
   refine c_block ?_
   refine c_seq ?_
   refine c_region ?_
   refine g_v rfl r_move ?_
   refine g_v rfl r_assign ?_
   refine g_nil ?_
   refine d_then ?_
   refine c_region ?_
   refine g_v rfl r_move ?_
   refine g_v rfl r_move ?_
   refine g_v rfl r_move ?_
   replace hm := bnd hm
   obtain ⟨b89, hb89, hm⟩ := hm
   refine g_v rfl (r_sat Try.underlying9 rfl rfl hb89) ?_
   refine g_v rfl (r_conv Try.underlying5 Try.underlying3 rfl rfl) ?_
   refine g_e rfl (e_lit (tag := 100160) (l := [w64 b89]) (enc := (fun x : Int => [Value.int .i64 x])) (sz := 1) rfl Try.underlying25 (lit3_10 _) rfl rfl (fun _ => rfl)) (fun g90 _ => ?_)
   replace hm := bnd hm
   obtain ⟨l91, hl91, hm⟩ := hm
   refine g_e rfl (e_appR (enc := (fun x : Int => [Value.int .i64 x])) (l := l73) (l1 := [w64 b89]) (l2 := l91) (tag := 3) Try.underlying25 inf3_11 rfl (by decide) (by decide) (fun _ => rfl) (fun _ => rfl) rfl hc75 rfl rfl (fun W hS => rowCl (tag := 100160) rfl W hS) hl91) (fun ⟨A92, c93⟩ hc93 => ?_)
   refine g_v rfl r_assign ?_
   refine g_nil ?_
   refine d_normal_block ?_
   refine d_then ?_
   refine c_flat [(0, .string p0), (4, .slice A92 l91.length c93), (7, .int .i64 (p0.size : Int)), (8, .int .i64 i76)] ⟨rfl, rfl, rfl, rfl, trivial⟩ (fun u => ?_)
   refine c_sta ⟨w0, M, H, (100160, ⟨.slice (some ⟨g90, 0, none⟩) [w64 b89].length 1, 3, 1, [w64 b89].length, [w64 b89].flatMap (fun x : Int => [Value.int .i64 x])⟩) :: (3, ⟨.slice A92 l91.length c93, 3, 1, l91.length, l91.flatMap (fun x : Int => [Value.int .i64 x])⟩) :: R, φ⟩ (fun _ h => h) ?_
   refine c_region ?_
   refine g_v rfl (r_add rfl rfl rfl) ?_
   refine g_v rfl r_move ?_
   refine g_nil ?_
   obtain ⟨n94, hn94, hlp⟩ := nx_inl hm hnx2
   exact d_round (n94, l91, w64 (i76 + 1), A92, c93) ⟨hlp, hc93⟩ hn94 ⟨rfl, rfl, rfl, rfl, trivial⟩ (fun W h => ((h.shut (t := 100160) rfl).phi (fun _ hh => hh.1)).phi (fun W hφ => hφ))
  ·
   replace hm := ite_f hm (of_decide_eq_false h88)
   refine c_exit ?_
   refine d_exit_then ?_
   refine d_exit_then ?_
   refine d_exit_block ?_
   replace hm := nx_out (C := (fun e => m_plog_List_j1 e = some r)) hm hnx2 hr2
   exact d_round (l73, A74, c75) ⟨hm, hc75⟩ Nat.zero_lt_one ⟨rfl, trivial⟩ (fun W h => h.phi (fun W hφ => hφ))
 ·
  unfold m_plog_List_j1 at hm
  refine d_flat [(4, .slice A58 l57.length c59)] ⟨rfl, trivial⟩ (fun u => ?_)
  refine d_sta ⟨w0, M, H, (3, ⟨.slice A58 l57.length c59, 3, 1, l57.length, l57.flatMap (fun x : Int => [Value.int .i64 x])⟩) :: R, φ⟩ (fun _ h => h) ?_
  refine d_then ?_
  refine c_seq ?_
  refine c_seq ?_
  refine c_region ?_
  refine g_v rfl r_move ?_
  replace hm := bnd hm
  obtain ⟨x60, hx61, hm⟩ := hm
  refine g_cn ⟨w0, M, _, _, φ⟩ (fun _ h => h) Try.call38 rfl rfl (c_plog_rising l57 A58 c59 hc59 (fun W hS => rowCl (tag := 3) rfl W hS) _ hx61) (fun _ _ => ?_)
  refine g_v rfl (r_not rfl) ?_
  refine g_nil ?_
  refine d_then ?_
  refine c_cond rfl (fun h62 => ?_) (fun h62 => ?_)
  ·
   have h62' : x60 = false := by revert h62; cases x60 <;> simp
   replace hm := ite_f hm (bool_nt h62')
   refine c_seq ?_
   refine c_region ?_
   refine g_v rfl r_assign ?_
   refine g_v rfl r_assign ?_
   refine g_nil ?_
   refine d_then ?_
   refine c_ret ?_
   refine d_ret_then ?_
   replace hm := Option.some.inj hm
   subst hm
   refine d_sta _ (fun W h => nilR h 4 3 1) ?_
   refine d_sta _ (fun W h => ok_frontR (t := 4) (t' := 2000) h rfl) ?_
   refine d_retC (none, 0) Try.results37 ?_ (Nat.le_refl 0) (fun W h => ((h.shut (t := 3) rfl).phi (fun _ hh => hh.1)).phi (fun W hφ => hφ)) (.inr rfl)
   refine res_tmp ?_
   refine res_tmp ?_
   refine res_nil ?_
   exact rfl
  ·
   have h62' : x60 = true := by revert h62; cases x60 <;> simp
   replace hm := ite_t hm h62'
   refine c_skip ?_
   refine d_then ?_
   refine c_seq ?_
   refine c_region ?_
   refine g_v rfl r_move ?_
   refine g_v rfl r_assign ?_
   refine g_v rfl r_assign ?_
   refine g_nil ?_
   refine d_then ?_
   refine c_ret ?_
   replace hm := Option.some.inj hm
   subst hm
   refine d_sta _ (fun W h => ok_frontR (t := 3) (t' := 2000) h rfl) ?_
   refine d_retC (A58, c59) Try.results37 ?_ hc59 (fun W h => h.phi (fun W hφ => hφ)) (.inr rfl)
   refine res_tmp ?_
   refine res_tmp ?_
   refine res_nil ?_
   exact rfl

noncomputable def m_plog_read_j1 (p0 : GHard) (i303 : Int) (i304 : Int) (l305 : List GEntry) : Option (GHard × Bool) :=
  some ((⟨p0.fTerm, p0.fVote, p0.fVoters, p0.fSnap, (⟨i303, i304, l305⟩ : GLog)⟩ : GHard), true)
noncomputable def m_plog_read (p0 : GHard) (p1 : ByteArray) : Option (GHard × Bool) :=
  (scutLo p1 1).bind fun s3 =>
  (sat_ p1 0).bind fun b7 =>
  if b7 = 87 then
    (m_plog_read_c2 false s3).bind fun (z14 : Int × Bool × ByteArray) =>
    (m_plog_read_c2 z14.2.1 z14.2.2).bind fun (z19 : Int × Bool × ByteArray) =>
    (m_plog_read_c2 z19.2.1 z19.2.2).bind fun (z24 : Int × Bool × ByteArray) =>
    (m_plog_read_c2 z24.2.1 z24.2.2).bind fun (z29 : Int × Bool × ByteArray) =>
    (m_plog_read_c2 z29.2.1 z29.2.2).bind fun (z54 : Int × Bool × ByteArray) =>
    (m_plog_read_c1 z54.1 z54.2.2 z54.2.1).bind fun (z59 : ByteArray × ByteArray × Bool) =>
    (m_plog_List z59.1).bind fun (z66 : (List Int) × Bool) =>
    (m_plog_read_c2 z59.2.2 z59.2.1).bind fun (z91 : Int × Bool × ByteArray) =>
    (m_plog_read_c1 z91.1 z91.2.2 z91.2.1).bind fun (z96 : ByteArray × ByteArray × Bool) =>
    if z96.2.2 = true then
      some ((⟨z14.1, z19.1, z66.1, z96.1, (⟨z24.1, z29.1, ([] : List GEntry)⟩ : GLog)⟩ : GHard), false)
    else
      if z96.2.1 = (⟨#[]⟩ : ByteArray) then
        if z66.2 = true then
          some ((⟨z14.1, z19.1, z66.1, z96.1, (⟨z24.1, z29.1, ([] : List GEntry)⟩ : GLog)⟩ : GHard), decide ((z96.1.size : Int) ≤ 50000))
        else
          if z59.1 = (⟨#[]⟩ : ByteArray) then
            some ((⟨z14.1, z19.1, z66.1, z96.1, (⟨z24.1, z29.1, ([] : List GEntry)⟩ : GLog)⟩ : GHard), decide ((z96.1.size : Int) ≤ 50000))
          else
            some ((⟨z14.1, z19.1, z66.1, z96.1, (⟨z24.1, z29.1, ([] : List GEntry)⟩ : GLog)⟩ : GHard), false)
      else
        some ((⟨z14.1, z19.1, z66.1, z96.1, (⟨z24.1, z29.1, ([] : List GEntry)⟩ : GLog)⟩ : GHard), false)
  else
    if b7 = 84 then
      (m_plog_read_c2 false s3).bind fun (z124 : Int × Bool × ByteArray) =>
      (m_plog_read_c2 z124.2.1 z124.2.2).bind fun (z129 : Int × Bool × ByteArray) =>
      if z129.2.1 = true then
        some ((⟨z124.1, z129.1, p0.fVoters, p0.fSnap, p0.fLog⟩ : GHard), false)
      else
        some ((⟨z124.1, z129.1, p0.fVoters, p0.fSnap, p0.fLog⟩ : GHard), decide (z129.2.2 = (⟨#[]⟩ : ByteArray)))
    else
      if b7 = 69 then
        (m_plog_read_c2 false s3).bind fun (z138 : Int × Bool × ByteArray) =>
        (m_plog_read_c2 z138.2.1 z138.2.2).bind fun (z143 : Int × Bool × ByteArray) =>
        (m_plog_read_c1 1 z143.2.2 z143.2.1).bind fun (z149 : ByteArray × ByteArray × Bool) =>
        if z149.2.2 = true then
          some (p0, false)
        else
          if z138.1 ≤ p0.fLog.fBase then
            some (p0, false)
          else
            (m_plog_Last p0.fLog).bind fun x152 =>
            if w64 (x152 + 1) < z138.1 then
              some (p0, false)
            else
              (sat_ z149.1 0).bind fun b157 =>
              (m_plog_upto p0.fLog (w64 (z138.1 - 1))).bind fun x368 =>
              (m_plog_Add x368 [(⟨z143.1, w64 b157, z149.2.1⟩ : GEntry)]).bind fun x378 =>
              m_plog_read_j1 p0 x378.fBase x378.fBaseTerm x378.fEntries
      else
        some (p0, false)
theorem c_plog_read {w0 : World} {M : Nat → Prop} {H : List (Nat × Nat × Obj)} {R : List (Nat × Row)} {φ : World → Prop} (p0 : GHard) (Ap0_0 : Option Addr) (cp0_0 : Nat) (hcp0_0 : p0.fVoters.length ≤ cp0_0) (fp0_0 : ∀ W, φ W → Cl W Ap0_0 (p0.fVoters.flatMap (fun x : Int => [Value.int .i64 x]))) (Ap0_1 : Option Addr) (cp0_1 : Nat) (hcp0_1 : p0.fLog.fEntries.length ≤ cp0_1) (fp0_1 : ∀ W, φ W → Cl W Ap0_1 (p0.fLog.fEntries.flatMap GEntry.enc)) (p1 : ByteArray) (r : GHard × Bool) (hm : m_plog_read p0 p1 = some r) :
    Cn Try.prog 24 #[.agg #[.int .i64 p0.fTerm, .int .i64 p0.fVote, .slice Ap0_0 p0.fVoters.length cp0_0, .string p0.fSnap, .int .i64 p0.fLog.fBase, .int .i64 p0.fLog.fBaseTerm, .slice Ap0_1 p0.fLog.fEntries.length cp0_1], .string p1] ⟨w0, M, H, R, φ⟩ (fun x : Option Addr × Nat × Option Addr × Nat => .tuple #[.agg #[.int .i64 r.1.fTerm, .int .i64 r.1.fVote, .slice x.1 r.1.fVoters.length x.2.1, .string r.1.fSnap, .int .i64 r.1.fLog.fBase, .int .i64 r.1.fLog.fBaseTerm, .slice x.2.2.1 r.1.fLog.fEntries.length x.2.2.2], .bool r.2]) (fun x => r.1.fVoters.length ≤ x.2.1 ∧ r.1.fLog.fEntries.length ≤ x.2.2.2) (fun x => ⟨w0, M, H, R, fun W => φ W ∧ Cl W x.1 (r.1.fVoters.flatMap (fun x : Int => [Value.int .i64 x])) ∧ Cl W x.2.2.1 (r.1.fLog.fEntries.flatMap GEntry.enc)⟩) := by
 unfold m_plog_read at hm
 refine cn_intro (fn := Try.f24) (N := 138) Try.func24 rfl Try.ntmps24 rfl ?_
 refine c_seq ?_
 refine c_region ?_
 refine g_e rfl (e_box 100020 rfl) (fun g1 _ => ?_)
 refine g_e rfl (e_alloc 100040 Try.zeroValue30) (fun g2 _ => ?_)
 refine g_v rfl r_assign ?_
 refine g_nil ?_
 refine d_then ?_
 refine c_seq ?_
 refine c_region ?_
 refine g_v rfl r_move ?_
 replace hm := bnd hm
 obtain ⟨s3, hs3, hm⟩ := hm
 refine g_v rfl (r_scutLo Try.underlying9 rfl rfl hs3) ?_
 refine g_e rfl (e_alloc 100060 Try.zeroValue9) (fun g4 _ => ?_)
 refine g_e rfl (e_alloc 100070 Try.zeroValue4) (fun g5 _ => ?_)
 refine g_storeL (tag := 100060) rfl rfl rfl rfl Try.sizeOf9 rfl rfl ?_
 refine g_storeL (tag := 100070) rfl rfl rfl rfl Try.sizeOf4 rfl rfl ?_
 refine g_nil ?_
 refine d_then ?_
 refine c_flat [(1, .string p1), (2, .pointer (some ⟨g1, 0, none⟩)), (4, .pointer (some ⟨g2, 0, none⟩)), (6, .pointer (some ⟨g4, 0, none⟩)), (7, .pointer (some ⟨g5, 0, none⟩))] ⟨rfl, rfl, rfl, rfl, rfl, trivial⟩ (fun u => ?_)
 refine c_sta ⟨w0, M, (100070, g5, .cells #[.bool false] 4 (0, 0)) :: (100060, g4, .cells #[.string s3] 9 (0, 0)) :: (100040, g2, .cells #[.int .i64 0, .int .i64 0, .slice none 0 0, .string (⟨#[]⟩ : ByteArray), .int .i64 0, .int .i64 0, .slice none 0 0] 30 (0, 0)) :: (100020, g1, .cells #[.int .i64 p0.fTerm, .int .i64 p0.fVote, .slice Ap0_0 p0.fVoters.length cp0_0, .string p0.fSnap, .int .i64 p0.fLog.fBase, .int .i64 p0.fLog.fBaseTerm, .slice Ap0_1 p0.fLog.fEntries.length cp0_1] 30 (0, 0)) :: H, R, φ⟩ (fun _ h => h) ?_
 refine c_seq ?_
 refine c_region ?_
 refine g_v rfl (r_mkf rfl) ?_
 refine g_e rfl (e_alloc 100080 Try.zeroValue71) (fun g6 _ => ?_)
 refine g_storeL (tag := 100080) rfl rfl rfl rfl Try.sizeOf71 rfl rfl ?_
 refine g_nil ?_
 refine d_then ?_
 refine c_seq ?_
 refine c_region ?_
 refine g_v rfl (r_mkf rfl) ?_
 refine g_v rfl r_assign ?_
 refine g_nil ?_
 refine d_then ?_
 refine c_seq ?_
 refine c_seq ?_
 refine c_region ?_
 refine g_v rfl r_move ?_
 replace hm := bnd hm
 obtain ⟨b7, hb7, hm⟩ := hm
 refine g_v rfl (r_sat Try.underlying9 rfl rfl hb7) ?_
 refine g_nil ?_
 refine d_then ?_
 refine c_block ?_
 refine c_seq ?_
 refine c_region ?_
 refine g_v rfl (r_eql rfl rfl) ?_
 refine g_v rfl r_assign ?_
 refine g_nil ?_
 refine d_then ?_
 refine c_flat [(2, .pointer (some ⟨g1, 0, none⟩)), (4, .pointer (some ⟨g2, 0, none⟩)), (6, .pointer (some ⟨g4, 0, none⟩)), (7, .pointer (some ⟨g5, 0, none⟩)), (8, .pointer (some ⟨g6, 0, none⟩)), (9, .func (.func 36) #[] #[.pointer (some ⟨g6, 0, none⟩), .pointer (some ⟨g5, 0, none⟩)]), (23, .int .u8 b7), (24, .bool (decide (b7 = 87)))] ⟨rfl, rfl, rfl, rfl, rfl, rfl, rfl, rfl, trivial⟩ (fun u => ?_)
 refine c_sta ⟨w0, M, (100080, g6, .cells #[.func (.func 35) #[] #[.pointer (some ⟨g4, 0, none⟩), .pointer (some ⟨g5, 0, none⟩)]] 71 (0, 0)) :: (100070, g5, .cells #[.bool false] 4 (0, 0)) :: (100060, g4, .cells #[.string s3] 9 (0, 0)) :: (100040, g2, .cells #[.int .i64 0, .int .i64 0, .slice none 0 0, .string (⟨#[]⟩ : ByteArray), .int .i64 0, .int .i64 0, .slice none 0 0] 30 (0, 0)) :: (100020, g1, .cells #[.int .i64 p0.fTerm, .int .i64 p0.fVote, .slice Ap0_0 p0.fVoters.length cp0_0, .string p0.fSnap, .int .i64 p0.fLog.fBase, .int .i64 p0.fLog.fBaseTerm, .slice Ap0_1 p0.fLog.fEntries.length cp0_1] 30 (0, 0)) :: H, R, φ⟩ (fun _ h => h) ?_
 refine c_cond rfl (fun h8 => ?_) (fun h8 => ?_)
 ·
  replace hm := ite_t hm (of_decide_eq_true h8)
  refine c_seq ?_
  refine c_region ?_
  refine g_e rfl (e_alloc 100100 Try.zeroValue75) (fun g9 _ => ?_)
  refine g_nil ?_
  refine d_then ?_
  refine c_seq ?_
  refine c_seq ?_
  refine c_region ?_
  refine g_v rfl r_move ?_
  refine g_nil ?_
  refine d_then ?_
  refine c_block ?_
  refine c_rounds 64 ?_
  refine c_seq ?_
  refine c_region ?_
  refine g_v rfl (r_lss rfl rfl) ?_
  refine g_nil ?_
  refine d_then ?_
  refine c_seq ?_
  refine c_cond1 rfl (by decide) ?_
  refine c_skip ?_
  refine d_then ?_
  refine c_seq ?_
  refine c_block ?_
  refine c_seq ?_
  refine c_region ?_
  refine g_v rfl r_move ?_
  refine g_v rfl r_assign ?_
  refine g_nil ?_
  refine d_then ?_
  refine c_region ?_
  refine g_v rfl r_move ?_
  refine g_v rfl r_move ?_
  replace hm := bnd hm
  obtain ⟨⟨x10, x11, x12⟩, hx13, hm⟩ := hm
  refine g_cnv ⟨w0, M, (1000, g6, .cells #[.func (.func 35) #[] #[.pointer (some ⟨g4, 0, none⟩), .pointer (some ⟨g5, 0, none⟩)]] 71 (0, 0)) :: (1001, g5, .cells #[.bool false] 4 (0, 0)) :: (1002, g4, .cells #[.string s3] 9 (0, 0)) :: (100100, g9, .cells #[.int .i64 0, .int .i64 0, .int .i64 0, .int .i64 0] 75 (0, 0)) :: (100040, g2, .cells #[.int .i64 0, .int .i64 0, .slice none 0 0, .string (⟨#[]⟩ : ByteArray), .int .i64 0, .int .i64 0, .slice none 0 0] 30 (0, 0)) :: (100020, g1, .cells #[.int .i64 p0.fTerm, .int .i64 p0.fVote, .slice Ap0_0 p0.fVoters.length cp0_0, .string p0.fSnap, .int .i64 p0.fLog.fBase, .int .i64 p0.fLog.fBaseTerm, .slice Ap0_1 p0.fLog.fEntries.length cp0_1] 30 (0, 0)) :: H, R, φ⟩ (fun W h => (ok_front (t := 100080) (t' := 1000) (ok_front (t := 100070) (t' := 1001) (ok_front (t := 100060) (t' := 1002) h rfl) rfl) rfl)) Try.call36 rfl rfl rfl (c_plog_read_c2 g6 g5 false g4 s3 _ hx13) (fun _ _ => ?_)
  refine g_sta _ (fun W h => (ok_front (t := 1000) (t' := 100080) (ok_front (t := 1001) (t' := 100070) (ok_front (t := 1002) (t' := 100060) h rfl) rfl) rfl)) ?_
  refine g_v rfl (r_elemH (n := 0) Try.underlying75 Try.sizeOf3 rfl rfl (by decide) (by decide) rfl) ?_
  refine g_storeL (tag := 100100) rfl rfl rfl rfl Try.sizeOf3 rfl rfl ?_
  refine g_nil ?_
  refine d_normal_block ?_
  refine d_then ?_
  refine c_flat [(2, .pointer (some ⟨g1, 0, none⟩)), (4, .pointer (some ⟨g2, 0, none⟩)), (6, .pointer (some ⟨g4, 0, none⟩)), (7, .pointer (some ⟨g5, 0, none⟩)), (8, .pointer (some ⟨g6, 0, none⟩)), (9, .func (.func 36) #[] #[.pointer (some ⟨g6, 0, none⟩), .pointer (some ⟨g5, 0, none⟩)]), (10, .pointer (some ⟨g9, 0, none⟩)), (26, .int .i64 0)] ⟨rfl, rfl, rfl, rfl, rfl, rfl, rfl, rfl, trivial⟩ (fun u => ?_)
  refine c_sta ⟨w0, M, (100080, g6, .cells #[.func (.func 35) #[] #[.pointer (some ⟨g4, 0, none⟩), .pointer (some ⟨g5, 0, none⟩)]] 71 (0, 0)) :: (100070, g5, .cells #[.bool x11] 4 (0, 0)) :: (100060, g4, .cells #[.string x12] 9 (0, 0)) :: (100100, g9, .cells #[.int .i64 x10, .int .i64 0, .int .i64 0, .int .i64 0] 75 (0, 0)) :: (100040, g2, .cells #[.int .i64 0, .int .i64 0, .slice none 0 0, .string (⟨#[]⟩ : ByteArray), .int .i64 0, .int .i64 0, .slice none 0 0] 30 (0, 0)) :: (100020, g1, .cells #[.int .i64 p0.fTerm, .int .i64 p0.fVote, .slice Ap0_0 p0.fVoters.length cp0_0, .string p0.fSnap, .int .i64 p0.fLog.fBase, .int .i64 p0.fLog.fBaseTerm, .slice Ap0_1 p0.fLog.fEntries.length cp0_1] 30 (0, 0)) :: H, R, φ⟩ (fun _ h => h) ?_
  refine c_region ?_
  refine g_v rfl (r_add rfl rfl (show IntKind.i64.wrap (0 + 1) = 1 by decide)) ?_
  refine g_v rfl r_move ?_
  refine g_nil ?_
  refine d_rounds ?_
  refine c_flat [(2, .pointer (some ⟨g1, 0, none⟩)), (4, .pointer (some ⟨g2, 0, none⟩)), (6, .pointer (some ⟨g4, 0, none⟩)), (7, .pointer (some ⟨g5, 0, none⟩)), (8, .pointer (some ⟨g6, 0, none⟩)), (9, .func (.func 36) #[] #[.pointer (some ⟨g6, 0, none⟩), .pointer (some ⟨g5, 0, none⟩)]), (10, .pointer (some ⟨g9, 0, none⟩)), (26, .int .i64 1)] ⟨rfl, rfl, rfl, rfl, rfl, rfl, rfl, rfl, trivial⟩ (fun u => ?_)
  refine c_sta ⟨w0, M, (100080, g6, .cells #[.func (.func 35) #[] #[.pointer (some ⟨g4, 0, none⟩), .pointer (some ⟨g5, 0, none⟩)]] 71 (0, 0)) :: (100070, g5, .cells #[.bool x11] 4 (0, 0)) :: (100060, g4, .cells #[.string x12] 9 (0, 0)) :: (100100, g9, .cells #[.int .i64 x10, .int .i64 0, .int .i64 0, .int .i64 0] 75 (0, 0)) :: (100040, g2, .cells #[.int .i64 0, .int .i64 0, .slice none 0 0, .string (⟨#[]⟩ : ByteArray), .int .i64 0, .int .i64 0, .slice none 0 0] 30 (0, 0)) :: (100020, g1, .cells #[.int .i64 p0.fTerm, .int .i64 p0.fVote, .slice Ap0_0 p0.fVoters.length cp0_0, .string p0.fSnap, .int .i64 p0.fLog.fBase, .int .i64 p0.fLog.fBaseTerm, .slice Ap0_1 p0.fLog.fEntries.length cp0_1] 30 (0, 0)) :: H, R, φ⟩ (fun _ h => h) ?_
  refine c_seq ?_
  refine c_region ?_
  refine g_v rfl (r_lss rfl rfl) ?_
  refine g_nil ?_
  refine d_then ?_
  refine c_seq ?_
  refine c_cond1 rfl (by decide) ?_
  refine c_skip ?_
  refine d_then ?_
  refine c_seq ?_
  refine c_block ?_
  refine c_seq ?_
  refine c_region ?_
  refine g_v rfl r_move ?_
  refine g_v rfl r_assign ?_
  refine g_nil ?_
  refine d_then ?_
  refine c_region ?_
  refine g_v rfl r_move ?_
  refine g_v rfl r_move ?_
  replace hm := bnd hm
  obtain ⟨⟨x15, x16, x17⟩, hx18, hm⟩ := hm
  refine g_cnv ⟨w0, M, (1000, g6, .cells #[.func (.func 35) #[] #[.pointer (some ⟨g4, 0, none⟩), .pointer (some ⟨g5, 0, none⟩)]] 71 (0, 0)) :: (1001, g5, .cells #[.bool x11] 4 (0, 0)) :: (1002, g4, .cells #[.string x12] 9 (0, 0)) :: (100100, g9, .cells #[.int .i64 x10, .int .i64 0, .int .i64 0, .int .i64 0] 75 (0, 0)) :: (100040, g2, .cells #[.int .i64 0, .int .i64 0, .slice none 0 0, .string (⟨#[]⟩ : ByteArray), .int .i64 0, .int .i64 0, .slice none 0 0] 30 (0, 0)) :: (100020, g1, .cells #[.int .i64 p0.fTerm, .int .i64 p0.fVote, .slice Ap0_0 p0.fVoters.length cp0_0, .string p0.fSnap, .int .i64 p0.fLog.fBase, .int .i64 p0.fLog.fBaseTerm, .slice Ap0_1 p0.fLog.fEntries.length cp0_1] 30 (0, 0)) :: H, R, φ⟩ (fun W h => (ok_front (t := 100080) (t' := 1000) (ok_front (t := 100070) (t' := 1001) (ok_front (t := 100060) (t' := 1002) h rfl) rfl) rfl)) Try.call36 rfl rfl rfl (c_plog_read_c2 g6 g5 x11 g4 x12 _ hx18) (fun _ _ => ?_)
  refine g_sta _ (fun W h => (ok_front (t := 1000) (t' := 100080) (ok_front (t := 1001) (t' := 100070) (ok_front (t := 1002) (t' := 100060) h rfl) rfl) rfl)) ?_
  refine g_v rfl (r_elemH (n := 1) Try.underlying75 Try.sizeOf3 rfl rfl (by decide) (by decide) rfl) ?_
  refine g_storeL (tag := 100100) rfl rfl rfl rfl Try.sizeOf3 rfl rfl ?_
  refine g_nil ?_
  refine d_normal_block ?_
  refine d_then ?_
  refine c_region ?_
  refine g_v rfl (r_add rfl rfl (show IntKind.i64.wrap (1 + 1) = 2 by decide)) ?_
  refine g_v rfl r_move ?_
  refine g_nil ?_
  refine d_rounds ?_
  refine c_flat [(2, .pointer (some ⟨g1, 0, none⟩)), (4, .pointer (some ⟨g2, 0, none⟩)), (6, .pointer (some ⟨g4, 0, none⟩)), (7, .pointer (some ⟨g5, 0, none⟩)), (8, .pointer (some ⟨g6, 0, none⟩)), (9, .func (.func 36) #[] #[.pointer (some ⟨g6, 0, none⟩), .pointer (some ⟨g5, 0, none⟩)]), (10, .pointer (some ⟨g9, 0, none⟩)), (26, .int .i64 2)] ⟨rfl, rfl, rfl, rfl, rfl, rfl, rfl, rfl, trivial⟩ (fun u => ?_)
  refine c_sta ⟨w0, M, (100080, g6, .cells #[.func (.func 35) #[] #[.pointer (some ⟨g4, 0, none⟩), .pointer (some ⟨g5, 0, none⟩)]] 71 (0, 0)) :: (100070, g5, .cells #[.bool x16] 4 (0, 0)) :: (100060, g4, .cells #[.string x17] 9 (0, 0)) :: (100100, g9, .cells #[.int .i64 x10, .int .i64 x15, .int .i64 0, .int .i64 0] 75 (0, 0)) :: (100040, g2, .cells #[.int .i64 0, .int .i64 0, .slice none 0 0, .string (⟨#[]⟩ : ByteArray), .int .i64 0, .int .i64 0, .slice none 0 0] 30 (0, 0)) :: (100020, g1, .cells #[.int .i64 p0.fTerm, .int .i64 p0.fVote, .slice Ap0_0 p0.fVoters.length cp0_0, .string p0.fSnap, .int .i64 p0.fLog.fBase, .int .i64 p0.fLog.fBaseTerm, .slice Ap0_1 p0.fLog.fEntries.length cp0_1] 30 (0, 0)) :: H, R, φ⟩ (fun _ h => h) ?_
  refine c_seq ?_
  refine c_region ?_
  refine g_v rfl (r_lss rfl rfl) ?_
  refine g_nil ?_
  refine d_then ?_
  refine c_seq ?_
  refine c_cond1 rfl (by decide) ?_
  refine c_skip ?_
  refine d_then ?_
  refine c_seq ?_
  refine c_block ?_
  refine c_seq ?_
  refine c_region ?_
  refine g_v rfl r_move ?_
  refine g_v rfl r_assign ?_
  refine g_nil ?_
  refine d_then ?_
  refine c_region ?_
  refine g_v rfl r_move ?_
  refine g_v rfl r_move ?_
  replace hm := bnd hm
  obtain ⟨⟨x20, x21, x22⟩, hx23, hm⟩ := hm
  refine g_cnv ⟨w0, M, (1000, g6, .cells #[.func (.func 35) #[] #[.pointer (some ⟨g4, 0, none⟩), .pointer (some ⟨g5, 0, none⟩)]] 71 (0, 0)) :: (1001, g5, .cells #[.bool x16] 4 (0, 0)) :: (1002, g4, .cells #[.string x17] 9 (0, 0)) :: (100100, g9, .cells #[.int .i64 x10, .int .i64 x15, .int .i64 0, .int .i64 0] 75 (0, 0)) :: (100040, g2, .cells #[.int .i64 0, .int .i64 0, .slice none 0 0, .string (⟨#[]⟩ : ByteArray), .int .i64 0, .int .i64 0, .slice none 0 0] 30 (0, 0)) :: (100020, g1, .cells #[.int .i64 p0.fTerm, .int .i64 p0.fVote, .slice Ap0_0 p0.fVoters.length cp0_0, .string p0.fSnap, .int .i64 p0.fLog.fBase, .int .i64 p0.fLog.fBaseTerm, .slice Ap0_1 p0.fLog.fEntries.length cp0_1] 30 (0, 0)) :: H, R, φ⟩ (fun W h => (ok_front (t := 100080) (t' := 1000) (ok_front (t := 100070) (t' := 1001) (ok_front (t := 100060) (t' := 1002) h rfl) rfl) rfl)) Try.call36 rfl rfl rfl (c_plog_read_c2 g6 g5 x16 g4 x17 _ hx23) (fun _ _ => ?_)
  refine g_sta _ (fun W h => (ok_front (t := 1000) (t' := 100080) (ok_front (t := 1001) (t' := 100070) (ok_front (t := 1002) (t' := 100060) h rfl) rfl) rfl)) ?_
  refine g_v rfl (r_elemH (n := 2) Try.underlying75 Try.sizeOf3 rfl rfl (by decide) (by decide) rfl) ?_
  refine g_storeL (tag := 100100) rfl rfl rfl rfl Try.sizeOf3 rfl rfl ?_
  refine g_nil ?_
  refine d_normal_block ?_
  refine d_then ?_
  refine c_region ?_
  refine g_v rfl (r_add rfl rfl (show IntKind.i64.wrap (2 + 1) = 3 by decide)) ?_
  refine g_v rfl r_move ?_
  refine g_nil ?_
  refine d_rounds ?_
  refine c_flat [(2, .pointer (some ⟨g1, 0, none⟩)), (4, .pointer (some ⟨g2, 0, none⟩)), (6, .pointer (some ⟨g4, 0, none⟩)), (7, .pointer (some ⟨g5, 0, none⟩)), (8, .pointer (some ⟨g6, 0, none⟩)), (9, .func (.func 36) #[] #[.pointer (some ⟨g6, 0, none⟩), .pointer (some ⟨g5, 0, none⟩)]), (10, .pointer (some ⟨g9, 0, none⟩)), (26, .int .i64 3)] ⟨rfl, rfl, rfl, rfl, rfl, rfl, rfl, rfl, trivial⟩ (fun u => ?_)
  refine c_sta ⟨w0, M, (100080, g6, .cells #[.func (.func 35) #[] #[.pointer (some ⟨g4, 0, none⟩), .pointer (some ⟨g5, 0, none⟩)]] 71 (0, 0)) :: (100070, g5, .cells #[.bool x21] 4 (0, 0)) :: (100060, g4, .cells #[.string x22] 9 (0, 0)) :: (100100, g9, .cells #[.int .i64 x10, .int .i64 x15, .int .i64 x20, .int .i64 0] 75 (0, 0)) :: (100040, g2, .cells #[.int .i64 0, .int .i64 0, .slice none 0 0, .string (⟨#[]⟩ : ByteArray), .int .i64 0, .int .i64 0, .slice none 0 0] 30 (0, 0)) :: (100020, g1, .cells #[.int .i64 p0.fTerm, .int .i64 p0.fVote, .slice Ap0_0 p0.fVoters.length cp0_0, .string p0.fSnap, .int .i64 p0.fLog.fBase, .int .i64 p0.fLog.fBaseTerm, .slice Ap0_1 p0.fLog.fEntries.length cp0_1] 30 (0, 0)) :: H, R, φ⟩ (fun _ h => h) ?_
  refine c_seq ?_
  refine c_region ?_
  refine g_v rfl (r_lss rfl rfl) ?_
  refine g_nil ?_
  refine d_then ?_
  refine c_seq ?_
  refine c_cond1 rfl (by decide) ?_
  refine c_skip ?_
  refine d_then ?_
  refine c_seq ?_
  refine c_block ?_
  refine c_seq ?_
  refine c_region ?_
  refine g_v rfl r_move ?_
  refine g_v rfl r_assign ?_
  refine g_nil ?_
  refine d_then ?_
  refine c_region ?_
  refine g_v rfl r_move ?_
  refine g_v rfl r_move ?_
  replace hm := bnd hm
  obtain ⟨⟨x25, x26, x27⟩, hx28, hm⟩ := hm
  refine g_cnv ⟨w0, M, (1000, g6, .cells #[.func (.func 35) #[] #[.pointer (some ⟨g4, 0, none⟩), .pointer (some ⟨g5, 0, none⟩)]] 71 (0, 0)) :: (1001, g5, .cells #[.bool x21] 4 (0, 0)) :: (1002, g4, .cells #[.string x22] 9 (0, 0)) :: (100100, g9, .cells #[.int .i64 x10, .int .i64 x15, .int .i64 x20, .int .i64 0] 75 (0, 0)) :: (100040, g2, .cells #[.int .i64 0, .int .i64 0, .slice none 0 0, .string (⟨#[]⟩ : ByteArray), .int .i64 0, .int .i64 0, .slice none 0 0] 30 (0, 0)) :: (100020, g1, .cells #[.int .i64 p0.fTerm, .int .i64 p0.fVote, .slice Ap0_0 p0.fVoters.length cp0_0, .string p0.fSnap, .int .i64 p0.fLog.fBase, .int .i64 p0.fLog.fBaseTerm, .slice Ap0_1 p0.fLog.fEntries.length cp0_1] 30 (0, 0)) :: H, R, φ⟩ (fun W h => (ok_front (t := 100080) (t' := 1000) (ok_front (t := 100070) (t' := 1001) (ok_front (t := 100060) (t' := 1002) h rfl) rfl) rfl)) Try.call36 rfl rfl rfl (c_plog_read_c2 g6 g5 x21 g4 x22 _ hx28) (fun _ _ => ?_)
  refine g_sta _ (fun W h => (ok_front (t := 1000) (t' := 100080) (ok_front (t := 1001) (t' := 100070) (ok_front (t := 1002) (t' := 100060) h rfl) rfl) rfl)) ?_
  refine g_v rfl (r_elemH (n := 3) Try.underlying75 Try.sizeOf3 rfl rfl (by decide) (by decide) rfl) ?_
  refine g_storeL (tag := 100100) rfl rfl rfl rfl Try.sizeOf3 rfl rfl ?_
  refine g_nil ?_
  refine d_normal_block ?_
  refine d_then ?_
  refine c_region ?_
  refine g_v rfl (r_add rfl rfl (show IntKind.i64.wrap (3 + 1) = 4 by decide)) ?_
  refine g_v rfl r_move ?_
  refine g_nil ?_
  refine d_rounds ?_
  refine c_flat [(2, .pointer (some ⟨g1, 0, none⟩)), (4, .pointer (some ⟨g2, 0, none⟩)), (6, .pointer (some ⟨g4, 0, none⟩)), (7, .pointer (some ⟨g5, 0, none⟩)), (8, .pointer (some ⟨g6, 0, none⟩)), (9, .func (.func 36) #[] #[.pointer (some ⟨g6, 0, none⟩), .pointer (some ⟨g5, 0, none⟩)]), (10, .pointer (some ⟨g9, 0, none⟩)), (26, .int .i64 4)] ⟨rfl, rfl, rfl, rfl, rfl, rfl, rfl, rfl, trivial⟩ (fun u => ?_)
  refine c_sta ⟨w0, M, (100080, g6, .cells #[.func (.func 35) #[] #[.pointer (some ⟨g4, 0, none⟩), .pointer (some ⟨g5, 0, none⟩)]] 71 (0, 0)) :: (100070, g5, .cells #[.bool x26] 4 (0, 0)) :: (100060, g4, .cells #[.string x27] 9 (0, 0)) :: (100100, g9, .cells #[.int .i64 x10, .int .i64 x15, .int .i64 x20, .int .i64 x25] 75 (0, 0)) :: (100040, g2, .cells #[.int .i64 0, .int .i64 0, .slice none 0 0, .string (⟨#[]⟩ : ByteArray), .int .i64 0, .int .i64 0, .slice none 0 0] 30 (0, 0)) :: (100020, g1, .cells #[.int .i64 p0.fTerm, .int .i64 p0.fVote, .slice Ap0_0 p0.fVoters.length cp0_0, .string p0.fSnap, .int .i64 p0.fLog.fBase, .int .i64 p0.fLog.fBaseTerm, .slice Ap0_1 p0.fLog.fEntries.length cp0_1] 30 (0, 0)) :: H, R, φ⟩ (fun _ h => h) ?_
  refine c_seq ?_
  refine c_region ?_
  refine g_v rfl (r_lss rfl rfl) ?_
  refine g_nil ?_
  refine d_then ?_
  refine c_seq ?_
  refine c_cond0 rfl (by decide) ?_
  refine c_exit ?_
  refine d_exit_then ?_
  refine d_exit_then ?_
  refine d_exit_block ?_
  refine d_then ?_
  refine c_seq ?_
  refine c_region ?_
  refine g_v rfl (r_elemH (n := 0) Try.underlying75 Try.sizeOf3 rfl rfl (by decide) (by decide) rfl) ?_
  refine g_v rfl (r_load (tag := 100100) rfl rfl rfl Try.isAgg3) ?_
  refine g_v rfl (r_elemH (n := 1) Try.underlying75 Try.sizeOf3 rfl rfl (by decide) (by decide) rfl) ?_
  refine g_v rfl (r_load (tag := 100100) rfl rfl rfl Try.isAgg3) ?_
  refine g_v rfl (r_elemH (n := 2) Try.underlying75 Try.sizeOf3 rfl rfl (by decide) (by decide) rfl) ?_
  refine g_v rfl (r_load (tag := 100100) rfl rfl rfl Try.isAgg3) ?_
  refine g_v rfl (r_elemH (n := 3) Try.underlying75 Try.sizeOf3 rfl rfl (by decide) (by decide) rfl) ?_
  refine g_v rfl (r_load (tag := 100100) rfl rfl rfl Try.isAgg3) ?_
  refine g_v rfl (r_build _ rfl (bld28_8 _ _)) ?_
  refine g_v rfl (r_build _ rfl (bld30_9 _ _ _ _ _ _ _)) ?_
  refine g_storeL (tag := 100020) rfl rfl rfl rfl Try.sizeOf30 rfl rfl ?_
  refine g_nil ?_
  refine d_then ?_
  refine c_flat [(2, .pointer (some ⟨g1, 0, none⟩)), (4, .pointer (some ⟨g2, 0, none⟩)), (6, .pointer (some ⟨g4, 0, none⟩)), (7, .pointer (some ⟨g5, 0, none⟩)), (8, .pointer (some ⟨g6, 0, none⟩)), (9, .func (.func 36) #[] #[.pointer (some ⟨g6, 0, none⟩), .pointer (some ⟨g5, 0, none⟩)])] ⟨rfl, rfl, rfl, rfl, rfl, rfl, trivial⟩ (fun u => ?_)
  refine c_sta ⟨w0, M, (100080, g6, .cells #[.func (.func 35) #[] #[.pointer (some ⟨g4, 0, none⟩), .pointer (some ⟨g5, 0, none⟩)]] 71 (0, 0)) :: (100070, g5, .cells #[.bool x26] 4 (0, 0)) :: (100060, g4, .cells #[.string x27] 9 (0, 0)) :: (100100, g9, .cells #[.int .i64 x10, .int .i64 x15, .int .i64 x20, .int .i64 x25] 75 (0, 0)) :: (100040, g2, .cells #[.int .i64 0, .int .i64 0, .slice none 0 0, .string (⟨#[]⟩ : ByteArray), .int .i64 0, .int .i64 0, .slice none 0 0] 30 (0, 0)) :: (100020, g1, .cells #[.int .i64 x10, .int .i64 x15, .slice none 0 0, .string (⟨#[]⟩ : ByteArray), .int .i64 x20, .int .i64 x25, .slice none 0 0] 30 (0, 0)) :: H, R, φ⟩ (fun _ h => h) ?_
  refine c_seq ?_
  refine ga_start (n := 5) ⟨w0, M, (100080, g6, .cells #[.func (.func 35) #[] #[.pointer (some ⟨g4, 0, none⟩), .pointer (some ⟨g5, 0, none⟩)]] 71 (0, 0)) :: (100100, g9, .cells #[.int .i64 x10, .int .i64 x15, .int .i64 x20, .int .i64 x25] 75 (0, 0)) :: (100040, g2, .cells #[.int .i64 0, .int .i64 0, .slice none 0 0, .string (⟨#[]⟩ : ByteArray), .int .i64 0, .int .i64 0, .slice none 0 0] 30 (0, 0)) :: (100020, g1, .cells #[.int .i64 x10, .int .i64 x15, .slice none 0 0, .string (⟨#[]⟩ : ByteArray), .int .i64 x20, .int .i64 x25, .slice none 0 0] 30 (0, 0)) :: H, R, φ⟩ [] #[false, false, false, false, false] (fun W h => ((h.dropH (t := 100070) rfl).dropH (t := 100060) rfl).phi (fun W hφ => hφ)) mixed rfl rfl ?_
  refine ga_v (i := 0) #[true, false, false, false, false] rfl (by kernel_rfl) (fun _ _ _ _ h => h) rfl (r_load (tag := 100080) rfl rfl rfl Try.isAgg71) ?_
  refine ga_r (i := 1) #[true, true, false, false, false] rfl (by kernel_rfl) (by decide) rfl (r_move) ?_
  replace hm := bnd hm
  obtain ⟨⟨x50, x51, x52⟩, hx53, hm⟩ := hm
  refine ga_cn (first := #[]) (i := 2) #[true, true, true, false, false] rfl (by kernel_rfl) (by decide)  ⟨w0, M, (1000, g6, .cells #[.func (.func 35) #[] #[.pointer (some ⟨g4, 0, none⟩), .pointer (some ⟨g5, 0, none⟩)]] 71 (0, 0)) :: (1001, g5, .cells #[.bool x26] 4 (0, 0)) :: (1002, g4, .cells #[.string x27] 9 (0, 0)) :: (100100, g9, .cells #[.int .i64 x10, .int .i64 x15, .int .i64 x20, .int .i64 x25] 75 (0, 0)) :: (100040, g2, .cells #[.int .i64 0, .int .i64 0, .slice none 0 0, .string (⟨#[]⟩ : ByteArray), .int .i64 0, .int .i64 0, .slice none 0 0] 30 (0, 0)) :: (100020, g1, .cells #[.int .i64 x10, .int .i64 x15, .slice none 0 0, .string (⟨#[]⟩ : ByteArray), .int .i64 x20, .int .i64 x25, .slice none 0 0] 30 (0, 0)) :: H, R, φ⟩ (fun W h => (ok_front (t := 100080) (t' := 1000) (ok_front (t := 100070) (t' := 1001) (ok_front (t := 100060) (t' := 1002) h rfl) rfl) rfl)) Try.call36 rfl rfl rfl (c_plog_read_c2 g6 g5 x26 g4 x27 _ hx53) (fun _ W _ h => (((ok_front (t := 1000) (t' := 100080) (ok_front (t := 1001) (t' := 100070) (ok_front (t := 1002) (t' := 100060) h rfl) rfl) rfl).dropH (t := 100070) rfl).dropH (t := 100060) rfl).phi (fun W hφ => hφ)) (fun _ _ => ?_)
  refine ga_sta _ (fun W h => (ok_front (t := 1000) (t' := 100080) (ok_front (t := 1001) (t' := 100070) (ok_front (t := 1002) (t' := 100060) h rfl) rfl) rfl)) ?_
  replace hm := bnd hm
  obtain ⟨⟨x55, x56, x57⟩, hx58, hm⟩ := hm
  refine ga_cn (first := #[]) (i := 3) #[true, true, true, true, false] rfl (by kernel_rfl) (by decide)  ⟨w0, M, (1000, g4, .cells #[.string x52] 9 (0, 0)) :: (1001, g5, .cells #[.bool x51] 4 (0, 0)) :: (100080, g6, .cells #[.func (.func 35) #[] #[.pointer (some ⟨g4, 0, none⟩), .pointer (some ⟨g5, 0, none⟩)]] 71 (0, 0)) :: (100100, g9, .cells #[.int .i64 x10, .int .i64 x15, .int .i64 x20, .int .i64 x25] 75 (0, 0)) :: (100040, g2, .cells #[.int .i64 0, .int .i64 0, .slice none 0 0, .string (⟨#[]⟩ : ByteArray), .int .i64 0, .int .i64 0, .slice none 0 0] 30 (0, 0)) :: (100020, g1, .cells #[.int .i64 x10, .int .i64 x15, .slice none 0 0, .string (⟨#[]⟩ : ByteArray), .int .i64 x20, .int .i64 x25, .slice none 0 0] 30 (0, 0)) :: H, R, φ⟩ (fun W h => (ok_front (t := 100060) (t' := 1000) (ok_front (t := 100070) (t' := 1001) h rfl) rfl)) Try.call35 rfl rfl rfl (c_plog_read_c1 x50 g4 x52 g5 x51 _ hx58) (fun _ W _ h => (((ok_front (t := 1000) (t' := 100060) (ok_front (t := 1001) (t' := 100070) h rfl) rfl).dropH (t := 100060) rfl).dropH (t := 100070) rfl).phi (fun W hφ => hφ)) (fun _ _ => ?_)
  refine ga_sta _ (fun W h => (ok_front (t := 1000) (t' := 100060) (ok_front (t := 1001) (t' := 100070) h rfl) rfl)) ?_
  refine ga_r (i := 4) #[true, true, true, true, true] rfl (by kernel_rfl) (by decide) rfl (r_assign) ?_
  refine ga_done (by kernel_rfl) ?_
  refine d_then ?_
  refine c_seq ?_
  refine c_region ?_
  refine g_v rfl r_move ?_
  replace hm := bnd hm
  obtain ⟨⟨x60, x61⟩, hx62, hm⟩ := hm
  refine g_cn ⟨w0, M, _, _, φ⟩ (fun _ h => h) Try.call37 rfl rfl (c_plog_List x55 _ hx62) (fun ⟨A63, c64⟩ hc64 => ?_)
  refine g_sta _ (fun W h => (ok_frontR (t := 2000) (t' := 100500) h rfl)) ?_
  refine g_v rfl r_move ?_
  refine g_v rfl (r_extract rfl rfl) ?_
  refine g_v rfl (r_extract rfl rfl) ?_
  refine g_v rfl r_assign ?_
  refine g_v rfl r_assign ?_
  refine g_nil ?_
  refine d_then ?_
  refine c_flat [(2, .pointer (some ⟨g1, 0, none⟩)), (4, .pointer (some ⟨g2, 0, none⟩)), (6, .pointer (some ⟨g4, 0, none⟩)), (7, .pointer (some ⟨g5, 0, none⟩)), (8, .pointer (some ⟨g6, 0, none⟩)), (9, .func (.func 36) #[] #[.pointer (some ⟨g6, 0, none⟩), .pointer (some ⟨g5, 0, none⟩)]), (12, .string x55), (13, .slice A63 x60.length c64), (14, .bool x61)] ⟨rfl, rfl, rfl, rfl, rfl, rfl, rfl, rfl, rfl, trivial⟩ (fun u => ?_)
  refine c_sta ⟨w0, M, (100060, g4, .cells #[.string x56] 9 (0, 0)) :: (100070, g5, .cells #[.bool x57] 4 (0, 0)) :: (100080, g6, .cells #[.func (.func 35) #[] #[.pointer (some ⟨g4, 0, none⟩), .pointer (some ⟨g5, 0, none⟩)]] 71 (0, 0)) :: (100100, g9, .cells #[.int .i64 x10, .int .i64 x15, .int .i64 x20, .int .i64 x25] 75 (0, 0)) :: (100040, g2, .cells #[.int .i64 0, .int .i64 0, .slice none 0 0, .string (⟨#[]⟩ : ByteArray), .int .i64 0, .int .i64 0, .slice none 0 0] 30 (0, 0)) :: (100020, g1, .cells #[.int .i64 x10, .int .i64 x15, .slice none 0 0, .string (⟨#[]⟩ : ByteArray), .int .i64 x20, .int .i64 x25, .slice none 0 0] 30 (0, 0)) :: H, (100500, ⟨.slice A63 x60.length c64, 3, 1, x60.length, x60.flatMap (fun x : Int => [Value.int .i64 x])⟩) :: R, φ⟩ (fun _ h => h) ?_
  refine c_seq ?_
  refine c_region ?_
  refine g_v rfl r_move ?_
  refine g_v rfl (r_field (n := 2) Try.underlying30 rfl Try.sizeOf25 rfl rfl) ?_
  refine g_storeL (tag := 100020) rfl rfl rfl rfl Try.sizeOf25 rfl rfl ?_
  refine g_nil ?_
  refine d_then ?_
  refine c_seq ?_
  refine ga_start (n := 6) ⟨w0, M, (100080, g6, .cells #[.func (.func 35) #[] #[.pointer (some ⟨g4, 0, none⟩), .pointer (some ⟨g5, 0, none⟩)]] 71 (0, 0)) :: (100100, g9, .cells #[.int .i64 x10, .int .i64 x15, .int .i64 x20, .int .i64 x25] 75 (0, 0)) :: (100040, g2, .cells #[.int .i64 0, .int .i64 0, .slice none 0 0, .string (⟨#[]⟩ : ByteArray), .int .i64 0, .int .i64 0, .slice none 0 0] 30 (0, 0)) :: (100020, g1, .cells #[.int .i64 x10, .int .i64 x15, .slice A63 x60.length c64, .string (⟨#[]⟩ : ByteArray), .int .i64 x20, .int .i64 x25, .slice none 0 0] 30 (0, 0)) :: H, (100500, ⟨.slice A63 x60.length c64, 3, 1, x60.length, x60.flatMap (fun x : Int => [Value.int .i64 x])⟩) :: R, φ⟩ [5] #[false, false, false, false, false, false] (fun W h => ((h.dropH (t := 100060) rfl).dropH (t := 100070) rfl).phi (fun W hφ => hφ)) mixed rfl rfl ?_
  refine ga_v (i := 0) #[true, false, false, false, false, false] rfl (by kernel_rfl) (fun _ _ _ _ h => h) rfl (r_load (tag := 100080) rfl rfl rfl Try.isAgg71) ?_
  refine ga_r (i := 1) #[true, true, false, false, false, false] rfl (by kernel_rfl) (by decide) rfl (r_move) ?_
  replace hm := bnd hm
  obtain ⟨⟨x87, x88, x89⟩, hx90, hm⟩ := hm
  refine ga_cn (first := #[]) (i := 2) #[true, true, true, false, false, false] rfl (by kernel_rfl) (by decide)  ⟨w0, M, (1000, g6, .cells #[.func (.func 35) #[] #[.pointer (some ⟨g4, 0, none⟩), .pointer (some ⟨g5, 0, none⟩)]] 71 (0, 0)) :: (1001, g5, .cells #[.bool x57] 4 (0, 0)) :: (1002, g4, .cells #[.string x56] 9 (0, 0)) :: (100100, g9, .cells #[.int .i64 x10, .int .i64 x15, .int .i64 x20, .int .i64 x25] 75 (0, 0)) :: (100040, g2, .cells #[.int .i64 0, .int .i64 0, .slice none 0 0, .string (⟨#[]⟩ : ByteArray), .int .i64 0, .int .i64 0, .slice none 0 0] 30 (0, 0)) :: (100020, g1, .cells #[.int .i64 x10, .int .i64 x15, .slice A63 x60.length c64, .string (⟨#[]⟩ : ByteArray), .int .i64 x20, .int .i64 x25, .slice none 0 0] 30 (0, 0)) :: H, (100500, ⟨.slice A63 x60.length c64, 3, 1, x60.length, x60.flatMap (fun x : Int => [Value.int .i64 x])⟩) :: R, φ⟩ (fun W h => (ok_front (t := 100080) (t' := 1000) (ok_front (t := 100070) (t' := 1001) (ok_front (t := 100060) (t' := 1002) h rfl) rfl) rfl)) Try.call36 rfl rfl rfl (c_plog_read_c2 g6 g5 x57 g4 x56 _ hx90) (fun _ W _ h => (((ok_front (t := 1000) (t' := 100080) (ok_front (t := 1001) (t' := 100070) (ok_front (t := 1002) (t' := 100060) h rfl) rfl) rfl).dropH (t := 100070) rfl).dropH (t := 100060) rfl).phi (fun W hφ => hφ)) (fun _ _ => ?_)
  refine ga_sta _ (fun W h => (ok_front (t := 1000) (t' := 100080) (ok_front (t := 1001) (t' := 100070) (ok_front (t := 1002) (t' := 100060) h rfl) rfl) rfl)) ?_
  replace hm := bnd hm
  obtain ⟨⟨x92, x93, x94⟩, hx95, hm⟩ := hm
  refine ga_cn (first := #[]) (i := 3) #[true, true, true, true, false, false] rfl (by kernel_rfl) (by decide)  ⟨w0, M, (1000, g4, .cells #[.string x89] 9 (0, 0)) :: (1001, g5, .cells #[.bool x88] 4 (0, 0)) :: (100080, g6, .cells #[.func (.func 35) #[] #[.pointer (some ⟨g4, 0, none⟩), .pointer (some ⟨g5, 0, none⟩)]] 71 (0, 0)) :: (100100, g9, .cells #[.int .i64 x10, .int .i64 x15, .int .i64 x20, .int .i64 x25] 75 (0, 0)) :: (100040, g2, .cells #[.int .i64 0, .int .i64 0, .slice none 0 0, .string (⟨#[]⟩ : ByteArray), .int .i64 0, .int .i64 0, .slice none 0 0] 30 (0, 0)) :: (100020, g1, .cells #[.int .i64 x10, .int .i64 x15, .slice A63 x60.length c64, .string (⟨#[]⟩ : ByteArray), .int .i64 x20, .int .i64 x25, .slice none 0 0] 30 (0, 0)) :: H, (100500, ⟨.slice A63 x60.length c64, 3, 1, x60.length, x60.flatMap (fun x : Int => [Value.int .i64 x])⟩) :: R, φ⟩ (fun W h => (ok_front (t := 100060) (t' := 1000) (ok_front (t := 100070) (t' := 1001) h rfl) rfl)) Try.call35 rfl rfl rfl (c_plog_read_c1 x87 g4 x89 g5 x88 _ hx95) (fun _ W _ h => (((ok_front (t := 1000) (t' := 100060) (ok_front (t := 1001) (t' := 100070) h rfl) rfl).dropH (t := 100060) rfl).dropH (t := 100070) rfl).phi (fun W hφ => hφ)) (fun _ _ => ?_)
  refine ga_sta _ (fun W h => (ok_front (t := 1000) (t' := 100060) (ok_front (t := 1001) (t' := 100070) h rfl) rfl)) ?_
  refine ga_r (i := 4) #[true, true, true, true, true, false] rfl (by kernel_rfl) (by decide) rfl (r_field (n := 3) Try.underlying30 rfl Try.sizeOf9 rfl rfl) ?_
  refine ga_lastL (i := 5) (tag := 100020) #[true, true, true, true, true, true] rfl (by kernel_rfl) (by decide) rfl rfl rfl rfl Try.sizeOf9 rfl rfl ?_
  refine gz_done (by kernel_rfl) ?_
  refine d_then ?_
  refine c_flat [(2, .pointer (some ⟨g1, 0, none⟩)), (4, .pointer (some ⟨g2, 0, none⟩)), (6, .pointer (some ⟨g4, 0, none⟩)), (7, .pointer (some ⟨g5, 0, none⟩)), (12, .string x55), (14, .bool x61)] ⟨rfl, rfl, rfl, rfl, rfl, rfl, trivial⟩ (fun u => ?_)
  refine c_sta ⟨w0, M, (100060, g4, .cells #[.string x93] 9 (0, 0)) :: (100070, g5, .cells #[.bool x94] 4 (0, 0)) :: (100080, g6, .cells #[.func (.func 35) #[] #[.pointer (some ⟨g4, 0, none⟩), .pointer (some ⟨g5, 0, none⟩)]] 71 (0, 0)) :: (100100, g9, .cells #[.int .i64 x10, .int .i64 x15, .int .i64 x20, .int .i64 x25] 75 (0, 0)) :: (100040, g2, .cells #[.int .i64 0, .int .i64 0, .slice none 0 0, .string (⟨#[]⟩ : ByteArray), .int .i64 0, .int .i64 0, .slice none 0 0] 30 (0, 0)) :: (100020, g1, .cells #[.int .i64 x10, .int .i64 x15, .slice A63 x60.length c64, .string x92, .int .i64 x20, .int .i64 x25, .slice none 0 0] 30 (0, 0)) :: H, (100500, ⟨.slice A63 x60.length c64, 3, 1, x60.length, x60.flatMap (fun x : Int => [Value.int .i64 x])⟩) :: R, φ⟩ (fun _ h => h) ?_
  refine c_seq ?_
  refine ga_start (n := 22) ⟨w0, M, (100060, g4, .cells #[.string x93] 9 (0, 0)) :: (100070, g5, .cells #[.bool x94] 4 (0, 0)) :: (100080, g6, .cells #[.func (.func 35) #[] #[.pointer (some ⟨g4, 0, none⟩), .pointer (some ⟨g5, 0, none⟩)]] 71 (0, 0)) :: (100100, g9, .cells #[.int .i64 x10, .int .i64 x15, .int .i64 x20, .int .i64 x25] 75 (0, 0)) :: (100020, g1, .cells #[.int .i64 x10, .int .i64 x15, .slice A63 x60.length c64, .string x92, .int .i64 x20, .int .i64 x25, .slice none 0 0] 30 (0, 0)) :: H, (100500, ⟨.slice A63 x60.length c64, 3, 1, x60.length, x60.flatMap (fun x : Int => [Value.int .i64 x])⟩) :: R, φ⟩ [] #[false, false, false, false, false, false, false, false, false, false, false, false, false, false, false, false, false, false, false, false, false, false] (fun W h => (h.dropH (t := 100040) rfl).phi (fun W hφ => hφ)) mixed rfl rfl ?_
  refine ga_v (i := 0) #[true, false, false, false, false, false, false, false, false, false, false, false, false, false, false, false, false, false, false, false, false, false] rfl (by kernel_rfl) (fun _ _ _ _ h => h) rfl (r_loadA (tag := 100020) rfl rfl Try.isAgg30 Try.sizeOf30 rfl rfl) ?_
  refine ga_r (i := 1) #[true, true, false, false, false, false, false, false, false, false, false, false, false, false, false, false, false, false, false, false, false, false] rfl (by kernel_rfl) (by decide) rfl (r_load (tag := 100070) rfl rfl rfl Try.isAgg4) ?_
  refine ga_r (i := 2) #[true, true, true, false, false, false, false, false, false, false, false, false, false, false, false, false, false, false, false, false, false, false] rfl (by kernel_rfl) (by decide) rfl (r_not rfl) ?_
  refine ga_r (i := 3) #[true, true, true, true, false, false, false, false, false, false, false, false, false, false, false, false, false, false, false, false, false, false] rfl (by kernel_rfl) (by decide) rfl (r_move) ?_
  refine ga_if (t := 63) rfl (fun h105 => ?_) (fun h105 => ?_)
  ·
   have h105' : x94 = false := by revert h105; cases x94 <;> simp
   replace hm := ite_f hm (bool_nt h105')
   refine ga_rG (i := 4) #[true, true, true, true, true, false, false, false, false, false, false, false, false, false, false, false, false, false, false, false, false, false] rfl (by kernel_rfl) (by decide) rfl rfl rfl rfl rfl h105 (r_load (tag := 100060) rfl rfl rfl Try.isAgg9) ?_
   refine ga_rG (i := 5) #[true, true, true, true, true, true, false, false, false, false, false, false, false, false, false, false, false, false, false, false, false, false] rfl (by kernel_rfl) (by decide) rfl rfl rfl rfl rfl h105 (r_eqlT rfl rfl) ?_
   refine ga_r (i := 6) #[true, true, true, true, true, true, true, false, false, false, false, false, false, false, false, false, false, false, false, false, false, false] rfl (by kernel_rfl) (by decide) rfl (r_pick1 rfl h105) ?_
   refine ga_r (i := 7) #[true, true, true, true, true, true, true, true, false, false, false, false, false, false, false, false, false, false, false, false, false, false] rfl (by kernel_rfl) (by decide) rfl (r_move) ?_
   refine ga_if (t := 67) rfl (fun h106 => ?_) (fun h106 => ?_)
   ·
    replace hm := ite_t hm (of_decide_eq_true h106)
    refine ga_rG (i := 8) #[true, true, true, true, true, true, true, true, true, false, false, false, false, false, false, false, false, false, false, false, false, false] rfl (by kernel_rfl) (by decide) rfl rfl rfl rfl rfl h106 (r_move) ?_
    refine ga_rG (i := 9) #[true, true, true, true, true, true, true, true, true, true, false, false, false, false, false, false, false, false, false, false, false, false] rfl (by kernel_rfl) (by decide) rfl rfl rfl rfl rfl h106 (r_move) ?_
    refine ga_if (t := 69) rfl (fun h107 => ?_) (fun h107 => ?_)
    ·
     replace hm := ite_t hm h107
     refine ga_no (i := 10) #[true, true, true, true, true, true, true, true, true, true, true, false, false, false, false, false, false, false, false, false, false, false] rfl (by kernel_rfl) (fun _ _ _ _ h => h) rfl rfl rfl rfl rfl h107 ?_
     refine ga_no (i := 11) #[true, true, true, true, true, true, true, true, true, true, true, true, false, false, false, false, false, false, false, false, false, false] rfl (by kernel_rfl) (fun _ _ _ _ h => h) rfl rfl rfl rfl rfl h107 ?_
     refine ga_rG (i := 12) #[true, true, true, true, true, true, true, true, true, true, true, true, true, false, false, false, false, false, false, false, false, false] rfl (by kernel_rfl) (by decide) rfl rfl rfl rfl rfl h106 (r_pick1 rfl h107) ?_
     refine ga_r (i := 13) #[true, true, true, true, true, true, true, true, true, true, true, true, true, true, false, false, false, false, false, false, false, false] rfl (by kernel_rfl) (by decide) rfl (r_pick1 rfl h106) ?_
     refine ga_r (i := 14) #[true, true, true, true, true, true, true, true, true, true, true, true, true, true, true, false, false, false, false, false, false, false] rfl (by kernel_rfl) (by decide) rfl (r_move) ?_
     refine ga_do (i := 15) #[true, true, true, true, true, true, true, true, true, true, true, true, true, true, true, true, false, false, false, false, false, false] rfl (by kernel_rfl) (fun _ _ _ _ h => h) rfl rfl rfl rfl rfl rfl (r_field (n := 3) Try.underlying30 rfl Try.sizeOf9 rfl rfl) ?_
     refine ga_do (i := 16) #[true, true, true, true, true, true, true, true, true, true, true, true, true, true, true, true, true, false, false, false, false, false] rfl (by kernel_rfl) (fun _ _ _ _ h => h) rfl rfl rfl rfl rfl rfl (r_load (tag := 100020) rfl rfl rfl Try.isAgg9) ?_
     refine ga_do (i := 17) #[true, true, true, true, true, true, true, true, true, true, true, true, true, true, true, true, true, true, false, false, false, false] rfl (by kernel_rfl) (fun _ _ _ _ h => h) rfl rfl rfl rfl rfl rfl (r_len Try.underlying9 rfl) ?_
     refine ga_do (i := 18) #[true, true, true, true, true, true, true, true, true, true, true, true, true, true, true, true, true, true, true, false, false, false] rfl (by kernel_rfl) (fun _ _ _ _ h => h) rfl rfl rfl rfl rfl rfl (r_leq rfl rfl) ?_
     refine ga_v (i := 19) #[true, true, true, true, true, true, true, true, true, true, true, true, true, true, true, true, true, true, true, true, false, false] rfl (by kernel_rfl) (fun _ _ _ _ h => h) rfl (r_pick1 rfl rfl) ?_
     refine ga_storeN (i := 20) (tag := 100040) #[true, true, true, true, true, true, true, true, true, true, true, true, true, true, true, true, true, true, true, true, true, false] rfl (by kernel_rfl) (by decide) rfl rfl rfl rfl Try.sizeOf30 rfl rfl (fun W h => (h.dropH (t := 100040) rfl).phi (fun W hφ => hφ)) ?_
     refine ga_r (i := 21) #[true, true, true, true, true, true, true, true, true, true, true, true, true, true, true, true, true, true, true, true, true, true] rfl (by kernel_rfl) (by decide) rfl (r_assign) ?_
     refine ga_done (by kernel_rfl) ?_
     refine d_then ?_
     refine c_flat [(4, .pointer (some ⟨g2, 0, none⟩)), (5, .bool (decide ((x92.size : Int) ≤ 50000)))] ⟨rfl, rfl, trivial⟩ (fun u => ?_)
     refine c_sta ⟨w0, M, (100060, g4, .cells #[.string x93] 9 (0, 0)) :: (100070, g5, .cells #[.bool x94] 4 (0, 0)) :: (100080, g6, .cells #[.func (.func 35) #[] #[.pointer (some ⟨g4, 0, none⟩), .pointer (some ⟨g5, 0, none⟩)]] 71 (0, 0)) :: (100100, g9, .cells #[.int .i64 x10, .int .i64 x15, .int .i64 x20, .int .i64 x25] 75 (0, 0)) :: (100040, g2, .cells #[.int .i64 x10, .int .i64 x15, .slice A63 x60.length c64, .string x92, .int .i64 x20, .int .i64 x25, .slice none 0 0] 30 (0, 0)) :: (100020, g1, .cells #[.int .i64 x10, .int .i64 x15, .slice A63 x60.length c64, .string x92, .int .i64 x20, .int .i64 x25, .slice none 0 0] 30 (0, 0)) :: H, (100500, ⟨.slice A63 x60.length c64, 3, 1, x60.length, x60.flatMap (fun x : Int => [Value.int .i64 x])⟩) :: R, φ⟩ (fun _ h => h) ?_
     refine c_ret ?_
     refine d_ret_block ?_
     refine d_ret_then ?_
     replace hm := Option.some.inj hm
     subst hm
     refine d_shut (tag := 100500) rfl (fun φ108 q108' => ?_)
     have q108 : ∀ W, φ108 W → φ W := fun W h => (q108' W h).1
     have f109 := fun (W : World) (h : φ108 W) => (q108' W h).2
     refine d_retC (A63, c64, none, 0) Try.results24 ?_ ⟨hc64, (Nat.le_refl 0)⟩ (fun W h => ok_pre (H1 := [_, _, _, _, _, _]) (R1 := []) h (fun W hφ => ⟨(q108 _ hφ), (fun W h => f109 W h) W hφ, (fun W _ => Cl.nil _ _) W hφ⟩)) (.inr rfl)
     refine res_agg (tag := 100040) rfl rfl Try.isAgg30 Try.sizeOf30 ?_
     refine res_tmp ?_
     refine res_nil ?_
     exact rfl
    ·
     replace hm := ite_f hm (bool_nt h107)
     refine ga_rG (i := 10) #[true, true, true, true, true, true, true, true, true, true, true, false, false, false, false, false, false, false, false, false, false, false] rfl (by kernel_rfl) (by decide) rfl rfl rfl rfl rfl h107 (r_move) ?_
     refine ga_rG (i := 11) #[true, true, true, true, true, true, true, true, true, true, true, true, false, false, false, false, false, false, false, false, false, false] rfl (by kernel_rfl) (by decide) rfl rfl rfl rfl rfl h107 (r_eqlT rfl rfl) ?_
     refine ga_rG (i := 12) #[true, true, true, true, true, true, true, true, true, true, true, true, true, false, false, false, false, false, false, false, false, false] rfl (by kernel_rfl) (by decide) rfl rfl rfl rfl rfl h106 (r_pick0 rfl h107) ?_
     refine ga_r (i := 13) #[true, true, true, true, true, true, true, true, true, true, true, true, true, true, false, false, false, false, false, false, false, false] rfl (by kernel_rfl) (by decide) rfl (r_pick1 rfl h106) ?_
     refine ga_r (i := 14) #[true, true, true, true, true, true, true, true, true, true, true, true, true, true, true, false, false, false, false, false, false, false] rfl (by kernel_rfl) (by decide) rfl (r_move) ?_
     refine ga_if (t := 74) rfl (fun h110 => ?_) (fun h110 => ?_)
     ·
      replace hm := ite_t hm (of_decide_eq_true h110)
      refine ga_do (i := 15) #[true, true, true, true, true, true, true, true, true, true, true, true, true, true, true, true, false, false, false, false, false, false] rfl (by kernel_rfl) (fun _ _ _ _ h => h) rfl rfl rfl rfl rfl h110 (r_field (n := 3) Try.underlying30 rfl Try.sizeOf9 rfl rfl) ?_
      refine ga_do (i := 16) #[true, true, true, true, true, true, true, true, true, true, true, true, true, true, true, true, true, false, false, false, false, false] rfl (by kernel_rfl) (fun _ _ _ _ h => h) rfl rfl rfl rfl rfl h110 (r_load (tag := 100020) rfl rfl rfl Try.isAgg9) ?_
      refine ga_do (i := 17) #[true, true, true, true, true, true, true, true, true, true, true, true, true, true, true, true, true, true, false, false, false, false] rfl (by kernel_rfl) (fun _ _ _ _ h => h) rfl rfl rfl rfl rfl h110 (r_len Try.underlying9 rfl) ?_
      refine ga_do (i := 18) #[true, true, true, true, true, true, true, true, true, true, true, true, true, true, true, true, true, true, true, false, false, false] rfl (by kernel_rfl) (fun _ _ _ _ h => h) rfl rfl rfl rfl rfl h110 (r_leq rfl rfl) ?_
      refine ga_v (i := 19) #[true, true, true, true, true, true, true, true, true, true, true, true, true, true, true, true, true, true, true, true, false, false] rfl (by kernel_rfl) (fun _ _ _ _ h => h) rfl (r_pick1 rfl h110) ?_
      refine ga_storeN (i := 20) (tag := 100040) #[true, true, true, true, true, true, true, true, true, true, true, true, true, true, true, true, true, true, true, true, true, false] rfl (by kernel_rfl) (by decide) rfl rfl rfl rfl Try.sizeOf30 rfl rfl (fun W h => (h.dropH (t := 100040) rfl).phi (fun W hφ => hφ)) ?_
      refine ga_r (i := 21) #[true, true, true, true, true, true, true, true, true, true, true, true, true, true, true, true, true, true, true, true, true, true] rfl (by kernel_rfl) (by decide) rfl (r_assign) ?_
      refine ga_done (by kernel_rfl) ?_
      refine d_then ?_
      refine c_flat [(4, .pointer (some ⟨g2, 0, none⟩)), (5, .bool (decide ((x92.size : Int) ≤ 50000)))] ⟨rfl, rfl, trivial⟩ (fun u => ?_)
      refine c_sta ⟨w0, M, (100060, g4, .cells #[.string x93] 9 (0, 0)) :: (100070, g5, .cells #[.bool x94] 4 (0, 0)) :: (100080, g6, .cells #[.func (.func 35) #[] #[.pointer (some ⟨g4, 0, none⟩), .pointer (some ⟨g5, 0, none⟩)]] 71 (0, 0)) :: (100100, g9, .cells #[.int .i64 x10, .int .i64 x15, .int .i64 x20, .int .i64 x25] 75 (0, 0)) :: (100040, g2, .cells #[.int .i64 x10, .int .i64 x15, .slice A63 x60.length c64, .string x92, .int .i64 x20, .int .i64 x25, .slice none 0 0] 30 (0, 0)) :: (100020, g1, .cells #[.int .i64 x10, .int .i64 x15, .slice A63 x60.length c64, .string x92, .int .i64 x20, .int .i64 x25, .slice none 0 0] 30 (0, 0)) :: H, (100500, ⟨.slice A63 x60.length c64, 3, 1, x60.length, x60.flatMap (fun x : Int => [Value.int .i64 x])⟩) :: R, φ⟩ (fun _ h => h) ?_
      refine c_ret ?_
      refine d_ret_block ?_
      refine d_ret_then ?_
      replace hm := Option.some.inj hm
      subst hm
      refine d_shut (tag := 100500) rfl (fun φ111 q111' => ?_)
      have q111 : ∀ W, φ111 W → φ W := fun W h => (q111' W h).1
      have f112 := fun (W : World) (h : φ111 W) => (q111' W h).2
      refine d_retC (A63, c64, none, 0) Try.results24 ?_ ⟨hc64, (Nat.le_refl 0)⟩ (fun W h => ok_pre (H1 := [_, _, _, _, _, _]) (R1 := []) h (fun W hφ => ⟨(q111 _ hφ), (fun W h => f112 W h) W hφ, (fun W _ => Cl.nil _ _) W hφ⟩)) (.inr rfl)
      refine res_agg (tag := 100040) rfl rfl Try.isAgg30 Try.sizeOf30 ?_
      refine res_tmp ?_
      refine res_nil ?_
      exact rfl
     ·
      replace hm := ite_f hm (of_decide_eq_false h110)
      refine ga_no (i := 15) #[true, true, true, true, true, true, true, true, true, true, true, true, true, true, true, true, false, false, false, false, false, false] rfl (by kernel_rfl) (fun _ _ _ _ h => h) rfl rfl rfl rfl rfl h110 ?_
      refine ga_no (i := 16) #[true, true, true, true, true, true, true, true, true, true, true, true, true, true, true, true, true, false, false, false, false, false] rfl (by kernel_rfl) (fun _ _ _ _ h => h) rfl rfl rfl rfl rfl h110 ?_
      refine ga_no (i := 17) #[true, true, true, true, true, true, true, true, true, true, true, true, true, true, true, true, true, true, false, false, false, false] rfl (by kernel_rfl) (fun _ _ _ _ h => h) rfl rfl rfl rfl rfl h110 ?_
      refine ga_no (i := 18) #[true, true, true, true, true, true, true, true, true, true, true, true, true, true, true, true, true, true, true, false, false, false] rfl (by kernel_rfl) (fun _ _ _ _ h => h) rfl rfl rfl rfl rfl h110 ?_
      refine ga_v (i := 19) #[true, true, true, true, true, true, true, true, true, true, true, true, true, true, true, true, true, true, true, true, false, false] rfl (by kernel_rfl) (fun _ _ _ _ h => h) rfl (r_pick0 rfl h110) ?_
      refine ga_storeN (i := 20) (tag := 100040) #[true, true, true, true, true, true, true, true, true, true, true, true, true, true, true, true, true, true, true, true, true, false] rfl (by kernel_rfl) (by decide) rfl rfl rfl rfl Try.sizeOf30 rfl rfl (fun W h => (h.dropH (t := 100040) rfl).phi (fun W hφ => hφ)) ?_
      refine ga_r (i := 21) #[true, true, true, true, true, true, true, true, true, true, true, true, true, true, true, true, true, true, true, true, true, true] rfl (by kernel_rfl) (by decide) rfl (r_assign) ?_
      refine ga_done (by kernel_rfl) ?_
      refine d_then ?_
      refine c_flat [(4, .pointer (some ⟨g2, 0, none⟩)), (5, .bool false)] ⟨rfl, rfl, trivial⟩ (fun u => ?_)
      refine c_sta ⟨w0, M, (100060, g4, .cells #[.string x93] 9 (0, 0)) :: (100070, g5, .cells #[.bool x94] 4 (0, 0)) :: (100080, g6, .cells #[.func (.func 35) #[] #[.pointer (some ⟨g4, 0, none⟩), .pointer (some ⟨g5, 0, none⟩)]] 71 (0, 0)) :: (100100, g9, .cells #[.int .i64 x10, .int .i64 x15, .int .i64 x20, .int .i64 x25] 75 (0, 0)) :: (100040, g2, .cells #[.int .i64 x10, .int .i64 x15, .slice A63 x60.length c64, .string x92, .int .i64 x20, .int .i64 x25, .slice none 0 0] 30 (0, 0)) :: (100020, g1, .cells #[.int .i64 x10, .int .i64 x15, .slice A63 x60.length c64, .string x92, .int .i64 x20, .int .i64 x25, .slice none 0 0] 30 (0, 0)) :: H, (100500, ⟨.slice A63 x60.length c64, 3, 1, x60.length, x60.flatMap (fun x : Int => [Value.int .i64 x])⟩) :: R, φ⟩ (fun _ h => h) ?_
      refine c_ret ?_
      refine d_ret_block ?_
      refine d_ret_then ?_
      replace hm := Option.some.inj hm
      subst hm
      refine d_shut (tag := 100500) rfl (fun φ113 q113' => ?_)
      have q113 : ∀ W, φ113 W → φ W := fun W h => (q113' W h).1
      have f114 := fun (W : World) (h : φ113 W) => (q113' W h).2
      refine d_retC (A63, c64, none, 0) Try.results24 ?_ ⟨hc64, (Nat.le_refl 0)⟩ (fun W h => ok_pre (H1 := [_, _, _, _, _, _]) (R1 := []) h (fun W hφ => ⟨(q113 _ hφ), (fun W h => f114 W h) W hφ, (fun W _ => Cl.nil _ _) W hφ⟩)) (.inr rfl)
      refine res_agg (tag := 100040) rfl rfl Try.isAgg30 Try.sizeOf30 ?_
      refine res_tmp ?_
      refine res_nil ?_
      exact rfl
   ·
    replace hm := ite_f hm (of_decide_eq_false h106)
    refine ga_no (i := 8) #[true, true, true, true, true, true, true, true, true, false, false, false, false, false, false, false, false, false, false, false, false, false] rfl (by kernel_rfl) (fun _ _ _ _ h => h) rfl rfl rfl rfl rfl h106 ?_
    refine ga_no (i := 9) #[true, true, true, true, true, true, true, true, true, true, false, false, false, false, false, false, false, false, false, false, false, false] rfl (by kernel_rfl) (fun _ _ _ _ h => h) rfl rfl rfl rfl rfl h106 ?_
    refine ga_nu (i := 10) #[true, true, true, true, true, true, true, true, true, true, true, false, false, false, false, false, false, false, false, false, false, false] rfl (by kernel_rfl) (fun _ _ _ _ h => h) rfl rfl rfl rfl rfl ?_
    refine ga_nu (i := 11) #[true, true, true, true, true, true, true, true, true, true, true, true, false, false, false, false, false, false, false, false, false, false] rfl (by kernel_rfl) (fun _ _ _ _ h => h) rfl rfl rfl rfl rfl ?_
    refine ga_no (i := 12) #[true, true, true, true, true, true, true, true, true, true, true, true, true, false, false, false, false, false, false, false, false, false] rfl (by kernel_rfl) (fun _ _ _ _ h => h) rfl rfl rfl rfl rfl h106 ?_
    refine ga_r (i := 13) #[true, true, true, true, true, true, true, true, true, true, true, true, true, true, false, false, false, false, false, false, false, false] rfl (by kernel_rfl) (by decide) rfl (r_pick0 rfl h106) ?_
    refine ga_r (i := 14) #[true, true, true, true, true, true, true, true, true, true, true, true, true, true, true, false, false, false, false, false, false, false] rfl (by kernel_rfl) (by decide) rfl (r_move) ?_
    refine ga_no (i := 15) #[true, true, true, true, true, true, true, true, true, true, true, true, true, true, true, true, false, false, false, false, false, false] rfl (by kernel_rfl) (fun _ _ _ _ h => h) rfl rfl rfl rfl rfl rfl ?_
    refine ga_no (i := 16) #[true, true, true, true, true, true, true, true, true, true, true, true, true, true, true, true, true, false, false, false, false, false] rfl (by kernel_rfl) (fun _ _ _ _ h => h) rfl rfl rfl rfl rfl rfl ?_
    refine ga_no (i := 17) #[true, true, true, true, true, true, true, true, true, true, true, true, true, true, true, true, true, true, false, false, false, false] rfl (by kernel_rfl) (fun _ _ _ _ h => h) rfl rfl rfl rfl rfl rfl ?_
    refine ga_no (i := 18) #[true, true, true, true, true, true, true, true, true, true, true, true, true, true, true, true, true, true, true, false, false, false] rfl (by kernel_rfl) (fun _ _ _ _ h => h) rfl rfl rfl rfl rfl rfl ?_
    refine ga_v (i := 19) #[true, true, true, true, true, true, true, true, true, true, true, true, true, true, true, true, true, true, true, true, false, false] rfl (by kernel_rfl) (fun _ _ _ _ h => h) rfl (r_pick0 rfl rfl) ?_
    refine ga_storeN (i := 20) (tag := 100040) #[true, true, true, true, true, true, true, true, true, true, true, true, true, true, true, true, true, true, true, true, true, false] rfl (by kernel_rfl) (by decide) rfl rfl rfl rfl Try.sizeOf30 rfl rfl (fun W h => (h.dropH (t := 100040) rfl).phi (fun W hφ => hφ)) ?_
    refine ga_r (i := 21) #[true, true, true, true, true, true, true, true, true, true, true, true, true, true, true, true, true, true, true, true, true, true] rfl (by kernel_rfl) (by decide) rfl (r_assign) ?_
    refine ga_done (by kernel_rfl) ?_
    refine d_then ?_
    refine c_flat [(4, .pointer (some ⟨g2, 0, none⟩)), (5, .bool false)] ⟨rfl, rfl, trivial⟩ (fun u => ?_)
    refine c_sta ⟨w0, M, (100060, g4, .cells #[.string x93] 9 (0, 0)) :: (100070, g5, .cells #[.bool x94] 4 (0, 0)) :: (100080, g6, .cells #[.func (.func 35) #[] #[.pointer (some ⟨g4, 0, none⟩), .pointer (some ⟨g5, 0, none⟩)]] 71 (0, 0)) :: (100100, g9, .cells #[.int .i64 x10, .int .i64 x15, .int .i64 x20, .int .i64 x25] 75 (0, 0)) :: (100040, g2, .cells #[.int .i64 x10, .int .i64 x15, .slice A63 x60.length c64, .string x92, .int .i64 x20, .int .i64 x25, .slice none 0 0] 30 (0, 0)) :: (100020, g1, .cells #[.int .i64 x10, .int .i64 x15, .slice A63 x60.length c64, .string x92, .int .i64 x20, .int .i64 x25, .slice none 0 0] 30 (0, 0)) :: H, (100500, ⟨.slice A63 x60.length c64, 3, 1, x60.length, x60.flatMap (fun x : Int => [Value.int .i64 x])⟩) :: R, φ⟩ (fun _ h => h) ?_
    refine c_ret ?_
    refine d_ret_block ?_
    refine d_ret_then ?_
    replace hm := Option.some.inj hm
    subst hm
    refine d_shut (tag := 100500) rfl (fun φ115 q115' => ?_)
    have q115 : ∀ W, φ115 W → φ W := fun W h => (q115' W h).1
    have f116 := fun (W : World) (h : φ115 W) => (q115' W h).2
    refine d_retC (A63, c64, none, 0) Try.results24 ?_ ⟨hc64, (Nat.le_refl 0)⟩ (fun W h => ok_pre (H1 := [_, _, _, _, _, _]) (R1 := []) h (fun W hφ => ⟨(q115 _ hφ), (fun W h => f116 W h) W hφ, (fun W _ => Cl.nil _ _) W hφ⟩)) (.inr rfl)
    refine res_agg (tag := 100040) rfl rfl Try.isAgg30 Try.sizeOf30 ?_
    refine res_tmp ?_
    refine res_nil ?_
    exact rfl
  ·
   have h105' : x94 = true := by revert h105; cases x94 <;> simp
   replace hm := ite_t hm h105'
   refine ga_no (i := 4) #[true, true, true, true, true, false, false, false, false, false, false, false, false, false, false, false, false, false, false, false, false, false] rfl (by kernel_rfl) (fun _ _ _ _ h => h) rfl rfl rfl rfl rfl h105 ?_
   refine ga_no (i := 5) #[true, true, true, true, true, true, false, false, false, false, false, false, false, false, false, false, false, false, false, false, false, false] rfl (by kernel_rfl) (fun _ _ _ _ h => h) rfl rfl rfl rfl rfl h105 ?_
   refine ga_r (i := 6) #[true, true, true, true, true, true, true, false, false, false, false, false, false, false, false, false, false, false, false, false, false, false] rfl (by kernel_rfl) (by decide) rfl (r_pick0 rfl h105) ?_
   refine ga_r (i := 7) #[true, true, true, true, true, true, true, true, false, false, false, false, false, false, false, false, false, false, false, false, false, false] rfl (by kernel_rfl) (by decide) rfl (r_move) ?_
   refine ga_no (i := 8) #[true, true, true, true, true, true, true, true, true, false, false, false, false, false, false, false, false, false, false, false, false, false] rfl (by kernel_rfl) (fun _ _ _ _ h => h) rfl rfl rfl rfl rfl rfl ?_
   refine ga_no (i := 9) #[true, true, true, true, true, true, true, true, true, true, false, false, false, false, false, false, false, false, false, false, false, false] rfl (by kernel_rfl) (fun _ _ _ _ h => h) rfl rfl rfl rfl rfl rfl ?_
   refine ga_nu (i := 10) #[true, true, true, true, true, true, true, true, true, true, true, false, false, false, false, false, false, false, false, false, false, false] rfl (by kernel_rfl) (fun _ _ _ _ h => h) rfl rfl rfl rfl rfl ?_
   refine ga_nu (i := 11) #[true, true, true, true, true, true, true, true, true, true, true, true, false, false, false, false, false, false, false, false, false, false] rfl (by kernel_rfl) (fun _ _ _ _ h => h) rfl rfl rfl rfl rfl ?_
   refine ga_no (i := 12) #[true, true, true, true, true, true, true, true, true, true, true, true, true, false, false, false, false, false, false, false, false, false] rfl (by kernel_rfl) (fun _ _ _ _ h => h) rfl rfl rfl rfl rfl rfl ?_
   refine ga_r (i := 13) #[true, true, true, true, true, true, true, true, true, true, true, true, true, true, false, false, false, false, false, false, false, false] rfl (by kernel_rfl) (by decide) rfl (r_pick0 rfl rfl) ?_
   refine ga_r (i := 14) #[true, true, true, true, true, true, true, true, true, true, true, true, true, true, true, false, false, false, false, false, false, false] rfl (by kernel_rfl) (by decide) rfl (r_move) ?_
   refine ga_no (i := 15) #[true, true, true, true, true, true, true, true, true, true, true, true, true, true, true, true, false, false, false, false, false, false] rfl (by kernel_rfl) (fun _ _ _ _ h => h) rfl rfl rfl rfl rfl rfl ?_
   refine ga_no (i := 16) #[true, true, true, true, true, true, true, true, true, true, true, true, true, true, true, true, true, false, false, false, false, false] rfl (by kernel_rfl) (fun _ _ _ _ h => h) rfl rfl rfl rfl rfl rfl ?_
   refine ga_no (i := 17) #[true, true, true, true, true, true, true, true, true, true, true, true, true, true, true, true, true, true, false, false, false, false] rfl (by kernel_rfl) (fun _ _ _ _ h => h) rfl rfl rfl rfl rfl rfl ?_
   refine ga_no (i := 18) #[true, true, true, true, true, true, true, true, true, true, true, true, true, true, true, true, true, true, true, false, false, false] rfl (by kernel_rfl) (fun _ _ _ _ h => h) rfl rfl rfl rfl rfl rfl ?_
   refine ga_v (i := 19) #[true, true, true, true, true, true, true, true, true, true, true, true, true, true, true, true, true, true, true, true, false, false] rfl (by kernel_rfl) (fun _ _ _ _ h => h) rfl (r_pick0 rfl rfl) ?_
   refine ga_storeN (i := 20) (tag := 100040) #[true, true, true, true, true, true, true, true, true, true, true, true, true, true, true, true, true, true, true, true, true, false] rfl (by kernel_rfl) (by decide) rfl rfl rfl rfl Try.sizeOf30 rfl rfl (fun W h => (h.dropH (t := 100040) rfl).phi (fun W hφ => hφ)) ?_
   refine ga_r (i := 21) #[true, true, true, true, true, true, true, true, true, true, true, true, true, true, true, true, true, true, true, true, true, true] rfl (by kernel_rfl) (by decide) rfl (r_assign) ?_
   refine ga_done (by kernel_rfl) ?_
   refine d_then ?_
   refine c_flat [(4, .pointer (some ⟨g2, 0, none⟩)), (5, .bool false)] ⟨rfl, rfl, trivial⟩ (fun u => ?_)
   refine c_sta ⟨w0, M, (100060, g4, .cells #[.string x93] 9 (0, 0)) :: (100070, g5, .cells #[.bool x94] 4 (0, 0)) :: (100080, g6, .cells #[.func (.func 35) #[] #[.pointer (some ⟨g4, 0, none⟩), .pointer (some ⟨g5, 0, none⟩)]] 71 (0, 0)) :: (100100, g9, .cells #[.int .i64 x10, .int .i64 x15, .int .i64 x20, .int .i64 x25] 75 (0, 0)) :: (100040, g2, .cells #[.int .i64 x10, .int .i64 x15, .slice A63 x60.length c64, .string x92, .int .i64 x20, .int .i64 x25, .slice none 0 0] 30 (0, 0)) :: (100020, g1, .cells #[.int .i64 x10, .int .i64 x15, .slice A63 x60.length c64, .string x92, .int .i64 x20, .int .i64 x25, .slice none 0 0] 30 (0, 0)) :: H, (100500, ⟨.slice A63 x60.length c64, 3, 1, x60.length, x60.flatMap (fun x : Int => [Value.int .i64 x])⟩) :: R, φ⟩ (fun _ h => h) ?_
   refine c_ret ?_
   refine d_ret_block ?_
   refine d_ret_then ?_
   replace hm := Option.some.inj hm
   subst hm
   refine d_shut (tag := 100500) rfl (fun φ117 q117' => ?_)
   have q117 : ∀ W, φ117 W → φ W := fun W h => (q117' W h).1
   have f118 := fun (W : World) (h : φ117 W) => (q117' W h).2
   refine d_retC (A63, c64, none, 0) Try.results24 ?_ ⟨hc64, (Nat.le_refl 0)⟩ (fun W h => ok_pre (H1 := [_, _, _, _, _, _]) (R1 := []) h (fun W hφ => ⟨(q117 _ hφ), (fun W h => f118 W h) W hφ, (fun W _ => Cl.nil _ _) W hφ⟩)) (.inr rfl)
   refine res_agg (tag := 100040) rfl rfl Try.isAgg30 Try.sizeOf30 ?_
   refine res_tmp ?_
   refine res_nil ?_
   exact rfl
 ·
  replace hm := ite_f hm (of_decide_eq_false h8)
  refine c_seq ?_
  refine c_region ?_
  refine g_v rfl (r_eql rfl rfl) ?_
  refine g_v rfl r_assign ?_
  refine g_nil ?_
  refine d_then ?_
  refine c_cond rfl (fun h119 => ?_) (fun h119 => ?_)
  ·
   replace hm := ite_t hm (of_decide_eq_true h119)
   refine c_seq ?_
   refine c_region ?_
   refine g_v rfl r_move ?_
   replace hm := bnd hm
   obtain ⟨⟨x120, x121, x122⟩, hx123, hm⟩ := hm
   refine g_cnv ⟨w0, M, (1000, g6, .cells #[.func (.func 35) #[] #[.pointer (some ⟨g4, 0, none⟩), .pointer (some ⟨g5, 0, none⟩)]] 71 (0, 0)) :: (1001, g5, .cells #[.bool false] 4 (0, 0)) :: (1002, g4, .cells #[.string s3] 9 (0, 0)) :: (100040, g2, .cells #[.int .i64 0, .int .i64 0, .slice none 0 0, .string (⟨#[]⟩ : ByteArray), .int .i64 0, .int .i64 0, .slice none 0 0] 30 (0, 0)) :: (100020, g1, .cells #[.int .i64 p0.fTerm, .int .i64 p0.fVote, .slice Ap0_0 p0.fVoters.length cp0_0, .string p0.fSnap, .int .i64 p0.fLog.fBase, .int .i64 p0.fLog.fBaseTerm, .slice Ap0_1 p0.fLog.fEntries.length cp0_1] 30 (0, 0)) :: H, R, φ⟩ (fun W h => (ok_front (t := 100080) (t' := 1000) (ok_front (t := 100070) (t' := 1001) (ok_front (t := 100060) (t' := 1002) h rfl) rfl) rfl)) Try.call36 rfl rfl rfl (c_plog_read_c2 g6 g5 false g4 s3 _ hx123) (fun _ _ => ?_)
   refine g_sta _ (fun W h => (ok_front (t := 1000) (t' := 100080) (ok_front (t := 1001) (t' := 100070) (ok_front (t := 1002) (t' := 100060) h rfl) rfl) rfl)) ?_
   refine g_v rfl (r_field (n := 0) Try.underlying30 rfl Try.sizeOf3 rfl rfl) ?_
   refine g_storeL (tag := 100020) rfl rfl rfl rfl Try.sizeOf3 rfl rfl ?_
   refine g_nil ?_
   refine d_then ?_
   refine c_seq ?_
   refine c_region ?_
   refine g_v rfl r_move ?_
   replace hm := bnd hm
   obtain ⟨⟨x125, x126, x127⟩, hx128, hm⟩ := hm
   refine g_cnv ⟨w0, M, (1000, g6, .cells #[.func (.func 35) #[] #[.pointer (some ⟨g4, 0, none⟩), .pointer (some ⟨g5, 0, none⟩)]] 71 (0, 0)) :: (1001, g5, .cells #[.bool x121] 4 (0, 0)) :: (1002, g4, .cells #[.string x122] 9 (0, 0)) :: (100040, g2, .cells #[.int .i64 0, .int .i64 0, .slice none 0 0, .string (⟨#[]⟩ : ByteArray), .int .i64 0, .int .i64 0, .slice none 0 0] 30 (0, 0)) :: (100020, g1, .cells #[.int .i64 x120, .int .i64 p0.fVote, .slice Ap0_0 p0.fVoters.length cp0_0, .string p0.fSnap, .int .i64 p0.fLog.fBase, .int .i64 p0.fLog.fBaseTerm, .slice Ap0_1 p0.fLog.fEntries.length cp0_1] 30 (0, 0)) :: H, R, φ⟩ (fun W h => (ok_front (t := 100080) (t' := 1000) (ok_front (t := 100070) (t' := 1001) (ok_front (t := 100060) (t' := 1002) h rfl) rfl) rfl)) Try.call36 rfl rfl rfl (c_plog_read_c2 g6 g5 x121 g4 x122 _ hx128) (fun _ _ => ?_)
   refine g_sta _ (fun W h => (ok_front (t := 1000) (t' := 100080) (ok_front (t := 1001) (t' := 100070) (ok_front (t := 1002) (t' := 100060) h rfl) rfl) rfl)) ?_
   refine g_v rfl (r_field (n := 1) Try.underlying30 rfl Try.sizeOf3 rfl rfl) ?_
   refine g_storeL (tag := 100020) rfl rfl rfl rfl Try.sizeOf3 rfl rfl ?_
   refine g_nil ?_
   refine d_then ?_
   refine c_flat [(2, .pointer (some ⟨g1, 0, none⟩)), (4, .pointer (some ⟨g2, 0, none⟩)), (6, .pointer (some ⟨g4, 0, none⟩)), (7, .pointer (some ⟨g5, 0, none⟩))] ⟨rfl, rfl, rfl, rfl, trivial⟩ (fun u => ?_)
   refine c_sta ⟨w0, M, (100080, g6, .cells #[.func (.func 35) #[] #[.pointer (some ⟨g4, 0, none⟩), .pointer (some ⟨g5, 0, none⟩)]] 71 (0, 0)) :: (100070, g5, .cells #[.bool x126] 4 (0, 0)) :: (100060, g4, .cells #[.string x127] 9 (0, 0)) :: (100040, g2, .cells #[.int .i64 0, .int .i64 0, .slice none 0 0, .string (⟨#[]⟩ : ByteArray), .int .i64 0, .int .i64 0, .slice none 0 0] 30 (0, 0)) :: (100020, g1, .cells #[.int .i64 x120, .int .i64 x125, .slice Ap0_0 p0.fVoters.length cp0_0, .string p0.fSnap, .int .i64 p0.fLog.fBase, .int .i64 p0.fLog.fBaseTerm, .slice Ap0_1 p0.fLog.fEntries.length cp0_1] 30 (0, 0)) :: H, R, φ⟩ (fun _ h => h) ?_
   refine c_seq ?_
   refine ga_start (n := 9) ⟨w0, M, (100080, g6, .cells #[.func (.func 35) #[] #[.pointer (some ⟨g4, 0, none⟩), .pointer (some ⟨g5, 0, none⟩)]] 71 (0, 0)) :: (100070, g5, .cells #[.bool x126] 4 (0, 0)) :: (100060, g4, .cells #[.string x127] 9 (0, 0)) :: (100020, g1, .cells #[.int .i64 x120, .int .i64 x125, .slice Ap0_0 p0.fVoters.length cp0_0, .string p0.fSnap, .int .i64 p0.fLog.fBase, .int .i64 p0.fLog.fBaseTerm, .slice Ap0_1 p0.fLog.fEntries.length cp0_1] 30 (0, 0)) :: H, R, φ⟩ [] #[false, false, false, false, false, false, false, false, false] (fun W h => (h.dropH (t := 100040) rfl).phi (fun W hφ => hφ)) mixed rfl rfl ?_
   refine ga_v (i := 0) #[true, false, false, false, false, false, false, false, false] rfl (by kernel_rfl) (fun _ _ _ _ h => h) rfl (r_loadA (tag := 100020) rfl rfl Try.isAgg30 Try.sizeOf30 rfl rfl) ?_
   refine ga_r (i := 1) #[true, true, false, false, false, false, false, false, false] rfl (by kernel_rfl) (by decide) rfl (r_load (tag := 100070) rfl rfl rfl Try.isAgg4) ?_
   refine ga_r (i := 2) #[true, true, true, false, false, false, false, false, false] rfl (by kernel_rfl) (by decide) rfl (r_not rfl) ?_
   refine ga_r (i := 3) #[true, true, true, true, false, false, false, false, false] rfl (by kernel_rfl) (by decide) rfl (r_move) ?_
   refine ga_if (t := 91) rfl (fun h132 => ?_) (fun h132 => ?_)
   ·
    have h132' : x126 = false := by revert h132; cases x126 <;> simp
    replace hm := ite_f hm (bool_nt h132')
    refine ga_do (i := 4) #[true, true, true, true, true, false, false, false, false] rfl (by kernel_rfl) (fun _ _ _ _ h => h) rfl rfl rfl rfl rfl h132 (r_load (tag := 100060) rfl rfl rfl Try.isAgg9) ?_
    refine ga_do (i := 5) #[true, true, true, true, true, true, false, false, false] rfl (by kernel_rfl) (fun _ _ _ _ h => h) rfl rfl rfl rfl rfl h132 (r_eqlT rfl rfl) ?_
    refine ga_v (i := 6) #[true, true, true, true, true, true, true, false, false] rfl (by kernel_rfl) (fun _ _ _ _ h => h) rfl (r_pick1 rfl h132) ?_
    refine ga_storeN (i := 7) (tag := 100040) #[true, true, true, true, true, true, true, true, false] rfl (by kernel_rfl) (by decide) rfl rfl rfl rfl Try.sizeOf30 rfl rfl (fun W h => (h.dropH (t := 100040) rfl).phi (fun W hφ => hφ)) ?_
    refine ga_r (i := 8) #[true, true, true, true, true, true, true, true, true] rfl (by kernel_rfl) (by decide) rfl (r_assign) ?_
    refine ga_done (by kernel_rfl) ?_
    refine d_then ?_
    refine c_flat [(4, .pointer (some ⟨g2, 0, none⟩)), (5, .bool (decide (x127 = (⟨#[]⟩ : ByteArray))))] ⟨rfl, rfl, trivial⟩ (fun u => ?_)
    refine c_sta ⟨w0, M, (100080, g6, .cells #[.func (.func 35) #[] #[.pointer (some ⟨g4, 0, none⟩), .pointer (some ⟨g5, 0, none⟩)]] 71 (0, 0)) :: (100070, g5, .cells #[.bool x126] 4 (0, 0)) :: (100060, g4, .cells #[.string x127] 9 (0, 0)) :: (100040, g2, .cells #[.int .i64 x120, .int .i64 x125, .slice Ap0_0 p0.fVoters.length cp0_0, .string p0.fSnap, .int .i64 p0.fLog.fBase, .int .i64 p0.fLog.fBaseTerm, .slice Ap0_1 p0.fLog.fEntries.length cp0_1] 30 (0, 0)) :: (100020, g1, .cells #[.int .i64 x120, .int .i64 x125, .slice Ap0_0 p0.fVoters.length cp0_0, .string p0.fSnap, .int .i64 p0.fLog.fBase, .int .i64 p0.fLog.fBaseTerm, .slice Ap0_1 p0.fLog.fEntries.length cp0_1] 30 (0, 0)) :: H, R, φ⟩ (fun _ h => h) ?_
    refine c_ret ?_
    refine d_ret_block ?_
    refine d_ret_then ?_
    replace hm := Option.some.inj hm
    subst hm
    refine d_retC (Ap0_0, cp0_0, Ap0_1, cp0_1) Try.results24 ?_ ⟨hcp0_0, hcp0_1⟩ (fun W h => ok_pre (H1 := [_, _, _, _, _]) (R1 := []) h (fun W hφ => ⟨hφ, (fun W h => fp0_0 W h) W hφ, (fun W h => fp0_1 W h) W hφ⟩)) (.inr rfl)
    refine res_agg (tag := 100040) rfl rfl Try.isAgg30 Try.sizeOf30 ?_
    refine res_tmp ?_
    refine res_nil ?_
    exact rfl
   ·
    have h132' : x126 = true := by revert h132; cases x126 <;> simp
    replace hm := ite_t hm h132'
    refine ga_no (i := 4) #[true, true, true, true, true, false, false, false, false] rfl (by kernel_rfl) (fun _ _ _ _ h => h) rfl rfl rfl rfl rfl h132 ?_
    refine ga_no (i := 5) #[true, true, true, true, true, true, false, false, false] rfl (by kernel_rfl) (fun _ _ _ _ h => h) rfl rfl rfl rfl rfl h132 ?_
    refine ga_v (i := 6) #[true, true, true, true, true, true, true, false, false] rfl (by kernel_rfl) (fun _ _ _ _ h => h) rfl (r_pick0 rfl h132) ?_
    refine ga_storeN (i := 7) (tag := 100040) #[true, true, true, true, true, true, true, true, false] rfl (by kernel_rfl) (by decide) rfl rfl rfl rfl Try.sizeOf30 rfl rfl (fun W h => (h.dropH (t := 100040) rfl).phi (fun W hφ => hφ)) ?_
    refine ga_r (i := 8) #[true, true, true, true, true, true, true, true, true] rfl (by kernel_rfl) (by decide) rfl (r_assign) ?_
    refine ga_done (by kernel_rfl) ?_
    refine d_then ?_
    refine c_ret ?_
    refine d_ret_block ?_
    refine d_ret_then ?_
    replace hm := Option.some.inj hm
    subst hm
    refine d_retC (Ap0_0, cp0_0, Ap0_1, cp0_1) Try.results24 ?_ ⟨hcp0_0, hcp0_1⟩ (fun W h => ok_pre (H1 := [_, _, _, _, _]) (R1 := []) h (fun W hφ => ⟨hφ, (fun W h => fp0_0 W h) W hφ, (fun W h => fp0_1 W h) W hφ⟩)) (.inr rfl)
    refine res_agg (tag := 100040) rfl rfl Try.isAgg30 Try.sizeOf30 ?_
    refine res_tmp ?_
    refine res_nil ?_
    exact rfl
  ·
   replace hm := ite_f hm (of_decide_eq_false h119)
   refine c_seq ?_
   refine c_region ?_
   refine g_v rfl (r_eql rfl rfl) ?_
   refine g_v rfl r_assign ?_
   refine g_nil ?_
   refine d_then ?_
   refine c_cond rfl (fun h133 => ?_) (fun h133 => ?_)
   ·
    replace hm := ite_t hm (of_decide_eq_true h133)
    refine c_seq ?_
    refine c_region ?_
    refine g_v rfl r_move ?_
    replace hm := bnd hm
    obtain ⟨⟨x134, x135, x136⟩, hx137, hm⟩ := hm
    refine g_cnv ⟨w0, M, (1000, g6, .cells #[.func (.func 35) #[] #[.pointer (some ⟨g4, 0, none⟩), .pointer (some ⟨g5, 0, none⟩)]] 71 (0, 0)) :: (1001, g5, .cells #[.bool false] 4 (0, 0)) :: (1002, g4, .cells #[.string s3] 9 (0, 0)) :: (100040, g2, .cells #[.int .i64 0, .int .i64 0, .slice none 0 0, .string (⟨#[]⟩ : ByteArray), .int .i64 0, .int .i64 0, .slice none 0 0] 30 (0, 0)) :: (100020, g1, .cells #[.int .i64 p0.fTerm, .int .i64 p0.fVote, .slice Ap0_0 p0.fVoters.length cp0_0, .string p0.fSnap, .int .i64 p0.fLog.fBase, .int .i64 p0.fLog.fBaseTerm, .slice Ap0_1 p0.fLog.fEntries.length cp0_1] 30 (0, 0)) :: H, R, φ⟩ (fun W h => (ok_front (t := 100080) (t' := 1000) (ok_front (t := 100070) (t' := 1001) (ok_front (t := 100060) (t' := 1002) h rfl) rfl) rfl)) Try.call36 rfl rfl rfl (c_plog_read_c2 g6 g5 false g4 s3 _ hx137) (fun _ _ => ?_)
    refine g_sta _ (fun W h => (ok_front (t := 1000) (t' := 100080) (ok_front (t := 1001) (t' := 100070) (ok_front (t := 1002) (t' := 100060) h rfl) rfl) rfl)) ?_
    refine g_v rfl r_assign ?_
    refine g_nil ?_
    refine d_then ?_
    refine c_seq ?_
    refine c_region ?_
    refine g_v rfl r_move ?_
    replace hm := bnd hm
    obtain ⟨⟨x139, x140, x141⟩, hx142, hm⟩ := hm
    refine g_cnv ⟨w0, M, (1000, g6, .cells #[.func (.func 35) #[] #[.pointer (some ⟨g4, 0, none⟩), .pointer (some ⟨g5, 0, none⟩)]] 71 (0, 0)) :: (1001, g5, .cells #[.bool x135] 4 (0, 0)) :: (1002, g4, .cells #[.string x136] 9 (0, 0)) :: (100040, g2, .cells #[.int .i64 0, .int .i64 0, .slice none 0 0, .string (⟨#[]⟩ : ByteArray), .int .i64 0, .int .i64 0, .slice none 0 0] 30 (0, 0)) :: (100020, g1, .cells #[.int .i64 p0.fTerm, .int .i64 p0.fVote, .slice Ap0_0 p0.fVoters.length cp0_0, .string p0.fSnap, .int .i64 p0.fLog.fBase, .int .i64 p0.fLog.fBaseTerm, .slice Ap0_1 p0.fLog.fEntries.length cp0_1] 30 (0, 0)) :: H, R, φ⟩ (fun W h => (ok_front (t := 100080) (t' := 1000) (ok_front (t := 100070) (t' := 1001) (ok_front (t := 100060) (t' := 1002) h rfl) rfl) rfl)) Try.call36 rfl rfl rfl (c_plog_read_c2 g6 g5 x135 g4 x136 _ hx142) (fun _ _ => ?_)
    refine g_sta _ (fun W h => (ok_front (t := 1000) (t' := 100080) (ok_front (t := 1001) (t' := 100070) (ok_front (t := 1002) (t' := 100060) h rfl) rfl) rfl)) ?_
    refine g_v rfl (r_build _ rfl (bld46_0 _)) ?_
    refine g_e rfl (e_alloc 100160 Try.zeroValue46) (fun g144 _ => ?_)
    refine g_storeL (tag := 100160) rfl rfl rfl rfl Try.sizeOf46 rfl rfl ?_
    refine g_nil ?_
    refine d_then ?_
    refine c_flat [(2, .pointer (some ⟨g1, 0, none⟩)), (4, .pointer (some ⟨g2, 0, none⟩)), (6, .pointer (some ⟨g4, 0, none⟩)), (7, .pointer (some ⟨g5, 0, none⟩)), (8, .pointer (some ⟨g6, 0, none⟩)), (15, .int .i64 x134), (16, .pointer (some ⟨g144, 0, none⟩))] ⟨rfl, rfl, rfl, rfl, rfl, rfl, rfl, trivial⟩ (fun u => ?_)
    refine c_sta ⟨w0, M, (100160, g144, .cells #[.int .i64 x139, .int .i64 0, .string (⟨#[]⟩ : ByteArray)] 46 (0, 0)) :: (100080, g6, .cells #[.func (.func 35) #[] #[.pointer (some ⟨g4, 0, none⟩), .pointer (some ⟨g5, 0, none⟩)]] 71 (0, 0)) :: (100070, g5, .cells #[.bool x140] 4 (0, 0)) :: (100060, g4, .cells #[.string x141] 9 (0, 0)) :: (100040, g2, .cells #[.int .i64 0, .int .i64 0, .slice none 0 0, .string (⟨#[]⟩ : ByteArray), .int .i64 0, .int .i64 0, .slice none 0 0] 30 (0, 0)) :: (100020, g1, .cells #[.int .i64 p0.fTerm, .int .i64 p0.fVote, .slice Ap0_0 p0.fVoters.length cp0_0, .string p0.fSnap, .int .i64 p0.fLog.fBase, .int .i64 p0.fLog.fBaseTerm, .slice Ap0_1 p0.fLog.fEntries.length cp0_1] 30 (0, 0)) :: H, R, φ⟩ (fun _ h => h) ?_
    refine c_seq ?_
    refine c_region ?_
    refine g_v rfl (r_load (tag := 100080) rfl rfl rfl Try.isAgg71) ?_
    replace hm := bnd hm
    obtain ⟨⟨x145, x146, x147⟩, hx148, hm⟩ := hm
    refine g_cnv ⟨w0, M, (1000, g4, .cells #[.string x141] 9 (0, 0)) :: (1001, g5, .cells #[.bool x140] 4 (0, 0)) :: (100160, g144, .cells #[.int .i64 x139, .int .i64 0, .string (⟨#[]⟩ : ByteArray)] 46 (0, 0)) :: (100080, g6, .cells #[.func (.func 35) #[] #[.pointer (some ⟨g4, 0, none⟩), .pointer (some ⟨g5, 0, none⟩)]] 71 (0, 0)) :: (100040, g2, .cells #[.int .i64 0, .int .i64 0, .slice none 0 0, .string (⟨#[]⟩ : ByteArray), .int .i64 0, .int .i64 0, .slice none 0 0] 30 (0, 0)) :: (100020, g1, .cells #[.int .i64 p0.fTerm, .int .i64 p0.fVote, .slice Ap0_0 p0.fVoters.length cp0_0, .string p0.fSnap, .int .i64 p0.fLog.fBase, .int .i64 p0.fLog.fBaseTerm, .slice Ap0_1 p0.fLog.fEntries.length cp0_1] 30 (0, 0)) :: H, R, φ⟩ (fun W h => (ok_front (t := 100060) (t' := 1000) (ok_front (t := 100070) (t' := 1001) h rfl) rfl)) Try.call35 rfl rfl rfl (c_plog_read_c1 1 g4 x141 g5 x140 _ hx148) (fun _ _ => ?_)
    refine g_sta _ (fun W h => (ok_front (t := 1000) (t' := 100060) (ok_front (t := 1001) (t' := 100070) h rfl) rfl)) ?_
    refine g_v rfl r_assign ?_
    refine g_nil ?_
    refine d_then ?_
    refine c_seq ?_
    refine c_seq ?_
    refine c_region ?_
    refine g_v rfl (r_load (tag := 100070) rfl rfl rfl Try.isAgg4) ?_
    refine g_v rfl r_move ?_
    refine g_if rfl rfl rfl rfl rfl (fun h150 => ?_) (fun h150 => ?_)
    ·
     replace hm := ite_f hm (bool_nt h150)
     refine g_v rfl r_move ?_
     refine g_do rfl rfl rfl rfl rfl h150 ?_
     refine g_v rfl (r_field (n := 4) Try.underlying30 rfl Try.sizeOf28 rfl rfl) ?_
     refine g_do rfl rfl rfl rfl rfl h150 ?_
     refine g_v rfl (r_field (n := 4) Try.underlying28 rfl Try.sizeOf3 rfl rfl) ?_
     refine g_do rfl rfl rfl rfl rfl h150 ?_
     refine g_v rfl (r_load (tag := 100020) rfl rfl rfl Try.isAgg3) ?_
     refine g_do rfl rfl rfl rfl rfl h150 ?_
     refine g_v rfl (r_leq rfl rfl) ?_
     refine g_v rfl (r_pick0 rfl h150) ?_
     refine g_v rfl r_move ?_
     refine g_if rfl rfl rfl rfl rfl (fun h151 => ?_) (fun h151 => ?_)
     ·
      replace hm := ite_f hm (of_decide_eq_false h151)
      refine g_v rfl r_move ?_
      refine g_do rfl rfl rfl rfl rfl h151 ?_
      refine g_v rfl (r_field (n := 4) Try.underlying30 rfl Try.sizeOf28 rfl rfl) ?_
      refine g_do rfl rfl rfl rfl rfl h151 ?_
      refine g_v rfl (r_loadA (tag := 100020) rfl rfl Try.isAgg28 Try.sizeOf28 rfl rfl) ?_
      refine g_do rfl rfl rfl rfl rfl h151 ?_
      replace hm := bnd hm
      obtain ⟨x152, hx153, hm⟩ := hm
      refine g_cn ⟨w0, M, _, _, φ⟩ (fun _ h => h) Try.call13 rfl rfl (c_plog_Last p0.fLog Ap0_1 cp0_1 hcp0_1 (fun W hS => fp0_1 W hS.now) _ hx153) (fun _ _ => ?_)
      refine g_do rfl rfl rfl rfl rfl h151 ?_
      refine g_v rfl (r_add rfl rfl rfl) ?_
      refine g_do rfl rfl rfl rfl rfl h151 ?_
      refine g_v rfl (r_gtr rfl rfl) ?_
      refine g_v rfl (r_pick0 rfl h151) ?_
      refine g_nil ?_
      refine d_then ?_
      refine c_flat [(2, .pointer (some ⟨g1, 0, none⟩)), (4, .pointer (some ⟨g2, 0, none⟩)), (6, .pointer (some ⟨g4, 0, none⟩)), (15, .int .i64 x134), (16, .pointer (some ⟨g144, 0, none⟩)), (17, .string x145), (119, .bool (decide (w64 (x152 + 1) < x134)))] ⟨rfl, rfl, rfl, rfl, rfl, rfl, rfl, trivial⟩ (fun u => ?_)
      refine c_sta ⟨w0, M, (100060, g4, .cells #[.string x146] 9 (0, 0)) :: (100070, g5, .cells #[.bool x147] 4 (0, 0)) :: (100160, g144, .cells #[.int .i64 x139, .int .i64 0, .string (⟨#[]⟩ : ByteArray)] 46 (0, 0)) :: (100080, g6, .cells #[.func (.func 35) #[] #[.pointer (some ⟨g4, 0, none⟩), .pointer (some ⟨g5, 0, none⟩)]] 71 (0, 0)) :: (100040, g2, .cells #[.int .i64 0, .int .i64 0, .slice none 0 0, .string (⟨#[]⟩ : ByteArray), .int .i64 0, .int .i64 0, .slice none 0 0] 30 (0, 0)) :: (100020, g1, .cells #[.int .i64 p0.fTerm, .int .i64 p0.fVote, .slice Ap0_0 p0.fVoters.length cp0_0, .string p0.fSnap, .int .i64 p0.fLog.fBase, .int .i64 p0.fLog.fBaseTerm, .slice Ap0_1 p0.fLog.fEntries.length cp0_1] 30 (0, 0)) :: H, R, φ⟩ (fun _ h => h) ?_
      refine c_cond rfl (fun h154 => ?_) (fun h154 => ?_)
      ·
       replace hm := ite_t hm (of_decide_eq_true h154)
       refine c_seq ?_
       refine c_region ?_
       refine g_v rfl (r_loadA (tag := 100020) rfl rfl Try.isAgg30 Try.sizeOf30 rfl rfl) ?_
       refine g_storeL (tag := 100040) rfl rfl rfl rfl Try.sizeOf30 rfl rfl ?_
       refine g_v rfl r_assign ?_
       refine g_nil ?_
       refine d_then ?_
       refine c_ret ?_
       refine d_ret_then ?_
       refine d_ret_block ?_
       refine d_ret_then ?_
       replace hm := Option.some.inj hm
       subst hm
       refine d_retC (Ap0_0, cp0_0, Ap0_1, cp0_1) Try.results24 ?_ ⟨hcp0_0, hcp0_1⟩ (fun W h => ok_pre (H1 := [_, _, _, _, _, _]) (R1 := []) h (fun W hφ => ⟨hφ, (fun W h => fp0_0 W h) W hφ, (fun W h => fp0_1 W h) W hφ⟩)) (.inr rfl)
       refine res_agg (tag := 100040) rfl rfl Try.isAgg30 Try.sizeOf30 ?_
       refine res_tmp ?_
       refine res_nil ?_
       exact rfl
      ·
       replace hm := ite_f hm (of_decide_eq_false h154)
       refine c_skip ?_
       refine d_then ?_
       refine c_seq ?_
       refine ga_start (n := 8) ⟨w0, M, (100060, g4, .cells #[.string x146] 9 (0, 0)) :: (100070, g5, .cells #[.bool x147] 4 (0, 0)) :: (100080, g6, .cells #[.func (.func 35) #[] #[.pointer (some ⟨g4, 0, none⟩), .pointer (some ⟨g5, 0, none⟩)]] 71 (0, 0)) :: (100040, g2, .cells #[.int .i64 0, .int .i64 0, .slice none 0 0, .string (⟨#[]⟩ : ByteArray), .int .i64 0, .int .i64 0, .slice none 0 0] 30 (0, 0)) :: (100020, g1, .cells #[.int .i64 p0.fTerm, .int .i64 p0.fVote, .slice Ap0_0 p0.fVoters.length cp0_0, .string p0.fSnap, .int .i64 p0.fLog.fBase, .int .i64 p0.fLog.fBaseTerm, .slice Ap0_1 p0.fLog.fEntries.length cp0_1] 30 (0, 0)) :: H, R, φ⟩ [] #[false, false, false, false, false, false, false, false] (fun W h => (h.dropH (t := 100160) rfl).phi (fun W hφ => hφ)) mixed rfl rfl ?_
       refine ga_v (i := 0) #[true, false, false, false, false, false, false, false] rfl (by kernel_rfl) (fun _ _ _ _ h => h) rfl (r_move) ?_
       replace hm := bnd hm
       obtain ⟨b157, hb157, hm⟩ := hm
       refine ga_v (i := 1) #[true, true, false, false, false, false, false, false] rfl (by kernel_rfl) (fun _ _ _ _ h => h) rfl (r_sat Try.underlying9 rfl rfl hb157) ?_
       refine ga_v (i := 2) #[true, true, true, false, false, false, false, false] rfl (by kernel_rfl) (fun _ _ _ _ h => h) rfl (r_conv Try.underlying5 Try.underlying3 rfl rfl) ?_
       refine ga_v (i := 3) #[true, true, true, true, false, false, false, false] rfl (by kernel_rfl) (fun _ _ _ _ h => h) rfl (r_load (tag := 100060) rfl rfl rfl Try.isAgg9) ?_
       refine ga_r (i := 4) #[true, true, true, true, true, false, false, false] rfl (by kernel_rfl) (by decide) rfl (r_field (n := 1) Try.underlying46 rfl Try.sizeOf3 rfl rfl) ?_
       refine ga_storeN (i := 5) (tag := 100160) #[true, true, true, true, true, true, false, false] rfl (by kernel_rfl) (by decide) rfl rfl rfl rfl Try.sizeOf3 rfl rfl (fun W h => (h.dropH (t := 100160) rfl).phi (fun W hφ => hφ)) ?_
       refine ga_r (i := 6) #[true, true, true, true, true, true, true, false] rfl (by kernel_rfl) (by decide) rfl (r_field (n := 2) Try.underlying46 rfl Try.sizeOf9 rfl rfl) ?_
       refine ga_storeN (i := 7) (tag := 100160) #[true, true, true, true, true, true, true, true] rfl (by kernel_rfl) (by decide) rfl rfl rfl rfl Try.sizeOf9 rfl rfl (fun W h => (h.dropH (t := 100160) rfl).phi (fun W hφ => hφ)) ?_
       refine ga_done (by kernel_rfl) ?_
       refine d_then ?_
       refine c_seq ?_
       refine c_cut (ι := Int × Int × (List GEntry) × Option Addr × Nat) [2, 4] (fun ⟨i303, i304, l305, A306, c307⟩ => []) (fun ⟨i303, i304, l305, A306, c307⟩ => ⟨w0, M, (100040, g2, .cells #[.int .i64 0, .int .i64 0, .slice none 0 0, .string (⟨#[]⟩ : ByteArray), .int .i64 0, .int .i64 0, .slice none 0 0] 30 (0, 0)) :: (100020, g1, .cells #[.int .i64 p0.fTerm, .int .i64 p0.fVote, .slice Ap0_0 p0.fVoters.length cp0_0, .string p0.fSnap, .int .i64 i303, .int .i64 i304, .slice A306 l305.length c307] 30 (0, 0)) :: H, R, fun W => φ W ∧ Cl W A306 (l305.flatMap GEntry.enc)⟩) (fun ⟨i303, i304, l305, A306, c307⟩ => m_plog_read_j1 p0 i303 i304 l305 = some r ∧ l305.length ≤ c307) ?_ (fun ⟨i303, i304, l305, A306, c307⟩ u ⟨hm, hc307⟩ => ?_)
       ·
        refine ga_start (n := 10) ⟨w0, M, (100060, g4, .cells #[.string x146] 9 (0, 0)) :: (100070, g5, .cells #[.bool x147] 4 (0, 0)) :: (100160, g144, .cells #[.int .i64 x139, .int .i64 (w64 b157), .string x146] 46 (0, 0)) :: (100080, g6, .cells #[.func (.func 35) #[] #[.pointer (some ⟨g4, 0, none⟩), .pointer (some ⟨g5, 0, none⟩)]] 71 (0, 0)) :: (100040, g2, .cells #[.int .i64 0, .int .i64 0, .slice none 0 0, .string (⟨#[]⟩ : ByteArray), .int .i64 0, .int .i64 0, .slice none 0 0] 30 (0, 0)) :: (100020, g1, .cells #[.int .i64 p0.fTerm, .int .i64 p0.fVote, .slice Ap0_0 p0.fVoters.length cp0_0, .string p0.fSnap, .int .i64 p0.fLog.fBase, .int .i64 p0.fLog.fBaseTerm, .slice Ap0_1 p0.fLog.fEntries.length cp0_1] 30 (0, 0)) :: H, R, φ⟩ [9] #[false, false, false, false, false, false, false, false, false, false] (fun W h => h.phi (fun W hφ => hφ)) mixed rfl rfl ?_
        refine ga_v (i := 0) #[true, false, false, false, false, false, false, false, false, false] rfl (by kernel_rfl) (fun _ _ _ _ h => h) rfl (r_field (n := 4) Try.underlying30 rfl Try.sizeOf28 rfl rfl) ?_
        refine ga_v (i := 1) #[true, true, false, false, false, false, false, false, false, false] rfl (by kernel_rfl) (fun _ _ _ _ h => h) rfl (r_loadA (tag := 100020) rfl rfl Try.isAgg28 Try.sizeOf28 rfl rfl) ?_
        refine ga_v (i := 2) #[true, true, true, false, false, false, false, false, false, false] rfl (by kernel_rfl) (fun _ _ _ _ h => h) rfl (r_move) ?_
        refine ga_v (i := 3) #[true, true, true, true, false, false, false, false, false, false] rfl (by kernel_rfl) (fun _ _ _ _ h => h) rfl (r_sub rfl rfl rfl) ?_
        refine ga_v (i := 5) #[true, true, true, true, false, true, false, false, false, false] rfl (by kernel_rfl) (fun _ _ _ _ h => h) rfl (r_loadA (tag := 100160) rfl rfl Try.isAgg46 Try.sizeOf46 rfl rfl) ?_
        replace hm := bnd hm
        obtain ⟨x368, hx369, hm⟩ := hm
        refine ga_two (i := 4) (j := 6) #[true, true, true, true, true, true, false, false, false, false] #[true, true, true, true, false, true, true, false, false, false] rfl rfl (by kernel_rfl) (by decide) (by decide) ?_ ?_
        ·
         refine ex_cn (first := #[]) ⟨w0, M, _, _, φ⟩ (fun _ h => h) Try.call31 rfl rfl rfl (c_plog_upto p0.fLog Ap0_1 cp0_1 hcp0_1 (fun W h => fp0_1 W h) (w64 (x134 - 1)) _ hx369) (fun ⟨A371, c372⟩ W hc372 h => (h.phi (fun _ hh => hh.1)).phi (fun W hφ => hφ)) (fun ⟨A371, c372⟩ hc372 => ?_)
         refine ga_abs (fun φ374 q374' => ?_)
         have q374 : ∀ W, φ374 W → φ W := fun W h => (q374' W h).1
         have f373 := fun (W : World) (h : φ374 W) => (q374' W h).2
         refine ga_e (i := 6) #[true, true, true, true, true, true, true, false, false, false] rfl (by kernel_rfl) (by decide) rfl  (e_lit (tag := 101330) (l := [(⟨x139, w64 b157, x146⟩ : GEntry)]) (enc := GEntry.enc) (sz := 3) rfl Try.underlying26 (lit46_4 _ _ _) rfl rfl (fun _ => rfl)) (fun g375 W _ h => ((h.shut (t := 101330) rfl).phi (fun _ hh => hh.1)).phi (fun W hφ => (q374 _ hφ))) (fun g375 _ => ?_)
         refine ga_shut (tag := 101330) rfl (fun φ376 q376' => ?_)
         have q376 : ∀ W, φ376 W → φ374 W := fun W h => (q376' W h).1
         have f377 := fun (W : World) (h : φ376 W) => (q376' W h).2
         replace hm := bnd hm
         obtain ⟨x378, hx379, hm⟩ := hm
         refine ga_cn (first := #[]) (i := 7) #[true, true, true, true, true, true, true, true, false, false] rfl (by kernel_rfl) (by decide)  ⟨w0, M, _, _, φ376⟩ (fun _ h => h) Try.call30 rfl rfl rfl (c_plog_Add x368 A371 c372 hc372 (fun W h => f373 W (q376 _ h)) [(⟨x139, w64 b157, x146⟩ : GEntry)] (some ⟨g375, 0, none⟩) 1 (Nat.le_refl _) (fun W h => f377 W h) _ hx379) (fun ⟨A380, c381⟩ W hc381 h => (h.phi (fun _ hh => hh.1)).phi (fun W hφ => (q374 _ (q376 _ hφ)))) (fun ⟨A380, c381⟩ hc381 => ?_)
         refine ga_abs (fun φ383 q383' => ?_)
         have q383 : ∀ W, φ383 W → φ376 W := fun W h => (q383' W h).1
         have f382 := fun (W : World) (h : φ383 W) => (q383' W h).2
         refine ga_r (i := 8) #[true, true, true, true, true, true, true, true, true, false] rfl (by kernel_rfl) (by decide) rfl (r_field (n := 4) Try.underlying30 rfl Try.sizeOf28 rfl rfl) ?_
         refine ga_lastL (i := 9) (tag := 100020) #[true, true, true, true, true, true, true, true, true, true] rfl (by kernel_rfl) (by decide) rfl rfl rfl rfl Try.sizeOf28 rfl rfl ?_
         refine gz_done (by kernel_rfl) ?_
         exact d_round (x378.fBase, x378.fBaseTerm, x378.fEntries, A380, c381) ⟨hm, hc381⟩ Nat.zero_lt_one ⟨rfl, rfl, trivial⟩ (fun W h => ((((h.dropH (t := 100060) rfl).dropH (t := 100070) rfl).dropH (t := 100160) rfl).dropH (t := 100080) rfl).phi (fun W hφ => ⟨(q374 _ (q376 _ (q383 _ hφ))), (fun W h => f382 W h) W hφ⟩))
        ·
         refine ex_e rfl (e_lit (tag := 101330) (l := [(⟨x139, w64 b157, x146⟩ : GEntry)]) (enc := GEntry.enc) (sz := 3) rfl Try.underlying26 (lit46_4 _ _ _) rfl rfl (fun _ => rfl)) (fun g384 W _ h => ((h.shut (t := 101330) rfl).phi (fun _ hh => hh.1)).phi (fun W hφ => hφ)) (fun g384 _ => ?_)
         refine ga_cn (first := #[]) (i := 4) #[true, true, true, true, true, true, true, false, false, false] rfl (by kernel_rfl) (by decide)  ⟨w0, M, _, _, φ⟩ (fun _ h => h) Try.call31 rfl rfl rfl (c_plog_upto p0.fLog Ap0_1 cp0_1 hcp0_1 (fun W h => fp0_1 W h) (w64 (x134 - 1)) _ hx369) (fun ⟨A385, c386⟩ W hc386 h => (((h.phi (fun _ hh => hh.1)).shut (t := 101330) rfl).phi (fun _ hh => hh.1)).phi (fun W hφ => hφ)) (fun ⟨A385, c386⟩ hc386 => ?_)
         refine ga_abs (fun φ388 q388' => ?_)
         have q388 : ∀ W, φ388 W → φ W := fun W h => (q388' W h).1
         have f387 := fun (W : World) (h : φ388 W) => (q388' W h).2
         refine ga_shut (tag := 101330) rfl (fun φ389 q389' => ?_)
         have q389 : ∀ W, φ389 W → φ388 W := fun W h => (q389' W h).1
         have f390 := fun (W : World) (h : φ389 W) => (q389' W h).2
         replace hm := bnd hm
         obtain ⟨x391, hx392, hm⟩ := hm
         refine ga_cn (first := #[]) (i := 7) #[true, true, true, true, true, true, true, true, false, false] rfl (by kernel_rfl) (by decide)  ⟨w0, M, _, _, φ389⟩ (fun _ h => h) Try.call30 rfl rfl rfl (c_plog_Add x368 A385 c386 hc386 (fun W h => f387 W (q389 _ h)) [(⟨x139, w64 b157, x146⟩ : GEntry)] (some ⟨g384, 0, none⟩) 1 (Nat.le_refl _) (fun W h => f390 W h) _ hx392) (fun ⟨A393, c394⟩ W hc394 h => (h.phi (fun _ hh => hh.1)).phi (fun W hφ => (q388 _ (q389 _ hφ)))) (fun ⟨A393, c394⟩ hc394 => ?_)
         refine ga_abs (fun φ396 q396' => ?_)
         have q396 : ∀ W, φ396 W → φ389 W := fun W h => (q396' W h).1
         have f395 := fun (W : World) (h : φ396 W) => (q396' W h).2
         refine ga_r (i := 8) #[true, true, true, true, true, true, true, true, true, false] rfl (by kernel_rfl) (by decide) rfl (r_field (n := 4) Try.underlying30 rfl Try.sizeOf28 rfl rfl) ?_
         refine ga_lastL (i := 9) (tag := 100020) #[true, true, true, true, true, true, true, true, true, true] rfl (by kernel_rfl) (by decide) rfl rfl rfl rfl Try.sizeOf28 rfl rfl ?_
         refine gz_done (by kernel_rfl) ?_
         exact d_round (x391.fBase, x391.fBaseTerm, x391.fEntries, A393, c394) ⟨hm, hc394⟩ Nat.zero_lt_one ⟨rfl, rfl, trivial⟩ (fun W h => ((((h.dropH (t := 100060) rfl).dropH (t := 100070) rfl).dropH (t := 100160) rfl).dropH (t := 100080) rfl).phi (fun W hφ => ⟨(q388 _ (q389 _ (q396 _ hφ))), (fun W h => f395 W h) W hφ⟩))
       ·
        unfold m_plog_read_j1 at hm
        refine d_abs (fun φ309 q309' => ?_)
        have q309 : ∀ W, φ309 W → φ W := fun W h => (q309' W h).1
        have f308 := fun (W : World) (h : φ309 W) => (q309' W h).2
        refine d_flat [(2, .pointer (some ⟨g1, 0, none⟩)), (4, .pointer (some ⟨g2, 0, none⟩))] ⟨rfl, rfl, trivial⟩ (fun u => ?_)
        refine d_sta ⟨w0, M, (100040, g2, .cells #[.int .i64 0, .int .i64 0, .slice none 0 0, .string (⟨#[]⟩ : ByteArray), .int .i64 0, .int .i64 0, .slice none 0 0] 30 (0, 0)) :: (100020, g1, .cells #[.int .i64 p0.fTerm, .int .i64 p0.fVote, .slice Ap0_0 p0.fVoters.length cp0_0, .string p0.fSnap, .int .i64 i303, .int .i64 i304, .slice A306 l305.length c307] 30 (0, 0)) :: H, R, φ309⟩ (fun _ h => h) ?_
        refine d_then ?_
        refine c_seq ?_
        refine c_region ?_
        refine g_v rfl (r_loadA (tag := 100020) rfl rfl Try.isAgg30 Try.sizeOf30 rfl rfl) ?_
        refine g_storeL (tag := 100040) rfl rfl rfl rfl Try.sizeOf30 rfl rfl ?_
        refine g_v rfl r_assign ?_
        refine g_nil ?_
        refine d_then ?_
        refine c_ret ?_
        refine d_ret_block ?_
        refine d_ret_then ?_
        replace hm := Option.some.inj hm
        subst hm
        refine d_retC (Ap0_0, cp0_0, A306, c307) Try.results24 ?_ ⟨hcp0_0, hc307⟩ (fun W h => ok_pre (H1 := [_, _]) (R1 := []) h (fun W hφ => ⟨(q309 _ hφ), (fun W h => fp0_0 W (q309 _ h)) W hφ, (fun W h => f308 W h) W hφ⟩)) (.inr rfl)
        refine res_agg (tag := 100040) rfl rfl Try.isAgg30 Try.sizeOf30 ?_
        refine res_tmp ?_
        refine res_nil ?_
        exact rfl
     ·
      replace hm := ite_t hm (of_decide_eq_true h151)
      refine g_no rfl rfl rfl rfl rfl h151 ?_
      refine g_no rfl rfl rfl rfl rfl h151 ?_
      refine g_no rfl rfl rfl rfl rfl h151 ?_
      refine g_no rfl rfl rfl rfl rfl h151 ?_
      refine g_no rfl rfl rfl rfl rfl h151 ?_
      refine g_v rfl (r_pick1 rfl h151) ?_
      refine g_nil ?_
      refine d_then ?_
      refine c_flat [(2, .pointer (some ⟨g1, 0, none⟩)), (4, .pointer (some ⟨g2, 0, none⟩)), (6, .pointer (some ⟨g4, 0, none⟩)), (15, .int .i64 x134), (16, .pointer (some ⟨g144, 0, none⟩)), (17, .string x145), (119, .bool true)] ⟨rfl, rfl, rfl, rfl, rfl, rfl, rfl, trivial⟩ (fun u => ?_)
      refine c_sta ⟨w0, M, (100060, g4, .cells #[.string x146] 9 (0, 0)) :: (100070, g5, .cells #[.bool x147] 4 (0, 0)) :: (100160, g144, .cells #[.int .i64 x139, .int .i64 0, .string (⟨#[]⟩ : ByteArray)] 46 (0, 0)) :: (100080, g6, .cells #[.func (.func 35) #[] #[.pointer (some ⟨g4, 0, none⟩), .pointer (some ⟨g5, 0, none⟩)]] 71 (0, 0)) :: (100040, g2, .cells #[.int .i64 0, .int .i64 0, .slice none 0 0, .string (⟨#[]⟩ : ByteArray), .int .i64 0, .int .i64 0, .slice none 0 0] 30 (0, 0)) :: (100020, g1, .cells #[.int .i64 p0.fTerm, .int .i64 p0.fVote, .slice Ap0_0 p0.fVoters.length cp0_0, .string p0.fSnap, .int .i64 p0.fLog.fBase, .int .i64 p0.fLog.fBaseTerm, .slice Ap0_1 p0.fLog.fEntries.length cp0_1] 30 (0, 0)) :: H, R, φ⟩ (fun _ h => h) ?_
      refine c_cond1 rfl rfl ?_
      refine c_seq ?_
      refine c_region ?_
      refine g_v rfl (r_loadA (tag := 100020) rfl rfl Try.isAgg30 Try.sizeOf30 rfl rfl) ?_
      refine g_storeL (tag := 100040) rfl rfl rfl rfl Try.sizeOf30 rfl rfl ?_
      refine g_v rfl r_assign ?_
      refine g_nil ?_
      refine d_then ?_
      refine c_ret ?_
      refine d_ret_then ?_
      refine d_ret_block ?_
      refine d_ret_then ?_
      replace hm := Option.some.inj hm
      subst hm
      refine d_retC (Ap0_0, cp0_0, Ap0_1, cp0_1) Try.results24 ?_ ⟨hcp0_0, hcp0_1⟩ (fun W h => ok_pre (H1 := [_, _, _, _, _, _]) (R1 := []) h (fun W hφ => ⟨hφ, (fun W h => fp0_0 W h) W hφ, (fun W h => fp0_1 W h) W hφ⟩)) (.inr rfl)
      refine res_agg (tag := 100040) rfl rfl Try.isAgg30 Try.sizeOf30 ?_
      refine res_tmp ?_
      refine res_nil ?_
      exact rfl
    ·
     replace hm := ite_t hm h150
     refine g_no rfl rfl rfl rfl rfl h150 ?_
     refine g_no rfl rfl rfl rfl rfl h150 ?_
     refine g_no rfl rfl rfl rfl rfl h150 ?_
     refine g_no rfl rfl rfl rfl rfl h150 ?_
     refine g_v rfl (r_pick1 rfl h150) ?_
     refine g_v rfl r_move ?_
     refine g_no rfl rfl rfl rfl rfl rfl ?_
     refine g_no rfl rfl rfl rfl rfl rfl ?_
     refine g_no rfl rfl rfl rfl rfl rfl ?_
     refine g_no rfl rfl rfl rfl rfl rfl ?_
     refine g_no rfl rfl rfl rfl rfl rfl ?_
     refine g_no rfl rfl rfl rfl rfl rfl ?_
     refine g_v rfl (r_pick1 rfl rfl) ?_
     refine g_nil ?_
     refine d_then ?_
     refine c_cond1 rfl rfl ?_
     refine c_seq ?_
     refine c_region ?_
     refine g_v rfl (r_loadA (tag := 100020) rfl rfl Try.isAgg30 Try.sizeOf30 rfl rfl) ?_
     refine g_storeL (tag := 100040) rfl rfl rfl rfl Try.sizeOf30 rfl rfl ?_
     refine g_v rfl r_assign ?_
     refine g_nil ?_
     refine d_then ?_
     refine c_flat [(4, .pointer (some ⟨g2, 0, none⟩)), (5, .bool false)] ⟨rfl, rfl, trivial⟩ (fun u => ?_)
     refine c_sta ⟨w0, M, (100060, g4, .cells #[.string x146] 9 (0, 0)) :: (100070, g5, .cells #[.bool x147] 4 (0, 0)) :: (100160, g144, .cells #[.int .i64 x139, .int .i64 0, .string (⟨#[]⟩ : ByteArray)] 46 (0, 0)) :: (100080, g6, .cells #[.func (.func 35) #[] #[.pointer (some ⟨g4, 0, none⟩), .pointer (some ⟨g5, 0, none⟩)]] 71 (0, 0)) :: (100040, g2, .cells #[.int .i64 p0.fTerm, .int .i64 p0.fVote, .slice Ap0_0 p0.fVoters.length cp0_0, .string p0.fSnap, .int .i64 p0.fLog.fBase, .int .i64 p0.fLog.fBaseTerm, .slice Ap0_1 p0.fLog.fEntries.length cp0_1] 30 (0, 0)) :: (100020, g1, .cells #[.int .i64 p0.fTerm, .int .i64 p0.fVote, .slice Ap0_0 p0.fVoters.length cp0_0, .string p0.fSnap, .int .i64 p0.fLog.fBase, .int .i64 p0.fLog.fBaseTerm, .slice Ap0_1 p0.fLog.fEntries.length cp0_1] 30 (0, 0)) :: H, R, φ⟩ (fun _ h => h) ?_
     refine c_ret ?_
     refine d_ret_then ?_
     refine d_ret_block ?_
     refine d_ret_then ?_
     replace hm := Option.some.inj hm
     subst hm
     refine d_retC (Ap0_0, cp0_0, Ap0_1, cp0_1) Try.results24 ?_ ⟨hcp0_0, hcp0_1⟩ (fun W h => ok_pre (H1 := [_, _, _, _, _, _]) (R1 := []) h (fun W hφ => ⟨hφ, (fun W h => fp0_0 W h) W hφ, (fun W h => fp0_1 W h) W hφ⟩)) (.inr rfl)
     refine res_agg (tag := 100040) rfl rfl Try.isAgg30 Try.sizeOf30 ?_
     refine res_tmp ?_
     refine res_nil ?_
     exact rfl
   ·
    replace hm := ite_f hm (of_decide_eq_false h133)
    refine c_skip ?_
    refine d_normal_block ?_
    refine d_then ?_
    refine c_seq ?_
    refine c_region ?_
    refine g_v rfl (r_loadA (tag := 100020) rfl rfl Try.isAgg30 Try.sizeOf30 rfl rfl) ?_
    refine g_storeL (tag := 100040) rfl rfl rfl rfl Try.sizeOf30 rfl rfl ?_
    refine g_v rfl r_assign ?_
    refine g_nil ?_
    refine d_then ?_
    refine c_ret ?_
    replace hm := Option.some.inj hm
    subst hm
    refine d_retC (Ap0_0, cp0_0, Ap0_1, cp0_1) Try.results24 ?_ ⟨hcp0_0, hcp0_1⟩ (fun W h => ok_pre (H1 := [_, _, _, _, _]) (R1 := []) h (fun W hφ => ⟨hφ, (fun W h => fp0_0 W h) W hφ, (fun W h => fp0_1 W h) W hφ⟩)) (.inr rfl)
    refine res_agg (tag := 100040) rfl rfl Try.isAgg30 Try.sizeOf30 ?_
    refine res_tmp ?_
    refine res_nil ?_
    exact rfl
end Go.Proofs.Ytildknbbpkbkeab
