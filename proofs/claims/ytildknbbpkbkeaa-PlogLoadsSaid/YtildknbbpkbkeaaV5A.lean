import Derived.Test.YtildknbbpkbkeaaQL
import Derived.Test.YtildknbbpkbkeaaSY
set_option maxRecDepth 16384
set_option maxHeartbeats 4000000
set_option linter.unusedVariables false
set_option linter.unusedSimpArgs false
namespace Go.Proofs.Ytildknbbpkbkeaa
open Go.RowKit Go.Proofs.YtildknbbpkbkeaaW.PrintLast
structure GEntry where
  fTerm : Int
  fKind : Int
  fData : ByteArray
  deriving DecidableEq
def GEntry.enc (e : GEntry) : List Value := [.int .i64 e.fTerm, .int .i64 e.fKind, .string e.fData]
structure GLog where
  fBase : Int
  fBaseTerm : Int
  fEntries : List GEntry
structure GHard where
  fTerm : Int
  fVote : Int
  fVoters : List Int
  fSnap : ByteArray
  fLog : GLog
noncomputable def m_plog_read_c1 (p0 : Int) (o0 : ByteArray) (o1 : Bool) : Option (ByteArray × ByteArray × Bool) :=
  if p0 < 0 then
    some ((⟨#[]⟩ : ByteArray), o0, true)
  else
    if (o0.size : Int) < p0 then
      some ((⟨#[]⟩ : ByteArray), o0, true)
    else
      (scutHi o0 p0).bind fun s3 =>
      (scutLo o0 p0).bind fun s4 =>
      some (s3, s4, o1)
theorem c_plog_read_c1 {w0 : World} {M : Nat → Prop} {H : List (Nat × Nat × Obj)} {R : List (Nat × Row)} {φ : World → Prop} (p0 : Int) (go0 : Nat) (o0 : ByteArray) (go1 : Nat) (o1 : Bool) (r : ByteArray × ByteArray × Bool) (hm : m_plog_read_c1 p0 o0 o1 = some r) :
    Cn Try.prog 102 #[.int .i64 p0, .pointer (some ⟨go0, 0, none⟩), .pointer (some ⟨go1, 0, none⟩)] ⟨w0, M, (1000, go0, .cells #[.string o0] 9 (0, 0)) :: (1001, go1, .cells #[.bool o1] 4 (0, 0)) :: H, R, φ⟩ (fun x : Unit => .string r.1) (fun x => True) (fun x => ⟨w0, M, (1000, go0, .cells #[.string r.2.1] 9 (0, 0)) :: (1001, go1, .cells #[.bool r.2.2] 4 (0, 0)) :: H, R, φ⟩) := by
 unfold m_plog_read_c1 at hm
 refine cn_intro (fn := Try.f102) (N := 21) Try.func102 rfl Try.ntmps102 rfl ?_
 refine c_seq ?_
 refine c_region ?_
 refine g_v rfl r_assign ?_
 refine g_nil ?_
 refine d_then ?_
 refine c_seq ?_
 refine c_seq ?_
 refine c_region ?_
 refine g_v rfl r_move ?_
 refine g_v rfl (r_lss rfl rfl) ?_
 refine g_v rfl r_move ?_
 refine g_if rfl rfl rfl rfl rfl (fun h1 => ?_) (fun h1 => ?_)
 ·
  replace hm := ite_f hm (of_decide_eq_false h1)
  refine g_v rfl (r_load (tag := 1000) rfl rfl rfl Try.isAgg9) ?_
  refine g_do rfl rfl rfl rfl rfl h1 ?_
  refine g_v rfl (r_len Try.underlying9 rfl) ?_
  refine g_do rfl rfl rfl rfl rfl h1 ?_
  refine g_v rfl r_move ?_
  refine g_do rfl rfl rfl rfl rfl h1 ?_
  refine g_v rfl (r_lss rfl rfl) ?_
  refine g_v rfl (r_pick0 rfl h1) ?_
  refine g_nil ?_
  refine d_then ?_
  refine c_flat [(0, .int .i64 p0), (1, .pointer (some ⟨go0, 0, none⟩)), (2, .pointer (some ⟨go1, 0, none⟩)), (13, .bool (decide ((o0.size : Int) < p0)))] ⟨rfl, rfl, rfl, rfl, trivial⟩ (fun u => ?_)
  refine c_sta ⟨w0, M, (1000, go0, .cells #[.string o0] 9 (0, 0)) :: (1001, go1, .cells #[.bool o1] 4 (0, 0)) :: H, R, φ⟩ (fun _ h => h) ?_
  refine c_cond rfl (fun h2 => ?_) (fun h2 => ?_)
  ·
   replace hm := ite_t hm (of_decide_eq_true h2)
   refine c_seq ?_
   refine c_region ?_
   refine g_storeL (tag := 1001) rfl rfl rfl rfl Try.sizeOf4 rfl rfl ?_
   refine g_nil ?_
   refine d_then ?_
   refine c_seq ?_
   refine c_region ?_
   refine g_v rfl r_assign ?_
   refine g_nil ?_
   refine d_then ?_
   refine c_ret ?_
   refine d_ret_then ?_
   replace hm := Option.some.inj hm
   subst hm
   refine d_retC () Try.results102 ?_ trivial (fun W h => h.phi (fun W hφ => hφ)) (.inr rfl)
   refine res_tmp ?_
   refine res_nil ?_
   exact rfl
  ·
   replace hm := ite_f hm (of_decide_eq_false h2)
   refine c_skip ?_
   refine d_then ?_
   refine c_seq ?_
   refine c_region ?_
   refine g_v rfl (r_load (tag := 1000) rfl rfl rfl Try.isAgg9) ?_
   refine g_v rfl r_move ?_
   replace hm := bnd hm
   obtain ⟨s3, hs3, hm⟩ := hm
   refine g_v rfl (r_scutHi Try.underlying9 rfl rfl hs3) ?_
   refine g_v rfl r_assign ?_
   refine g_nil ?_
   refine d_then ?_
   refine c_seq ?_
   refine c_region ?_
   refine g_v rfl (r_load (tag := 1000) rfl rfl rfl Try.isAgg9) ?_
   refine g_v rfl r_move ?_
   replace hm := bnd hm
   obtain ⟨s4, hs4, hm⟩ := hm
   refine g_v rfl (r_scutLo Try.underlying9 rfl rfl hs4) ?_
   refine g_storeL (tag := 1000) rfl rfl rfl rfl Try.sizeOf9 rfl rfl ?_
   refine g_nil ?_
   refine d_then ?_
   refine c_seq ?_
   refine c_region ?_
   refine g_v rfl r_move ?_
   refine g_v rfl r_assign ?_
   refine g_nil ?_
   refine d_then ?_
   refine c_flat [(4, .string s3)] ⟨rfl, trivial⟩ (fun u => ?_)
   refine c_sta ⟨w0, M, (1000, go0, .cells #[.string s4] 9 (0, 0)) :: (1001, go1, .cells #[.bool o1] 4 (0, 0)) :: H, R, φ⟩ (fun _ h => h) ?_
   refine c_ret ?_
   replace hm := Option.some.inj hm
   subst hm
   refine d_retC () Try.results102 ?_ trivial (fun W h => h.phi (fun W hφ => hφ)) (.inr rfl)
   refine res_tmp ?_
   refine res_nil ?_
   exact rfl
 ·
  replace hm := ite_t hm (of_decide_eq_true h1)
  refine g_no rfl rfl rfl rfl rfl h1 ?_
  refine g_no rfl rfl rfl rfl rfl h1 ?_
  refine g_no rfl rfl rfl rfl rfl h1 ?_
  refine g_v rfl (r_pick1 rfl h1) ?_
  refine g_nil ?_
  refine d_then ?_
  refine c_cond1 rfl rfl ?_
  refine c_seq ?_
  refine c_region ?_
  refine g_storeL (tag := 1001) rfl rfl rfl rfl Try.sizeOf4 rfl rfl ?_
  refine g_nil ?_
  refine d_then ?_
  refine c_seq ?_
  refine c_region ?_
  refine g_v rfl r_assign ?_
  refine g_nil ?_
  refine d_then ?_
  refine c_ret ?_
  refine d_ret_then ?_
  replace hm := Option.some.inj hm
  subst hm
  refine d_retC () Try.results102 ?_ trivial (fun W h => h.phi (fun W hφ => hφ)) (.inr rfl)
  refine res_tmp ?_
  refine res_nil ?_
  exact rfl

noncomputable def m_plog_read_c2_j1 (x2 : ByteArray) (x3 : Bool) (i27 : Int) : Option (Int × Bool × ByteArray) :=
  if 2199023255552 ≤ i27 then
    some (0, true, x2)
  else
    some (w64 i27, x3, x2)
noncomputable def m_plog_read_c2_s2 (x1 : ByteArray) (i36 : Int) (i37 : Int) : Option ((Int × Int) ⊕ Int) :=
  if i37 < ((bytesI x1).length : Int) then
    (at_ (bytesI x1) i37).bind fun x47 =>
    some (.inl (orI .u64 (IntKind.u64.wrap (i36 * 256)) (IntKind.u64.wrap x47), w64 (i37 + 1)))
  else
    some (.inr i36)
noncomputable def m_plog_read_c2 (o1 : Bool) (o2 : ByteArray) : Option (Int × Bool × ByteArray) :=
  (m_plog_read_c1 8 o2 o1).bind fun (z5 : ByteArray × ByteArray × Bool) =>
  (loop (fun s => m_plog_read_c2_s2 z5.1 s.1 s.2) (0, 0)).bind fun e => m_plog_read_c2_j1 z5.2.1 z5.2.2 e
theorem c_plog_read_c2 {w0 : World} {M : Nat → Prop} {H : List (Nat × Nat × Obj)} {R : List (Nat × Row)} {φ : World → Prop} (go0 : Nat) (go1 : Nat) (o1 : Bool) (go2 : Nat) (o2 : ByteArray) (r : Int × Bool × ByteArray) (hm : m_plog_read_c2 o1 o2 = some r) :
    Cn Try.prog 103 #[.pointer (some ⟨go0, 0, none⟩), .pointer (some ⟨go1, 0, none⟩)] ⟨w0, M, (1000, go0, .cells #[.func (.func 102) #[] #[.pointer (some ⟨go2, 0, none⟩), .pointer (some ⟨go1, 0, none⟩)]] 120 (0, 0)) :: (1001, go1, .cells #[.bool o1] 4 (0, 0)) :: (1002, go2, .cells #[.string o2] 9 (0, 0)) :: H, R, φ⟩ (fun x : Unit => .int .i64 r.1) (fun x => True) (fun x => ⟨w0, M, (1000, go0, .cells #[.func (.func 102) #[] #[.pointer (some ⟨go2, 0, none⟩), .pointer (some ⟨go1, 0, none⟩)]] 120 (0, 0)) :: (1001, go1, .cells #[.bool r.2.1] 4 (0, 0)) :: (1002, go2, .cells #[.string r.2.2] 9 (0, 0)) :: H, R, φ⟩) := by
 unfold m_plog_read_c2 at hm
 refine cn_intro (fn := Try.f103) (N := 24) Try.func103 rfl Try.ntmps103 rfl ?_
 refine c_seq ?_
 refine c_region ?_
 refine g_v rfl r_assign ?_
 refine g_nil ?_
 refine d_then ?_
 refine c_seq ?_
 refine c_region ?_
 refine g_v rfl r_assign ?_
 refine g_nil ?_
 refine d_then ?_
 refine c_seq ?_
 refine c_seq ?_
 refine c_region ?_
 refine g_v rfl (r_load (tag := 1000) rfl rfl rfl Try.isAgg120) ?_
 replace hm := bnd hm
 obtain ⟨⟨x1, x2, x3⟩, hx4, hm⟩ := hm
 refine g_cnv ⟨w0, M, (1000, go2, .cells #[.string o2] 9 (0, 0)) :: (1001, go1, .cells #[.bool o1] 4 (0, 0)) :: (1000, go0, .cells #[.func (.func 102) #[] #[.pointer (some ⟨go2, 0, none⟩), .pointer (some ⟨go1, 0, none⟩)]] 120 (0, 0)) :: H, R, φ⟩ (fun W h => (ok_front (t := 1002) (t' := 1000) (ok_front (t := 1001) (t' := 1001) h rfl) rfl)) Try.call102 rfl rfl rfl (c_plog_read_c1 8 go2 o2 go1 o1 _ hx4) (fun _ _ => ?_)
 refine g_sta _ (fun W h => (ok_front (t := 1000) (t' := 1002) (ok_front (t := 1001) (t' := 1001) h rfl) rfl)) ?_
 refine g_bytes rfl Try.underlying9 Try.underlying95 Try.underlying5 rfl (fun A6 c7 hc7 φ8 q8' => ?_)
 have q8 : ∀ W, φ8 W → φ W := fun W h => (q8' W h).1
 have f9 := fun (W : World) (h : φ8 W) => (q8' W h).2
 refine g_v rfl (r_lenL Try.underlying95 rfl) ?_
 refine g_v rfl r_move ?_
 refine g_nil ?_
 refine d_then ?_
 refine c_cut (ι := Int) [1, 3] (fun i27 => [(3, .int .u64 i27)]) (fun i27 => ⟨w0, M, (1002, go2, .cells #[.string x2] 9 (0, 0)) :: (1001, go1, .cells #[.bool x3] 4 (0, 0)) :: (1000, go0, .cells #[.func (.func 102) #[] #[.pointer (some ⟨go2, 0, none⟩), .pointer (some ⟨go1, 0, none⟩)]] 120 (0, 0)) :: H, R, φ8⟩) (fun i27 => m_plog_read_c2_j1 x2 x3 i27 = some r) ?_ (fun i27 u hm => ?_)
 ·
  refine c_block ?_
  replace hm := bnd hm
  obtain ⟨out2, hl2, hr2⟩ := hm
  obtain ⟨n45', hl2⟩ := loop_lp hl2
  refine c_loopU (ι := Nat × Int × Int) [1, 3, 8, 9, 10] (fun ⟨n45, i36, i37⟩ => [(3, .int .u64 i36), (10, .int .i64 i37)]) (fun ⟨n45, i36, i37⟩ => ⟨w0, M, (1002, go2, .cells #[.string x2] 9 (0, 0)) :: (1001, go1, .cells #[.bool x3] 4 (0, 0)) :: (1000, go0, .cells #[.func (.func 102) #[] #[.pointer (some ⟨go2, 0, none⟩), .pointer (some ⟨go1, 0, none⟩)]] 120 (0, 0)) :: H, R, φ8⟩) (fun ⟨n45, i36, i37⟩ => Lp (fun s => m_plog_read_c2_s2 x1 s.1 s.2) n45 (i36, i37) out2) (fun ⟨n45, i36, i37⟩ => n45) (n45', 0, 0) hl2 ⟨rfl, rfl, rfl, rfl, rfl, trivial⟩ (fun W h => h.phi (fun W hφ => hφ)) (fun ⟨n45, i36, i37⟩ u hlp => ?_)
  obtain ⟨o2, hm, hnx2⟩ := lp_step hlp
  clear hlp
  replace hm : m_plog_read_c2_s2 x1 i36 i37 = some o2 := hm
  unfold m_plog_read_c2_s2 at hm
  refine c_flat [(1, .pointer (some ⟨go1, 0, none⟩)), (3, .int .u64 i36), (8, .slice A6 (bytesI x1).length c7), (9, .int .i64 ((bytesI x1).length : Int)), (10, .int .i64 i37)] ⟨rfl, rfl, rfl, rfl, rfl, trivial⟩ (fun u => ?_)
  refine c_sta ⟨w0, M, (1002, go2, .cells #[.string x2] 9 (0, 0)) :: (1001, go1, .cells #[.bool x3] 4 (0, 0)) :: (1000, go0, .cells #[.func (.func 102) #[] #[.pointer (some ⟨go2, 0, none⟩), .pointer (some ⟨go1, 0, none⟩)]] 120 (0, 0)) :: H, R, φ8⟩ (fun _ h => h) ?_
  refine c_seq ?_
  refine c_region ?_
  refine g_v rfl (r_lss rfl rfl) ?_
  refine g_nil ?_
  refine d_then ?_
  refine c_seq ?_
  refine c_cond rfl (fun h46 => ?_) (fun h46 => ?_)
  ·
   replace hm := ite_t hm (of_decide_eq_true h46)
   refine c_skip ?_
   refine d_then ?_
   refine c_seq ?_
   refine c_block ?_
   refine c_seq ?_
   refine c_region ?_
   replace hm := bnd hm
   obtain ⟨x47, hx47, hm⟩ := hm
   refine g_know _ (fun W hS => cl_at (p := φ8) (sz := 1) (fun _ => rfl) (by decide) hS.now f9 hx47) ?_
   rintro ⟨ad48, hA50, f49⟩
   refine g_v rfl (r_ix Try.underlying95 Try.sizeOf5 rfl hA50 rfl hx47) ?_
   refine g_v rfl (r_ld rfl Try.isAgg5 (fun W hS => Cl.head (f49 W hS.now))) ?_
   refine g_v rfl r_assign ?_
   refine g_nil ?_
   refine d_then ?_
   refine c_region ?_
   refine g_v rfl r_move ?_
   refine g_v rfl (r_shl (n := 256) rfl rfl (by decide) (by decide) (by decide)) ?_
   refine g_v rfl r_move ?_
   refine g_v rfl (r_conv Try.underlying5 Try.underlying143 rfl rfl) ?_
   refine g_v rfl (r_bits_or rfl rfl) ?_
   refine g_v rfl r_assign ?_
   refine g_nil ?_
   refine d_normal_block ?_
   refine d_then ?_
   refine c_flat [(1, .pointer (some ⟨go1, 0, none⟩)), (3, .int .u64 (orI .u64 (IntKind.u64.wrap (i36 * 256)) (IntKind.u64.wrap x47))), (8, .slice A6 (bytesI x1).length c7), (9, .int .i64 ((bytesI x1).length : Int)), (10, .int .i64 i37)] ⟨rfl, rfl, rfl, rfl, rfl, trivial⟩ (fun u => ?_)
   refine c_sta ⟨w0, M, (1002, go2, .cells #[.string x2] 9 (0, 0)) :: (1001, go1, .cells #[.bool x3] 4 (0, 0)) :: (1000, go0, .cells #[.func (.func 102) #[] #[.pointer (some ⟨go2, 0, none⟩), .pointer (some ⟨go1, 0, none⟩)]] 120 (0, 0)) :: H, R, φ8⟩ (fun _ h => h) ?_
   refine c_region ?_
   refine g_v rfl (r_add rfl rfl rfl) ?_
   refine g_v rfl r_move ?_
   refine g_nil ?_
   obtain ⟨n51, hn51, hlp⟩ := nx_inl hm hnx2
   exact d_round (n51, orI .u64 (IntKind.u64.wrap (i36 * 256)) (IntKind.u64.wrap x47), w64 (i37 + 1)) hlp hn51 ⟨rfl, rfl, rfl, rfl, rfl, trivial⟩ (fun W h => h.phi (fun W hφ => hφ))
  ·
   replace hm := ite_f hm (of_decide_eq_false h46)
   refine c_exit ?_
   refine d_exit_then ?_
   refine d_exit_then ?_
   refine d_exit_block ?_
   replace hm := nx_out (C := (fun e => m_plog_read_c2_j1 x2 x3 e = some r)) hm hnx2 hr2
   exact d_round i36 hm Nat.zero_lt_one ⟨rfl, rfl, trivial⟩ (fun W h => h.phi (fun W hφ => hφ))
 ·
  unfold m_plog_read_c2_j1 at hm
  refine d_flat [(1, .pointer (some ⟨go1, 0, none⟩)), (3, .int .u64 i27)] ⟨rfl, rfl, trivial⟩ (fun u => ?_)
  refine d_sta ⟨w0, M, (1002, go2, .cells #[.string x2] 9 (0, 0)) :: (1001, go1, .cells #[.bool x3] 4 (0, 0)) :: (1000, go0, .cells #[.func (.func 102) #[] #[.pointer (some ⟨go2, 0, none⟩), .pointer (some ⟨go1, 0, none⟩)]] 120 (0, 0)) :: H, R, φ8⟩ (fun _ h => h) ?_
  refine d_then ?_
  refine c_seq ?_
  refine c_seq ?_
  refine c_region ?_
  refine g_v rfl r_move ?_
  refine g_v rfl (r_geq rfl rfl) ?_
  refine g_nil ?_
  refine d_then ?_
  refine c_cond rfl (fun h28 => ?_) (fun h28 => ?_)
  ·
   replace hm := ite_t hm (of_decide_eq_true h28)
   refine c_seq ?_
   refine c_region ?_
   refine g_storeL (tag := 1001) rfl rfl rfl rfl Try.sizeOf4 rfl rfl ?_
   refine g_nil ?_
   refine d_then ?_
   refine c_seq ?_
   refine c_region ?_
   refine g_v rfl r_assign ?_
   refine g_nil ?_
   refine d_then ?_
   refine c_ret ?_
   refine d_ret_then ?_
   replace hm := Option.some.inj hm
   subst hm
   refine d_retC () Try.results103 ?_ trivial (fun W h => (ok_front (t := 1000) (t' := 1000) (ok_front (t := 1001) (t' := 1001) (ok_front (t := 1002) (t' := 1002) h rfl) rfl) rfl).phi (fun W hφ => (q8 _ hφ))) (.inr rfl)
   refine res_tmp ?_
   refine res_nil ?_
   exact rfl
  ·
   replace hm := ite_f hm (of_decide_eq_false h28)
   refine c_skip ?_
   refine d_then ?_
   refine c_seq ?_
   refine c_region ?_
   refine g_v rfl r_move ?_
   refine g_v rfl (r_conv Try.underlying143 Try.underlying3 rfl rfl) ?_
   refine g_v rfl r_assign ?_
   refine g_nil ?_
   refine d_then ?_
   refine c_ret ?_
   replace hm := Option.some.inj hm
   subst hm
   refine d_retC () Try.results103 ?_ trivial (fun W h => (ok_front (t := 1000) (t' := 1000) (ok_front (t := 1001) (t' := 1001) (ok_front (t := 1002) (t' := 1002) h rfl) rfl) rfl).phi (fun W hφ => (q8 _ hφ))) (.inr rfl)
   refine res_tmp ?_
   refine res_nil ?_
   exact rfl

theorem bld26_0 (z0 : Int) (z1 : Int) : ∀ W, (Instr.build 26 #[(0, .int .i64 z0), (1, .int .i64 z1)]).run Try.prog W = .ok (.agg #[.int .i64 z0, .int .i64 z1, .slice none 0 0]) W := fun _ => by kernel_rfl
theorem bld44_1 (z0 : Int) (z1 : Int) (z2 : Int) (z3 : Int) (zA4 : Option Addr) (zn4 : Nat) (zc4 : Nat) : ∀ W, (Instr.build 44 #[(0, .int .i64 z0), (1, .int .i64 z1), (4, .agg #[.int .i64 z2, .int .i64 z3, .slice zA4 zn4 zc4])]).run Try.prog W = .ok (.agg #[.int .i64 z0, .int .i64 z1, .slice none 0 0, .string (⟨#[]⟩ : ByteArray), .int .i64 z2, .int .i64 z3, .slice zA4 zn4 zc4]) W := fun _ => by kernel_rfl
theorem lit3_2 (z0 : Int) : Try.prog.builtSlice 3 1 [(0, .int .i64 z0)] = some #[.int .i64 z0] := by kernel_rfl
theorem inf3_3  : (Try.prog.info? 3).map (fun i => (i.zero, i.size, i.bytes)) = some (some (.int .i64 0), 1, 8) := by kernel_rfl
noncomputable def m_plog_rising_j1 (p0 : List Int) : Option Bool :=
  some (decide (0 < (p0.length : Int)))
noncomputable def m_plog_rising_s2 (p0 : List Int) (i33 : Int) : Option (Int ⊕ (Unit ⊕ Bool)) :=
  if i33 < (p0.length : Int) then
    (at_ p0 i33).bind fun x50 =>
    if x50 < 0 then
      some (.inr (.inr false))
    else
      if 64 ≤ x50 then
        some (.inr (.inr false))
      else
        if 0 < i33 then
          (at_ p0 (w64 (i33 - 1))).bind fun x57 =>
          if x50 ≤ x57 then
            some (.inr (.inr false))
          else
            some (.inl (w64 (i33 + 1)))
        else
          some (.inl (w64 (i33 + 1)))
  else
    some (.inr (.inl ()))
noncomputable def m_plog_rising (p0 : List Int) : Option Bool :=
  (loop (fun s => m_plog_rising_s2 p0 s) 0).bind fun e => Sum.elim (fun e => m_plog_rising_j1 p0) (fun x => some x) e
theorem c_plog_rising {w0 : World} {M : Nat → Prop} {H : List (Nat × Nat × Obj)} {R : List (Nat × Row)} {φ : World → Prop} (p0 : List Int) (Ap0_0 : Option Addr) (cp0_0 : Nat) (hcp0_0 : p0.length ≤ cp0_0) (fp0_0 : ∀ W, (Sta.mk w0 M H R φ).ok W → Cl W Ap0_0 (p0.flatMap (fun x : Int => [Value.int .i64 x]))) (r : Bool) (hm : m_plog_rising p0 = some r) :
    Cn Try.prog 74 #[.slice Ap0_0 p0.length cp0_0] ⟨w0, M, H, R, φ⟩ (fun x : Unit => .bool r) (fun x => True) (fun x => ⟨w0, M, H, R, φ⟩) := by
 unfold m_plog_rising at hm
 refine cn_intro (fn := Try.f74) (N := 35) Try.func74 rfl Try.ntmps74 rfl ?_
 refine c_seq ?_
 refine c_region ?_
 refine g_v rfl r_assign ?_
 refine g_nil ?_
 refine d_then ?_
 refine c_seq ?_
 refine c_seq ?_
 refine c_region ?_
 refine g_v rfl r_move ?_
 refine g_v rfl (r_lenL Try.underlying42 rfl) ?_
 refine g_v rfl r_move ?_
 refine g_nil ?_
 refine d_then ?_
 refine c_cut (ι := Unit) [0] (fun _ => []) (fun _ => ⟨w0, M, H, R, φ⟩) (fun _ => m_plog_rising_j1 p0 = some r) ?_ (fun _ u hm => ?_)
 ·
  refine c_block ?_
  replace hm := bnd hm
  obtain ⟨out2, hl2, hr2⟩ := hm
  obtain ⟨n48', hl2⟩ := loop_lp hl2
  refine c_loopU (ι := Nat × Int) [0, 5, 6, 7] (fun ⟨n48, i33⟩ => [(7, .int .i64 i33)]) (fun ⟨n48, i33⟩ => ⟨w0, M, H, R, φ⟩) (fun ⟨n48, i33⟩ => Lp (fun s => m_plog_rising_s2 p0 s) n48 i33 out2) (fun ⟨n48, i33⟩ => n48) (n48', 0) hl2 ⟨rfl, rfl, rfl, rfl, trivial⟩ (fun W h => h.phi (fun W hφ => hφ)) (fun ⟨n48, i33⟩ u hlp => ?_)
  obtain ⟨o2, hm, hnx2⟩ := lp_step hlp
  clear hlp
  replace hm : m_plog_rising_s2 p0 i33 = some o2 := hm
  unfold m_plog_rising_s2 at hm
  refine c_flat [(0, .slice Ap0_0 p0.length cp0_0), (5, .slice Ap0_0 p0.length cp0_0), (6, .int .i64 (p0.length : Int)), (7, .int .i64 i33)] ⟨rfl, rfl, rfl, rfl, trivial⟩ (fun u => ?_)
  refine c_sta ⟨w0, M, H, R, φ⟩ (fun _ h => h) ?_
  refine c_seq ?_
  refine c_region ?_
  refine g_v rfl (r_lss rfl rfl) ?_
  refine g_nil ?_
  refine d_then ?_
  refine c_seq ?_
  refine c_cond rfl (fun h49 => ?_) (fun h49 => ?_)
  ·
   replace hm := ite_t hm (of_decide_eq_true h49)
   refine c_skip ?_
   refine d_then ?_
   refine c_seq ?_
   refine c_block ?_
   refine c_seq ?_
   refine c_region ?_
   refine g_v rfl r_move ?_
   replace hm := bnd hm
   obtain ⟨x50, hx50, hm⟩ := hm
   refine g_know _ (fun W hS => cl_at (p := (Sta.mk w0 M H R φ).ok) (sz := 1) (fun _ => rfl) (by decide) (ok_pre (H1 := []) (R1 := []) hS (fun W h => h)) fp0_0 hx50) ?_
   rintro ⟨ad51, hA53, f52⟩
   refine g_v rfl (r_ix Try.underlying42 Try.sizeOf3 rfl hA53 rfl hx50) ?_
   refine g_v rfl (r_ld rfl Try.isAgg3 (fun W hS => Cl.head (f52 W (ok_pre (H1 := []) (R1 := []) hS (fun W h => h))))) ?_
   refine g_v rfl r_assign ?_
   refine g_v rfl r_assign ?_
   refine g_nil ?_
   refine d_then ?_
   refine c_seq ?_
   refine c_region ?_
   refine g_v rfl r_move ?_
   refine g_v rfl (r_lss rfl rfl) ?_
   refine g_v rfl r_move ?_
   refine g_if rfl rfl rfl rfl rfl (fun h54 => ?_) (fun h54 => ?_)
   ·
    replace hm := ite_f hm (of_decide_eq_false h54)
    refine g_v rfl r_move ?_
    refine g_do rfl rfl rfl rfl rfl h54 ?_
    refine g_v rfl (r_geq rfl rfl) ?_
    refine g_v rfl (r_pick0 rfl h54) ?_
    refine g_v rfl r_move ?_
    refine g_if rfl rfl rfl rfl rfl (fun h55 => ?_) (fun h55 => ?_)
    ·
     replace hm := ite_f hm (of_decide_eq_false h55)
     refine g_v rfl r_move ?_
     refine g_do rfl rfl rfl rfl rfl h55 ?_
     refine g_v rfl (r_gtr rfl rfl) ?_
     refine g_do rfl rfl rfl rfl rfl h55 ?_
     refine g_v rfl r_move ?_
     refine g_if rfl rfl rfl rfl rfl (fun h56 => ?_) (fun h56 => ?_)
     ·
      replace hm := ite_t hm (of_decide_eq_true h56)
      refine g_v rfl r_move ?_
      refine g_do rfl rfl rfl rfl rfl h56 ?_
      refine g_v rfl r_move ?_
      refine g_do rfl rfl rfl rfl rfl h56 ?_
      refine g_v rfl r_move ?_
      refine g_do rfl rfl rfl rfl rfl h56 ?_
      refine g_v rfl (r_sub rfl rfl rfl) ?_
      refine g_do rfl rfl rfl rfl rfl h56 ?_
      replace hm := bnd hm
      obtain ⟨x57, hx57, hm⟩ := hm
      refine g_know _ (fun W hS => cl_at (p := (Sta.mk w0 M H R φ).ok) (sz := 1) (fun _ => rfl) (by decide) (ok_pre (H1 := []) (R1 := []) hS (fun W h => h)) fp0_0 hx57) ?_
      rintro ⟨ad58, hA60, f59⟩
      refine g_v rfl (r_ix Try.underlying42 Try.sizeOf3 rfl hA60 rfl hx57) ?_
      refine g_do rfl rfl rfl rfl rfl h56 ?_
      refine g_v rfl (r_ld rfl Try.isAgg3 (fun W hS => Cl.head (f59 W (ok_pre (H1 := []) (R1 := []) hS (fun W h => h))))) ?_
      refine g_do rfl rfl rfl rfl rfl h56 ?_
      refine g_v rfl (r_leq rfl rfl) ?_
      refine g_do rfl rfl rfl rfl rfl h55 ?_
      refine g_v rfl (r_pick1 rfl h56) ?_
      refine g_v rfl (r_pick0 rfl h55) ?_
      refine g_nil ?_
      refine d_then ?_
      refine c_flat [(0, .slice Ap0_0 p0.length cp0_0), (5, .slice Ap0_0 p0.length cp0_0), (6, .int .i64 (p0.length : Int)), (7, .int .i64 i33), (30, .bool (decide (x50 ≤ x57)))] ⟨rfl, rfl, rfl, rfl, rfl, trivial⟩ (fun u => ?_)
      refine c_sta ⟨w0, M, H, R, φ⟩ (fun _ h => h) ?_
      refine c_cond rfl (fun h61 => ?_) (fun h61 => ?_)
      ·
       replace hm := ite_t hm (of_decide_eq_true h61)
       refine c_seq ?_
       refine c_region ?_
       refine g_v rfl r_assign ?_
       refine g_nil ?_
       refine d_then ?_
       refine c_ret ?_
       refine d_ret_block ?_
       refine d_ret_then ?_
       refine d_ret_then ?_
       refine d_ret_block ?_
       refine d_ret_then ?_
       refine d_ret_then ?_
       replace hm := nx_out (C := (fun e => Sum.elim (fun e => m_plog_rising_j1 p0) (fun x => some x) e = some r)) hm hnx2 hr2
       replace hm : some false = some r := hm
       replace hm := Option.some.inj hm
       subst hm
       refine d_retC () Try.results74 ?_ trivial (fun W h => ok_pre (H1 := []) (R1 := []) h (fun W hφ => hφ)) (.inr rfl)
       refine res_tmp ?_
       refine res_nil ?_
       exact rfl
      ·
       replace hm := ite_f hm (of_decide_eq_false h61)
       refine c_skip ?_
       refine d_normal_block ?_
       refine d_then ?_
       refine c_region ?_
       refine g_v rfl (r_add rfl rfl rfl) ?_
       refine g_v rfl r_move ?_
       refine g_nil ?_
       obtain ⟨n62, hn62, hlp⟩ := nx_inl hm hnx2
       exact d_round (n62, w64 (i33 + 1)) hlp hn62 ⟨rfl, rfl, rfl, rfl, trivial⟩ (fun W h => h.phi (fun W hφ => hφ))
     ·
      replace hm := ite_f hm (of_decide_eq_false h56)
      refine g_no rfl rfl rfl rfl rfl h56 ?_
      refine g_no rfl rfl rfl rfl rfl h56 ?_
      refine g_no rfl rfl rfl rfl rfl h56 ?_
      refine g_no rfl rfl rfl rfl rfl h56 ?_
      refine g_no rfl rfl rfl rfl rfl h56 ?_
      refine g_no rfl rfl rfl rfl rfl h56 ?_
      refine g_do rfl rfl rfl rfl rfl h55 ?_
      refine g_v rfl (r_pick0 rfl h56) ?_
      refine g_v rfl (r_pick0 rfl h55) ?_
      refine g_nil ?_
      refine d_then ?_
      refine c_flat [(0, .slice Ap0_0 p0.length cp0_0), (5, .slice Ap0_0 p0.length cp0_0), (6, .int .i64 (p0.length : Int)), (7, .int .i64 i33), (30, .bool false)] ⟨rfl, rfl, rfl, rfl, rfl, trivial⟩ (fun u => ?_)
      refine c_sta ⟨w0, M, H, R, φ⟩ (fun _ h => h) ?_
      refine c_cond0 rfl rfl ?_
      refine c_skip ?_
      refine d_normal_block ?_
      refine d_then ?_
      refine c_region ?_
      refine g_v rfl (r_add rfl rfl rfl) ?_
      refine g_v rfl r_move ?_
      refine g_nil ?_
      obtain ⟨n63, hn63, hlp⟩ := nx_inl hm hnx2
      exact d_round (n63, w64 (i33 + 1)) hlp hn63 ⟨rfl, rfl, rfl, rfl, trivial⟩ (fun W h => h.phi (fun W hφ => hφ))
    ·
     replace hm := ite_t hm (of_decide_eq_true h55)
     refine g_no rfl rfl rfl rfl rfl h55 ?_
     refine g_no rfl rfl rfl rfl rfl h55 ?_
     refine g_nu rfl rfl rfl rfl rfl ?_
     refine g_nu rfl rfl rfl rfl rfl ?_
     refine g_nu rfl rfl rfl rfl rfl ?_
     refine g_nu rfl rfl rfl rfl rfl ?_
     refine g_nu rfl rfl rfl rfl rfl ?_
     refine g_nu rfl rfl rfl rfl rfl ?_
     refine g_nu rfl rfl rfl rfl rfl ?_
     refine g_no rfl rfl rfl rfl rfl h55 ?_
     refine g_v rfl (r_pick1 rfl h55) ?_
     refine g_nil ?_
     refine d_then ?_
     refine c_flat [(0, .slice Ap0_0 p0.length cp0_0), (5, .slice Ap0_0 p0.length cp0_0), (6, .int .i64 (p0.length : Int)), (7, .int .i64 i33), (30, .bool true)] ⟨rfl, rfl, rfl, rfl, rfl, trivial⟩ (fun u => ?_)
     refine c_sta ⟨w0, M, H, R, φ⟩ (fun _ h => h) ?_
     refine c_cond1 rfl rfl ?_
     refine c_seq ?_
     refine c_region ?_
     refine g_v rfl r_assign ?_
     refine g_nil ?_
     refine d_then ?_
     refine c_ret ?_
     refine d_ret_block ?_
     refine d_ret_then ?_
     refine d_ret_then ?_
     refine d_ret_block ?_
     refine d_ret_then ?_
     refine d_ret_then ?_
     replace hm := nx_out (C := (fun e => Sum.elim (fun e => m_plog_rising_j1 p0) (fun x => some x) e = some r)) hm hnx2 hr2
     replace hm : some false = some r := hm
     replace hm := Option.some.inj hm
     subst hm
     refine d_retC () Try.results74 ?_ trivial (fun W h => ok_pre (H1 := []) (R1 := []) h (fun W hφ => hφ)) (.inr rfl)
     refine res_tmp ?_
     refine res_nil ?_
     exact rfl
   ·
    replace hm := ite_t hm (of_decide_eq_true h54)
    refine g_no rfl rfl rfl rfl rfl h54 ?_
    refine g_v rfl (r_pick1 rfl h54) ?_
    refine g_v rfl r_move ?_
    refine g_no rfl rfl rfl rfl rfl rfl ?_
    refine g_no rfl rfl rfl rfl rfl rfl ?_
    refine g_no rfl rfl rfl rfl rfl rfl ?_
    refine g_nu rfl rfl rfl rfl rfl ?_
    refine g_nu rfl rfl rfl rfl rfl ?_
    refine g_nu rfl rfl rfl rfl rfl ?_
    refine g_nu rfl rfl rfl rfl rfl ?_
    refine g_nu rfl rfl rfl rfl rfl ?_
    refine g_nu rfl rfl rfl rfl rfl ?_
    refine g_nu rfl rfl rfl rfl rfl ?_
    refine g_no rfl rfl rfl rfl rfl rfl ?_
    refine g_v rfl (r_pick1 rfl rfl) ?_
    refine g_nil ?_
    refine d_then ?_
    refine c_flat [(0, .slice Ap0_0 p0.length cp0_0), (5, .slice Ap0_0 p0.length cp0_0), (6, .int .i64 (p0.length : Int)), (7, .int .i64 i33), (30, .bool true)] ⟨rfl, rfl, rfl, rfl, rfl, trivial⟩ (fun u => ?_)
    refine c_sta ⟨w0, M, H, R, φ⟩ (fun _ h => h) ?_
    refine c_cond1 rfl rfl ?_
    refine c_seq ?_
    refine c_region ?_
    refine g_v rfl r_assign ?_
    refine g_nil ?_
    refine d_then ?_
    refine c_ret ?_
    refine d_ret_block ?_
    refine d_ret_then ?_
    refine d_ret_then ?_
    refine d_ret_block ?_
    refine d_ret_then ?_
    refine d_ret_then ?_
    replace hm := nx_out (C := (fun e => Sum.elim (fun e => m_plog_rising_j1 p0) (fun x => some x) e = some r)) hm hnx2 hr2
    replace hm : some false = some r := hm
    replace hm := Option.some.inj hm
    subst hm
    refine d_retC () Try.results74 ?_ trivial (fun W h => ok_pre (H1 := []) (R1 := []) h (fun W hφ => hφ)) (.inr rfl)
    refine res_tmp ?_
    refine res_nil ?_
    exact rfl
  ·
   replace hm := ite_f hm (of_decide_eq_false h49)
   refine c_exit ?_
   refine d_exit_then ?_
   refine d_exit_then ?_
   refine d_exit_block ?_
   replace hm := nx_out (C := (fun e => Sum.elim (fun e => m_plog_rising_j1 p0) (fun x => some x) e = some r)) hm hnx2 hr2
   exact d_round () hm Nat.zero_lt_one ⟨rfl, trivial⟩ (fun W h => h.phi (fun W hφ => hφ))
 ·
  unfold m_plog_rising_j1 at hm
  refine d_flat [(0, .slice Ap0_0 p0.length cp0_0)] ⟨rfl, trivial⟩ (fun u => ?_)
  refine d_sta ⟨w0, M, H, R, φ⟩ (fun _ h => h) ?_
  refine d_then ?_
  refine c_seq ?_
  refine c_region ?_
  refine g_v rfl r_move ?_
  refine g_v rfl (r_lenL Try.underlying42 rfl) ?_
  refine g_v rfl (r_gtr rfl rfl) ?_
  refine g_v rfl r_assign ?_
  refine g_nil ?_
  refine d_then ?_
  refine c_ret ?_
  replace hm := Option.some.inj hm
  subst hm
  refine d_retC () Try.results74 ?_ trivial (fun W h => ok_pre (H1 := []) (R1 := []) h (fun W hφ => hφ)) (.inr rfl)
  refine res_tmp ?_
  refine res_nil ?_
  exact rfl

noncomputable def m_plog_List_j1  (l57 : List Int) : Option ((List Int) × Bool) :=
  (m_plog_rising l57).bind fun x60 =>
  if x60 = true then
    some (l57, true)
  else
    some (([] : List Int), false)
noncomputable def m_plog_List_s2 (p0 : ByteArray) (l73 : List Int) (i76 : Int) : Option (((List Int) × Int) ⊕ (List Int)) :=
  if i76 < (p0.size : Int) then
    (sat_ p0 i76).bind fun b89 =>
    (app 8 l73 [w64 b89]).bind fun l91 =>
    some (.inl (l91, w64 (i76 + 1)))
  else
    some (.inr l73)
noncomputable def m_plog_List (p0 : ByteArray) : Option ((List Int) × Bool) :=
  (loop (fun s => m_plog_List_s2 p0 s.1 s.2) (([] : List Int), 0)).bind fun e => m_plog_List_j1 e
theorem c_plog_List {w0 : World} {M : Nat → Prop} {H : List (Nat × Nat × Obj)} {R : List (Nat × Row)} {φ : World → Prop} (p0 : ByteArray) (r : (List Int) × Bool) (hm : m_plog_List p0 = some r) :
    Cn Try.prog 23 #[.string p0] ⟨w0, M, H, R, φ⟩ (fun x : Option Addr × Nat => .tuple #[.slice x.1 r.1.length x.2, .bool r.2]) (fun x => r.1.length ≤ x.2) (fun x => ⟨w0, M, H, (2000, ⟨.slice x.1 r.1.length x.2, 3, 1, r.1.length, r.1.flatMap (fun x : Int => [Value.int .i64 x])⟩) :: R, φ⟩) := by
 unfold m_plog_List at hm
 refine cn_intro (fn := Try.f23) (N := 23) Try.func23 rfl Try.ntmps23 rfl ?_
 refine c_seq ?_
 refine c_region ?_
 refine g_v rfl r_assign ?_
 refine g_v rfl r_assign ?_
 refine g_nil ?_
 refine d_then ?_
 refine c_seq ?_
 refine c_region ?_
 refine g_v rfl r_assign ?_
 refine g_nil ?_
 refine d_then ?_
 refine c_seq ?_
 refine c_seq ?_
 refine c_region ?_
 refine g_v rfl r_move ?_
 refine g_v rfl (r_len Try.underlying9 rfl) ?_
 refine g_v rfl r_move ?_
 refine g_nil ?_
 refine d_then ?_
 refine c_sta _ (fun W h => nilR h 3 3 1) ?_
 refine c_cut (ι := (List Int) × Option Addr × Nat) [4] (fun ⟨l57, A58, c59⟩ => [(4, .slice A58 l57.length c59)]) (fun ⟨l57, A58, c59⟩ => ⟨w0, M, H, (3, ⟨.slice A58 l57.length c59, 3, 1, l57.length, l57.flatMap (fun x : Int => [Value.int .i64 x])⟩) :: R, φ⟩) (fun ⟨l57, A58, c59⟩ => m_plog_List_j1 l57 = some r ∧ l57.length ≤ c59) ?_ (fun ⟨l57, A58, c59⟩ u ⟨hm, hc59⟩ => ?_)
 ·
  refine c_block ?_
  replace hm := bnd hm
  obtain ⟨out2, hl2, hr2⟩ := hm
  obtain ⟨n87', hl2⟩ := loop_lp hl2
  refine c_loopU (ι := Nat × (List Int) × Int × Option Addr × Nat) [0, 4, 7, 8] (fun ⟨n87, l73, i76, A74, c75⟩ => [(4, .slice A74 l73.length c75), (8, .int .i64 i76)]) (fun ⟨n87, l73, i76, A74, c75⟩ => ⟨w0, M, H, (3, ⟨.slice A74 l73.length c75, 3, 1, l73.length, l73.flatMap (fun x : Int => [Value.int .i64 x])⟩) :: R, φ⟩) (fun ⟨n87, l73, i76, A74, c75⟩ => Lp (fun s => m_plog_List_s2 p0 s.1 s.2) n87 (l73, i76) out2 ∧ l73.length ≤ c75) (fun ⟨n87, l73, i76, A74, c75⟩ => n87) (n87', ([] : List Int), 0, none, 0) ⟨hl2, (Nat.le_refl 0)⟩ ⟨rfl, rfl, rfl, rfl, trivial⟩ (fun W h => h.phi (fun W hφ => hφ)) (fun ⟨n87, l73, i76, A74, c75⟩ u ⟨hlp, hc75⟩ => ?_)
  obtain ⟨o2, hm, hnx2⟩ := lp_step hlp
  clear hlp
  replace hm : m_plog_List_s2 p0 l73 i76 = some o2 := hm
  unfold m_plog_List_s2 at hm
  refine c_flat [(0, .string p0), (4, .slice A74 l73.length c75), (7, .int .i64 (p0.size : Int)), (8, .int .i64 i76)] ⟨rfl, rfl, rfl, rfl, trivial⟩ (fun u => ?_)
  refine c_sta ⟨w0, M, H, (3, ⟨.slice A74 l73.length c75, 3, 1, l73.length, l73.flatMap (fun x : Int => [Value.int .i64 x])⟩) :: R, φ⟩ (fun _ h => h) ?_
  refine c_seq ?_
  refine c_region ?_
  refine g_v rfl (r_lss rfl rfl) ?_
  refine g_nil ?_
  refine d_then ?_
  refine c_seq ?_
  refine c_cond rfl (fun h88 => ?_) (fun h88 => ?_)
  ·
   replace hm := ite_t hm (of_decide_eq_true h88)
   refine c_skip ?_
   refine d_then ?_
   refine c_seq ?_
   refine c_block ?_
   refine c_seq ?_
   refine c_region ?_
   refine g_v rfl r_move ?_
   refine g_v rfl r_assign ?_
   refine g_nil ?_
   refine d_then ?_
   refine c_region ?_
   refine g_v rfl r_move ?_
   refine g_v rfl r_move ?_
   refine g_v rfl r_move ?_
   replace hm := bnd hm
   obtain ⟨b89, hb89, hm⟩ := hm
   refine g_v rfl (r_sat Try.underlying9 rfl rfl hb89) ?_
   refine g_v rfl (r_conv Try.underlying5 Try.underlying3 rfl rfl) ?_
   refine g_e rfl (e_lit (tag := 100160) (l := [w64 b89]) (enc := (fun x : Int => [Value.int .i64 x])) (sz := 1) rfl Try.underlying42 (lit3_2 _) rfl rfl (fun _ => rfl)) (fun g90 _ => ?_)
   replace hm := bnd hm
   obtain ⟨l91, hl91, hm⟩ := hm
   refine g_e rfl (e_appR (enc := (fun x : Int => [Value.int .i64 x])) (l := l73) (l1 := [w64 b89]) (l2 := l91) (tag := 3) Try.underlying42 inf3_3 rfl (by decide) (by decide) (fun _ => rfl) (fun _ => rfl) rfl hc75 rfl rfl (fun W hS => rowCl (tag := 100160) rfl W hS) hl91) (fun ⟨A92, c93⟩ hc93 => ?_)
   refine g_v rfl r_assign ?_
   refine g_nil ?_
   refine d_normal_block ?_
   refine d_then ?_
   refine c_flat [(0, .string p0), (4, .slice A92 l91.length c93), (7, .int .i64 (p0.size : Int)), (8, .int .i64 i76)] ⟨rfl, rfl, rfl, rfl, trivial⟩ (fun u => ?_)
   refine c_sta ⟨w0, M, H, (100160, ⟨.slice (some ⟨g90, 0, none⟩) [w64 b89].length 1, 3, 1, [w64 b89].length, [w64 b89].flatMap (fun x : Int => [Value.int .i64 x])⟩) :: (3, ⟨.slice A92 l91.length c93, 3, 1, l91.length, l91.flatMap (fun x : Int => [Value.int .i64 x])⟩) :: R, φ⟩ (fun _ h => h) ?_
   refine c_region ?_
   refine g_v rfl (r_add rfl rfl rfl) ?_
   refine g_v rfl r_move ?_
   refine g_nil ?_
   obtain ⟨n94, hn94, hlp⟩ := nx_inl hm hnx2
   exact d_round (n94, l91, w64 (i76 + 1), A92, c93) ⟨hlp, hc93⟩ hn94 ⟨rfl, rfl, rfl, rfl, trivial⟩ (fun W h => ((h.shut (t := 100160) rfl).phi (fun _ hh => hh.1)).phi (fun W hφ => hφ))
  ·
   replace hm := ite_f hm (of_decide_eq_false h88)
   refine c_exit ?_
   refine d_exit_then ?_
   refine d_exit_then ?_
   refine d_exit_block ?_
   replace hm := nx_out (C := (fun e => m_plog_List_j1 e = some r)) hm hnx2 hr2
   exact d_round (l73, A74, c75) ⟨hm, hc75⟩ Nat.zero_lt_one ⟨rfl, trivial⟩ (fun W h => h.phi (fun W hφ => hφ))
 ·
  unfold m_plog_List_j1 at hm
  refine d_flat [(4, .slice A58 l57.length c59)] ⟨rfl, trivial⟩ (fun u => ?_)
  refine d_sta ⟨w0, M, H, (3, ⟨.slice A58 l57.length c59, 3, 1, l57.length, l57.flatMap (fun x : Int => [Value.int .i64 x])⟩) :: R, φ⟩ (fun _ h => h) ?_
  refine d_then ?_
  refine c_seq ?_
  refine c_seq ?_
  refine c_region ?_
  refine g_v rfl r_move ?_
  replace hm := bnd hm
  obtain ⟨x60, hx61, hm⟩ := hm
  refine g_cn ⟨w0, M, _, _, φ⟩ (fun _ h => h) Try.call74 rfl rfl (c_plog_rising l57 A58 c59 hc59 (fun W hS => rowCl (tag := 3) rfl W hS) _ hx61) (fun _ _ => ?_)
  refine g_v rfl (r_not rfl) ?_
  refine g_nil ?_
  refine d_then ?_
  refine c_cond rfl (fun h62 => ?_) (fun h62 => ?_)
  ·
   have h62' : x60 = false := by revert h62; cases x60 <;> simp
   replace hm := ite_f hm (bool_nt h62')
   refine c_seq ?_
   refine c_region ?_
   refine g_v rfl r_assign ?_
   refine g_v rfl r_assign ?_
   refine g_nil ?_
   refine d_then ?_
   refine c_ret ?_
   refine d_ret_then ?_
   replace hm := Option.some.inj hm
   subst hm
   refine d_sta _ (fun W h => nilR h 4 3 1) ?_
   refine d_sta _ (fun W h => ok_frontR (t := 4) (t' := 2000) h rfl) ?_
   refine d_retC (none, 0) Try.results23 ?_ (Nat.le_refl 0) (fun W h => ((h.shut (t := 3) rfl).phi (fun _ hh => hh.1)).phi (fun W hφ => hφ)) (.inr rfl)
   refine res_tmp ?_
   refine res_tmp ?_
   refine res_nil ?_
   exact rfl
  ·
   have h62' : x60 = true := by revert h62; cases x60 <;> simp
   replace hm := ite_t hm h62'
   refine c_skip ?_
   refine d_then ?_
   refine c_seq ?_
   refine c_region ?_
   refine g_v rfl r_move ?_
   refine g_v rfl r_assign ?_
   refine g_v rfl r_assign ?_
   refine g_nil ?_
   refine d_then ?_
   refine c_ret ?_
   replace hm := Option.some.inj hm
   subst hm
   refine d_sta _ (fun W h => ok_frontR (t := 3) (t' := 2000) h rfl) ?_
   refine d_retC (A58, c59) Try.results23 ?_ hc59 (fun W h => h.phi (fun W hφ => hφ)) (.inr rfl)
   refine res_tmp ?_
   refine res_tmp ?_
   refine res_nil ?_
   exact rfl

theorem bld35_4 (z0 : Int) : ∀ W, (Instr.build 35 #[(0, .int .i64 z0)]).run Try.prog W = .ok (.agg #[.int .i64 z0, .int .i64 0, .string (⟨#[]⟩ : ByteArray)]) W := fun _ => by kernel_rfl
noncomputable def m_plog_Last (p0 : GLog) : Option Int :=
  some (w64 (p0.fBase + (p0.fEntries.length : Int)))
theorem c_plog_Last {w0 : World} {M : Nat → Prop} {H : List (Nat × Nat × Obj)} {R : List (Nat × Row)} {φ : World → Prop} (p0 : GLog) (Ap0_0 : Option Addr) (cp0_0 : Nat) (hcp0_0 : p0.fEntries.length ≤ cp0_0) (fp0_0 : ∀ W, (Sta.mk w0 M H R φ).ok W → Cl W Ap0_0 (p0.fEntries.flatMap GEntry.enc)) (r : Int) (hm : m_plog_Last p0 = some r) :
    Cn Try.prog 38 #[.agg #[.int .i64 p0.fBase, .int .i64 p0.fBaseTerm, .slice Ap0_0 p0.fEntries.length cp0_0]] ⟨w0, M, H, R, φ⟩ (fun x : Unit => .int .i64 r) (fun x => True) (fun x => ⟨w0, M, H, R, φ⟩) := by
 unfold m_plog_Last at hm
 refine cn_intro (fn := Try.f38) (N := 9) Try.func38 rfl Try.ntmps38 rfl ?_
 refine c_seq ?_
 refine c_region ?_
 refine g_e rfl (e_box 100010 rfl) (fun g1 _ => ?_)
 refine g_v rfl r_assign ?_
 refine g_nil ?_
 refine d_then ?_
 refine c_seq ?_
 refine c_region ?_
 refine g_v rfl (r_field (n := 0) Try.underlying26 rfl Try.sizeOf3 rfl rfl) ?_
 refine g_v rfl (r_load (tag := 100010) rfl rfl rfl Try.isAgg3) ?_
 refine g_v rfl (r_field (n := 2) Try.underlying26 rfl Try.sizeOf24 rfl rfl) ?_
 refine g_v rfl (r_load (tag := 100010) rfl rfl rfl Try.isAgg24) ?_
 refine g_v rfl (r_lenL Try.underlying24 rfl) ?_
 refine g_v rfl (r_add rfl rfl rfl) ?_
 refine g_v rfl r_assign ?_
 refine g_nil ?_
 refine d_then ?_
 refine c_flat [(2, .int .i64 (w64 (p0.fBase + (p0.fEntries.length : Int))))] ⟨rfl, trivial⟩ (fun u => ?_)
 refine c_sta ⟨w0, M, (100010, g1, .cells #[.int .i64 p0.fBase, .int .i64 p0.fBaseTerm, .slice Ap0_0 p0.fEntries.length cp0_0] 26 (0, 0)) :: H, R, φ⟩ (fun _ h => h) ?_
 refine c_ret ?_
 replace hm := Option.some.inj hm
 subst hm
 refine d_retC () Try.results38 ?_ trivial (fun W h => ok_pre (H1 := [_]) (R1 := []) h (fun W hφ => hφ)) (.inr rfl)
 refine res_tmp ?_
 refine res_nil ?_
 exact rfl

noncomputable def m_plog_upto (p0 : GLog) (p1 : Int) : Option GLog :=
  (cutHi p0.fEntries (w64 (p1 - p0.fBase))).bind fun l4 =>
  some (⟨p0.fBase, p0.fBaseTerm, l4⟩ : GLog)
theorem c_plog_upto {w0 : World} {M : Nat → Prop} {H : List (Nat × Nat × Obj)} {R : List (Nat × Row)} {φ : World → Prop} (p0 : GLog) (Ap0_0 : Option Addr) (cp0_0 : Nat) (hcp0_0 : p0.fEntries.length ≤ cp0_0) (fp0_0 : ∀ W, φ W → Cl W Ap0_0 (p0.fEntries.flatMap GEntry.enc)) (p1 : Int) (r : GLog) (hm : m_plog_upto p0 p1 = some r) :
    Cn Try.prog 73 #[.agg #[.int .i64 p0.fBase, .int .i64 p0.fBaseTerm, .slice Ap0_0 p0.fEntries.length cp0_0], .int .i64 p1] ⟨w0, M, H, R, φ⟩ (fun x : Option Addr × Nat => .agg #[.int .i64 r.fBase, .int .i64 r.fBaseTerm, .slice x.1 r.fEntries.length x.2]) (fun x => r.fEntries.length ≤ x.2) (fun x => ⟨w0, M, H, R, fun W => φ W ∧ Cl W x.1 (r.fEntries.flatMap GEntry.enc)⟩) := by
 unfold m_plog_upto at hm
 refine cn_intro (fn := Try.f73) (N := 17) Try.func73 rfl Try.ntmps73 rfl ?_
 refine c_seq ?_
 refine c_region ?_
 refine g_e rfl (e_box 100020 rfl) (fun g1 _ => ?_)
 refine g_e rfl (e_alloc 100040 Try.zeroValue26) (fun g2 _ => ?_)
 refine g_nil ?_
 refine d_then ?_
 refine c_seq ?_
 refine c_region ?_
 refine g_v rfl r_move ?_
 refine g_v rfl (r_field (n := 0) Try.underlying26 rfl Try.sizeOf3 rfl rfl) ?_
 refine g_v rfl (r_load (tag := 100020) rfl rfl rfl Try.isAgg3) ?_
 refine g_v rfl (r_sub rfl rfl rfl) ?_
 refine g_v rfl r_assign ?_
 refine g_nil ?_
 refine d_then ?_
 refine c_seq ?_
 refine c_region ?_
 refine g_v rfl (r_field (n := 2) Try.underlying26 rfl Try.sizeOf24 rfl rfl) ?_
 refine g_v rfl (r_load (tag := 100020) rfl rfl rfl Try.isAgg24) ?_
 refine g_v rfl r_move ?_
 refine g_v rfl r_move ?_
 replace hm := bnd hm
 obtain ⟨l4, hl4, hm⟩ := hm
 have f3 := fun (W : World) (h : φ W) => cl_cutHi (enc := GEntry.enc) (sz := 3) (fun _ => rfl) hl4 (fp0_0 W h)
 refine g_v rfl (r_lcutFull Try.underlying24 Try.sizeOf35 rfl hcp0_0 rfl rfl hl4) ?_
 refine g_v rfl (r_field (n := 2) Try.underlying26 rfl Try.sizeOf24 rfl rfl) ?_
 refine g_storeL (tag := 100020) rfl rfl rfl rfl Try.sizeOf24 rfl rfl ?_
 refine g_nil ?_
 refine d_then ?_
 refine c_flat [(2, .pointer (some ⟨g1, 0, none⟩)), (4, .pointer (some ⟨g2, 0, none⟩))] ⟨rfl, rfl, trivial⟩ (fun u => ?_)
 refine c_sta ⟨w0, M, (100040, g2, .cells #[.int .i64 0, .int .i64 0, .slice none 0 0] 26 (0, 0)) :: (100020, g1, .cells #[.int .i64 p0.fBase, .int .i64 p0.fBaseTerm, .slice Ap0_0 l4.length l4.length] 26 (0, 0)) :: H, R, φ⟩ (fun _ h => h) ?_
 refine c_seq ?_
 refine c_region ?_
 refine g_v rfl (r_loadA (tag := 100020) rfl rfl Try.isAgg26 Try.sizeOf26 rfl rfl) ?_
 refine g_storeL (tag := 100040) rfl rfl rfl rfl Try.sizeOf26 rfl rfl ?_
 refine g_nil ?_
 refine d_then ?_
 refine c_ret ?_
 replace hm := Option.some.inj hm
 subst hm
 refine d_retC (Ap0_0, l4.length) Try.results73 ?_ (Nat.le_refl _) (fun W h => ok_pre (H1 := [_, _]) (R1 := []) h (fun W hφ => ⟨hφ, (fun W h => f3 W h) W hφ⟩)) (.inr rfl)
 refine res_agg (tag := 100040) rfl rfl Try.isAgg26 Try.sizeOf26 ?_
 refine res_nil ?_
 exact rfl

theorem lit35_5 (z0 : Int) (z1 : Int) (z2 : ByteArray) : Try.prog.builtSlice 35 1 [(0, .agg #[.int .i64 z0, .int .i64 z1, .string z2])] = some #[.int .i64 z0, .int .i64 z1, .string z2] := by kernel_rfl
theorem inf35_6  : (Try.prog.info? 35).map (fun i => (i.zero, i.size, i.bytes)) = some (some (.agg #[.int .i64 0, .int .i64 0, .string (⟨#[]⟩ : ByteArray)]), 3, 32) := by kernel_rfl
noncomputable def m_plog_Add (p0 : GLog) (p1 : List GEntry) : Option GLog :=
  (cutHi p0.fEntries (p0.fEntries.length : Int)).bind fun l4 =>
  (app 32 l4 p1).bind fun l5 =>
  some (⟨p0.fBase, p0.fBaseTerm, l5⟩ : GLog)
theorem c_plog_Add {w0 : World} {M : Nat → Prop} {H : List (Nat × Nat × Obj)} {R : List (Nat × Row)} {φ : World → Prop} (p0 : GLog) (Ap0_0 : Option Addr) (cp0_0 : Nat) (hcp0_0 : p0.fEntries.length ≤ cp0_0) (fp0_0 : ∀ W, φ W → Cl W Ap0_0 (p0.fEntries.flatMap GEntry.enc)) (p1 : List GEntry) (Ap1_0 : Option Addr) (cp1_0 : Nat) (hcp1_0 : p1.length ≤ cp1_0) (fp1_0 : ∀ W, φ W → Cl W Ap1_0 (p1.flatMap GEntry.enc)) (r : GLog) (hm : m_plog_Add p0 p1 = some r) :
    Cn Try.prog 72 #[.agg #[.int .i64 p0.fBase, .int .i64 p0.fBaseTerm, .slice Ap0_0 p0.fEntries.length cp0_0], .slice Ap1_0 p1.length cp1_0] ⟨w0, M, H, R, φ⟩ (fun x : Option Addr × Nat => .agg #[.int .i64 r.fBase, .int .i64 r.fBaseTerm, .slice x.1 r.fEntries.length x.2]) (fun x => r.fEntries.length ≤ x.2) (fun x => ⟨w0, M, H, R, fun W => φ W ∧ Cl W x.1 (r.fEntries.flatMap GEntry.enc)⟩) := by
 unfold m_plog_Add at hm
 refine cn_intro (fn := Try.f72) (N := 18) Try.func72 rfl Try.ntmps72 rfl ?_
 refine c_seq ?_
 refine c_region ?_
 refine g_e rfl (e_box 100020 rfl) (fun g1 _ => ?_)
 refine g_e rfl (e_alloc 100040 Try.zeroValue26) (fun g2 _ => ?_)
 refine g_nil ?_
 refine d_then ?_
 refine c_seq ?_
 refine c_region ?_
 refine g_v rfl (r_field (n := 2) Try.underlying26 rfl Try.sizeOf24 rfl rfl) ?_
 refine g_v rfl (r_load (tag := 100020) rfl rfl rfl Try.isAgg24) ?_
 refine g_v rfl (r_field (n := 2) Try.underlying26 rfl Try.sizeOf24 rfl rfl) ?_
 refine g_v rfl (r_load (tag := 100020) rfl rfl rfl Try.isAgg24) ?_
 refine g_v rfl (r_lenL Try.underlying24 rfl) ?_
 refine g_v rfl (r_field (n := 2) Try.underlying26 rfl Try.sizeOf24 rfl rfl) ?_
 refine g_v rfl (r_load (tag := 100020) rfl rfl rfl Try.isAgg24) ?_
 refine g_v rfl (r_lenL Try.underlying24 rfl) ?_
 replace hm := bnd hm
 obtain ⟨l4, hl4, hm⟩ := hm
 have f3 := fun (W : World) (h : φ W) => cl_cutHi (enc := GEntry.enc) (sz := 3) (fun _ => rfl) hl4 (fp0_0 W h)
 refine g_v rfl (r_lcutFull Try.underlying24 Try.sizeOf35 rfl hcp0_0 rfl rfl hl4) ?_
 refine g_v rfl r_move ?_
 replace hm := bnd hm
 obtain ⟨l5, hl5, hm⟩ := hm
 refine g_e rfl (e_appF (enc := GEntry.enc) (l := l4) (l1 := p1) (l2 := l5) Try.underlying24 inf35_6 rfl (by decide) (by decide) (fun _ => rfl) (fun _ => rfl) rfl (fun W h => f3 W h) rfl (fun W h => fp1_0 W h) hl5) (fun ⟨A6, c7⟩ hc7 => ?_)
 refine g_abs (fun φ9 q9' => ?_)
 have q9 : ∀ W, φ9 W → φ W := fun W h => (q9' W h).1
 have f8 := fun (W : World) (h : φ9 W) => (q9' W h).2
 refine g_v rfl (r_field (n := 2) Try.underlying26 rfl Try.sizeOf24 rfl rfl) ?_
 refine g_storeL (tag := 100020) rfl rfl rfl rfl Try.sizeOf24 rfl rfl ?_
 refine g_nil ?_
 refine d_then ?_
 refine c_flat [(2, .pointer (some ⟨g1, 0, none⟩)), (4, .pointer (some ⟨g2, 0, none⟩))] ⟨rfl, rfl, trivial⟩ (fun u => ?_)
 refine c_sta ⟨w0, M, (100040, g2, .cells #[.int .i64 0, .int .i64 0, .slice none 0 0] 26 (0, 0)) :: (100020, g1, .cells #[.int .i64 p0.fBase, .int .i64 p0.fBaseTerm, .slice A6 l5.length c7] 26 (0, 0)) :: H, R, φ9⟩ (fun _ h => h) ?_
 refine c_seq ?_
 refine c_region ?_
 refine g_v rfl (r_loadA (tag := 100020) rfl rfl Try.isAgg26 Try.sizeOf26 rfl rfl) ?_
 refine g_storeL (tag := 100040) rfl rfl rfl rfl Try.sizeOf26 rfl rfl ?_
 refine g_nil ?_
 refine d_then ?_
 refine c_ret ?_
 replace hm := Option.some.inj hm
 subst hm
 refine d_retC (A6, c7) Try.results72 ?_ hc7 (fun W h => ok_pre (H1 := [_, _]) (R1 := []) h (fun W hφ => ⟨(q9 _ hφ), (fun W h => f8 W h) W hφ⟩)) (.inr rfl)
 refine res_agg (tag := 100040) rfl rfl Try.isAgg26 Try.sizeOf26 ?_
 refine res_nil ?_
 exact rfl

noncomputable def m_plog_read_j1 (p0 : GHard) (i303 : Int) (i304 : Int) (l305 : List GEntry) : Option (GHard × Bool) :=
  some ((⟨p0.fTerm, p0.fVote, p0.fVoters, p0.fSnap, (⟨i303, i304, l305⟩ : GLog)⟩ : GHard), true)
noncomputable def m_plog_read (p0 : GHard) (p1 : ByteArray) : Option (GHard × Bool) :=
  (scutLo p1 1).bind fun s3 =>
  (sat_ p1 0).bind fun b7 =>
  if b7 = 87 then
    (m_plog_read_c2 false s3).bind fun (z14 : Int × Bool × ByteArray) =>
    (m_plog_read_c2 z14.2.1 z14.2.2).bind fun (z19 : Int × Bool × ByteArray) =>
    (m_plog_read_c2 z19.2.1 z19.2.2).bind fun (z24 : Int × Bool × ByteArray) =>
    (m_plog_read_c2 z24.2.1 z24.2.2).bind fun (z29 : Int × Bool × ByteArray) =>
    (m_plog_read_c2 z29.2.1 z29.2.2).bind fun (z54 : Int × Bool × ByteArray) =>
    (m_plog_read_c1 z54.1 z54.2.2 z54.2.1).bind fun (z59 : ByteArray × ByteArray × Bool) =>
    (m_plog_List z59.1).bind fun (z66 : (List Int) × Bool) =>
    (m_plog_read_c2 z59.2.2 z59.2.1).bind fun (z91 : Int × Bool × ByteArray) =>
    (m_plog_read_c1 z91.1 z91.2.2 z91.2.1).bind fun (z96 : ByteArray × ByteArray × Bool) =>
    if z96.2.2 = true then
      some ((⟨z14.1, z19.1, z66.1, z96.1, (⟨z24.1, z29.1, ([] : List GEntry)⟩ : GLog)⟩ : GHard), false)
    else
      if z96.2.1 = (⟨#[]⟩ : ByteArray) then
        if z66.2 = true then
          some ((⟨z14.1, z19.1, z66.1, z96.1, (⟨z24.1, z29.1, ([] : List GEntry)⟩ : GLog)⟩ : GHard), decide ((z96.1.size : Int) ≤ 50000))
        else
          if z59.1 = (⟨#[]⟩ : ByteArray) then
            some ((⟨z14.1, z19.1, z66.1, z96.1, (⟨z24.1, z29.1, ([] : List GEntry)⟩ : GLog)⟩ : GHard), decide ((z96.1.size : Int) ≤ 50000))
          else
            some ((⟨z14.1, z19.1, z66.1, z96.1, (⟨z24.1, z29.1, ([] : List GEntry)⟩ : GLog)⟩ : GHard), false)
      else
        some ((⟨z14.1, z19.1, z66.1, z96.1, (⟨z24.1, z29.1, ([] : List GEntry)⟩ : GLog)⟩ : GHard), false)
  else
    if b7 = 84 then
      (m_plog_read_c2 false s3).bind fun (z124 : Int × Bool × ByteArray) =>
      (m_plog_read_c2 z124.2.1 z124.2.2).bind fun (z129 : Int × Bool × ByteArray) =>
      if z129.2.1 = true then
        some ((⟨z124.1, z129.1, p0.fVoters, p0.fSnap, p0.fLog⟩ : GHard), false)
      else
        some ((⟨z124.1, z129.1, p0.fVoters, p0.fSnap, p0.fLog⟩ : GHard), decide (z129.2.2 = (⟨#[]⟩ : ByteArray)))
    else
      if b7 = 69 then
        (m_plog_read_c2 false s3).bind fun (z138 : Int × Bool × ByteArray) =>
        (m_plog_read_c2 z138.2.1 z138.2.2).bind fun (z143 : Int × Bool × ByteArray) =>
        (m_plog_read_c1 1 z143.2.2 z143.2.1).bind fun (z149 : ByteArray × ByteArray × Bool) =>
        if z149.2.2 = true then
          some (p0, false)
        else
          if z138.1 ≤ p0.fLog.fBase then
            some (p0, false)
          else
            (m_plog_Last p0.fLog).bind fun x152 =>
            if w64 (x152 + 1) < z138.1 then
              some (p0, false)
            else
              (sat_ z149.1 0).bind fun b157 =>
              (m_plog_upto p0.fLog (w64 (z138.1 - 1))).bind fun x368 =>
              (m_plog_Add x368 [(⟨z143.1, w64 b157, z149.2.1⟩ : GEntry)]).bind fun x378 =>
              m_plog_read_j1 p0 x378.fBase x378.fBaseTerm x378.fEntries
      else
        some (p0, false)
theorem c_plog_read {w0 : World} {M : Nat → Prop} {H : List (Nat × Nat × Obj)} {R : List (Nat × Row)} {φ : World → Prop} (p0 : GHard) (Ap0_0 : Option Addr) (cp0_0 : Nat) (hcp0_0 : p0.fVoters.length ≤ cp0_0) (fp0_0 : ∀ W, φ W → Cl W Ap0_0 (p0.fVoters.flatMap (fun x : Int => [Value.int .i64 x]))) (Ap0_1 : Option Addr) (cp0_1 : Nat) (hcp0_1 : p0.fLog.fEntries.length ≤ cp0_1) (fp0_1 : ∀ W, φ W → Cl W Ap0_1 (p0.fLog.fEntries.flatMap GEntry.enc)) (p1 : ByteArray) (r : GHard × Bool) (hm : m_plog_read p0 p1 = some r) :
    Cn Try.prog 93 #[.agg #[.int .i64 p0.fTerm, .int .i64 p0.fVote, .slice Ap0_0 p0.fVoters.length cp0_0, .string p0.fSnap, .int .i64 p0.fLog.fBase, .int .i64 p0.fLog.fBaseTerm, .slice Ap0_1 p0.fLog.fEntries.length cp0_1], .string p1] ⟨w0, M, H, R, φ⟩ (fun x : Option Addr × Nat × Option Addr × Nat => .tuple #[.agg #[.int .i64 r.1.fTerm, .int .i64 r.1.fVote, .slice x.1 r.1.fVoters.length x.2.1, .string r.1.fSnap, .int .i64 r.1.fLog.fBase, .int .i64 r.1.fLog.fBaseTerm, .slice x.2.2.1 r.1.fLog.fEntries.length x.2.2.2], .bool r.2]) (fun x => r.1.fVoters.length ≤ x.2.1 ∧ r.1.fLog.fEntries.length ≤ x.2.2.2) (fun x => ⟨w0, M, H, R, fun W => φ W ∧ Cl W x.1 (r.1.fVoters.flatMap (fun x : Int => [Value.int .i64 x])) ∧ Cl W x.2.2.1 (r.1.fLog.fEntries.flatMap GEntry.enc)⟩) := by
 unfold m_plog_read at hm
 refine cn_intro (fn := Try.f93) (N := 138) Try.func93 rfl Try.ntmps93 rfl ?_
 refine c_seq ?_
 refine c_region ?_
 refine g_e rfl (e_box 100020 rfl) (fun g1 _ => ?_)
 refine g_e rfl (e_alloc 100040 Try.zeroValue44) (fun g2 _ => ?_)
 refine g_v rfl r_assign ?_
 refine g_nil ?_
 refine d_then ?_
 refine c_seq ?_
 refine c_region ?_
 refine g_v rfl r_move ?_
 replace hm := bnd hm
 obtain ⟨s3, hs3, hm⟩ := hm
 refine g_v rfl (r_scutLo Try.underlying9 rfl rfl hs3) ?_
 refine g_e rfl (e_alloc 100060 Try.zeroValue9) (fun g4 _ => ?_)
 refine g_e rfl (e_alloc 100070 Try.zeroValue4) (fun g5 _ => ?_)
 refine g_storeL (tag := 100060) rfl rfl rfl rfl Try.sizeOf9 rfl rfl ?_
 refine g_storeL (tag := 100070) rfl rfl rfl rfl Try.sizeOf4 rfl rfl ?_
 refine g_nil ?_
 refine d_then ?_
 refine c_flat [(1, .string p1), (2, .pointer (some ⟨g1, 0, none⟩)), (4, .pointer (some ⟨g2, 0, none⟩)), (6, .pointer (some ⟨g4, 0, none⟩)), (7, .pointer (some ⟨g5, 0, none⟩))] ⟨rfl, rfl, rfl, rfl, rfl, trivial⟩ (fun u => ?_)
 refine c_sta ⟨w0, M, (100070, g5, .cells #[.bool false] 4 (0, 0)) :: (100060, g4, .cells #[.string s3] 9 (0, 0)) :: (100040, g2, .cells #[.int .i64 0, .int .i64 0, .slice none 0 0, .string (⟨#[]⟩ : ByteArray), .int .i64 0, .int .i64 0, .slice none 0 0] 44 (0, 0)) :: (100020, g1, .cells #[.int .i64 p0.fTerm, .int .i64 p0.fVote, .slice Ap0_0 p0.fVoters.length cp0_0, .string p0.fSnap, .int .i64 p0.fLog.fBase, .int .i64 p0.fLog.fBaseTerm, .slice Ap0_1 p0.fLog.fEntries.length cp0_1] 44 (0, 0)) :: H, R, φ⟩ (fun _ h => h) ?_
 refine c_seq ?_
 refine c_region ?_
 refine g_v rfl (r_mkf rfl) ?_
 refine g_e rfl (e_alloc 100080 Try.zeroValue120) (fun g6 _ => ?_)
 refine g_storeL (tag := 100080) rfl rfl rfl rfl Try.sizeOf120 rfl rfl ?_
 refine g_nil ?_
 refine d_then ?_
 refine c_seq ?_
 refine c_region ?_
 refine g_v rfl (r_mkf rfl) ?_
 refine g_v rfl r_assign ?_
 refine g_nil ?_
 refine d_then ?_
 refine c_seq ?_
 refine c_seq ?_
 refine c_region ?_
 refine g_v rfl r_move ?_
 replace hm := bnd hm
 obtain ⟨b7, hb7, hm⟩ := hm
 refine g_v rfl (r_sat Try.underlying9 rfl rfl hb7) ?_
 refine g_nil ?_
 refine d_then ?_
 refine c_block ?_
 refine c_seq ?_
 refine c_region ?_
 refine g_v rfl (r_eql rfl rfl) ?_
 refine g_v rfl r_assign ?_
 refine g_nil ?_
 refine d_then ?_
 refine c_flat [(2, .pointer (some ⟨g1, 0, none⟩)), (4, .pointer (some ⟨g2, 0, none⟩)), (6, .pointer (some ⟨g4, 0, none⟩)), (7, .pointer (some ⟨g5, 0, none⟩)), (8, .pointer (some ⟨g6, 0, none⟩)), (9, .func (.func 103) #[] #[.pointer (some ⟨g6, 0, none⟩), .pointer (some ⟨g5, 0, none⟩)]), (23, .int .u8 b7), (24, .bool (decide (b7 = 87)))] ⟨rfl, rfl, rfl, rfl, rfl, rfl, rfl, rfl, trivial⟩ (fun u => ?_)
 refine c_sta ⟨w0, M, (100080, g6, .cells #[.func (.func 102) #[] #[.pointer (some ⟨g4, 0, none⟩), .pointer (some ⟨g5, 0, none⟩)]] 120 (0, 0)) :: (100070, g5, .cells #[.bool false] 4 (0, 0)) :: (100060, g4, .cells #[.string s3] 9 (0, 0)) :: (100040, g2, .cells #[.int .i64 0, .int .i64 0, .slice none 0 0, .string (⟨#[]⟩ : ByteArray), .int .i64 0, .int .i64 0, .slice none 0 0] 44 (0, 0)) :: (100020, g1, .cells #[.int .i64 p0.fTerm, .int .i64 p0.fVote, .slice Ap0_0 p0.fVoters.length cp0_0, .string p0.fSnap, .int .i64 p0.fLog.fBase, .int .i64 p0.fLog.fBaseTerm, .slice Ap0_1 p0.fLog.fEntries.length cp0_1] 44 (0, 0)) :: H, R, φ⟩ (fun _ h => h) ?_
 refine c_cond rfl (fun h8 => ?_) (fun h8 => ?_)
 ·
  replace hm := ite_t hm (of_decide_eq_true h8)
  refine c_seq ?_
  refine c_region ?_
  refine g_e rfl (e_alloc 100100 Try.zeroValue144) (fun g9 _ => ?_)
  refine g_nil ?_
  refine d_then ?_
  refine c_seq ?_
  refine c_seq ?_
  refine c_region ?_
  refine g_v rfl r_move ?_
  refine g_nil ?_
  refine d_then ?_
  refine c_block ?_
  refine c_rounds 64 ?_
  refine c_seq ?_
  refine c_region ?_
  refine g_v rfl (r_lss rfl rfl) ?_
  refine g_nil ?_
  refine d_then ?_
  refine c_seq ?_
  refine c_cond1 rfl (by decide) ?_
  refine c_skip ?_
  refine d_then ?_
  refine c_seq ?_
  refine c_block ?_
  refine c_seq ?_
  refine c_region ?_
  refine g_v rfl r_move ?_
  refine g_v rfl r_assign ?_
  refine g_nil ?_
  refine d_then ?_
  refine c_region ?_
  refine g_v rfl r_move ?_
  refine g_v rfl r_move ?_
  replace hm := bnd hm
  obtain ⟨⟨x10, x11, x12⟩, hx13, hm⟩ := hm
  refine g_cnv ⟨w0, M, (1000, g6, .cells #[.func (.func 102) #[] #[.pointer (some ⟨g4, 0, none⟩), .pointer (some ⟨g5, 0, none⟩)]] 120 (0, 0)) :: (1001, g5, .cells #[.bool false] 4 (0, 0)) :: (1002, g4, .cells #[.string s3] 9 (0, 0)) :: (100100, g9, .cells #[.int .i64 0, .int .i64 0, .int .i64 0, .int .i64 0] 144 (0, 0)) :: (100040, g2, .cells #[.int .i64 0, .int .i64 0, .slice none 0 0, .string (⟨#[]⟩ : ByteArray), .int .i64 0, .int .i64 0, .slice none 0 0] 44 (0, 0)) :: (100020, g1, .cells #[.int .i64 p0.fTerm, .int .i64 p0.fVote, .slice Ap0_0 p0.fVoters.length cp0_0, .string p0.fSnap, .int .i64 p0.fLog.fBase, .int .i64 p0.fLog.fBaseTerm, .slice Ap0_1 p0.fLog.fEntries.length cp0_1] 44 (0, 0)) :: H, R, φ⟩ (fun W h => (ok_front (t := 100080) (t' := 1000) (ok_front (t := 100070) (t' := 1001) (ok_front (t := 100060) (t' := 1002) h rfl) rfl) rfl)) Try.call103 rfl rfl rfl (c_plog_read_c2 g6 g5 false g4 s3 _ hx13) (fun _ _ => ?_)
  refine g_sta _ (fun W h => (ok_front (t := 1000) (t' := 100080) (ok_front (t := 1001) (t' := 100070) (ok_front (t := 1002) (t' := 100060) h rfl) rfl) rfl)) ?_
  refine g_v rfl (r_elemH (n := 0) Try.underlying144 Try.sizeOf3 rfl rfl (by decide) (by decide) rfl) ?_
  refine g_storeL (tag := 100100) rfl rfl rfl rfl Try.sizeOf3 rfl rfl ?_
  refine g_nil ?_
  refine d_normal_block ?_
  refine d_then ?_
  refine c_flat [(2, .pointer (some ⟨g1, 0, none⟩)), (4, .pointer (some ⟨g2, 0, none⟩)), (6, .pointer (some ⟨g4, 0, none⟩)), (7, .pointer (some ⟨g5, 0, none⟩)), (8, .pointer (some ⟨g6, 0, none⟩)), (9, .func (.func 103) #[] #[.pointer (some ⟨g6, 0, none⟩), .pointer (some ⟨g5, 0, none⟩)]), (10, .pointer (some ⟨g9, 0, none⟩)), (26, .int .i64 0)] ⟨rfl, rfl, rfl, rfl, rfl, rfl, rfl, rfl, trivial⟩ (fun u => ?_)
  refine c_sta ⟨w0, M, (100080, g6, .cells #[.func (.func 102) #[] #[.pointer (some ⟨g4, 0, none⟩), .pointer (some ⟨g5, 0, none⟩)]] 120 (0, 0)) :: (100070, g5, .cells #[.bool x11] 4 (0, 0)) :: (100060, g4, .cells #[.string x12] 9 (0, 0)) :: (100100, g9, .cells #[.int .i64 x10, .int .i64 0, .int .i64 0, .int .i64 0] 144 (0, 0)) :: (100040, g2, .cells #[.int .i64 0, .int .i64 0, .slice none 0 0, .string (⟨#[]⟩ : ByteArray), .int .i64 0, .int .i64 0, .slice none 0 0] 44 (0, 0)) :: (100020, g1, .cells #[.int .i64 p0.fTerm, .int .i64 p0.fVote, .slice Ap0_0 p0.fVoters.length cp0_0, .string p0.fSnap, .int .i64 p0.fLog.fBase, .int .i64 p0.fLog.fBaseTerm, .slice Ap0_1 p0.fLog.fEntries.length cp0_1] 44 (0, 0)) :: H, R, φ⟩ (fun _ h => h) ?_
  refine c_region ?_
  refine g_v rfl (r_add rfl rfl (show IntKind.i64.wrap (0 + 1) = 1 by decide)) ?_
  refine g_v rfl r_move ?_
  refine g_nil ?_
  refine d_rounds ?_
  refine c_flat [(2, .pointer (some ⟨g1, 0, none⟩)), (4, .pointer (some ⟨g2, 0, none⟩)), (6, .pointer (some ⟨g4, 0, none⟩)), (7, .pointer (some ⟨g5, 0, none⟩)), (8, .pointer (some ⟨g6, 0, none⟩)), (9, .func (.func 103) #[] #[.pointer (some ⟨g6, 0, none⟩), .pointer (some ⟨g5, 0, none⟩)]), (10, .pointer (some ⟨g9, 0, none⟩)), (26, .int .i64 1)] ⟨rfl, rfl, rfl, rfl, rfl, rfl, rfl, rfl, trivial⟩ (fun u => ?_)
  refine c_sta ⟨w0, M, (100080, g6, .cells #[.func (.func 102) #[] #[.pointer (some ⟨g4, 0, none⟩), .pointer (some ⟨g5, 0, none⟩)]] 120 (0, 0)) :: (100070, g5, .cells #[.bool x11] 4 (0, 0)) :: (100060, g4, .cells #[.string x12] 9 (0, 0)) :: (100100, g9, .cells #[.int .i64 x10, .int .i64 0, .int .i64 0, .int .i64 0] 144 (0, 0)) :: (100040, g2, .cells #[.int .i64 0, .int .i64 0, .slice none 0 0, .string (⟨#[]⟩ : ByteArray), .int .i64 0, .int .i64 0, .slice none 0 0] 44 (0, 0)) :: (100020, g1, .cells #[.int .i64 p0.fTerm, .int .i64 p0.fVote, .slice Ap0_0 p0.fVoters.length cp0_0, .string p0.fSnap, .int .i64 p0.fLog.fBase, .int .i64 p0.fLog.fBaseTerm, .slice Ap0_1 p0.fLog.fEntries.length cp0_1] 44 (0, 0)) :: H, R, φ⟩ (fun _ h => h) ?_
  refine c_seq ?_
  refine c_region ?_
  refine g_v rfl (r_lss rfl rfl) ?_
  refine g_nil ?_
  refine d_then ?_
  refine c_seq ?_
  refine c_cond1 rfl (by decide) ?_
  refine c_skip ?_
  refine d_then ?_
  refine c_seq ?_
  refine c_block ?_
  refine c_seq ?_
  refine c_region ?_
  refine g_v rfl r_move ?_
  refine g_v rfl r_assign ?_
  refine g_nil ?_
  refine d_then ?_
  refine c_region ?_
  refine g_v rfl r_move ?_
  refine g_v rfl r_move ?_
  replace hm := bnd hm
  obtain ⟨⟨x15, x16, x17⟩, hx18, hm⟩ := hm
  refine g_cnv ⟨w0, M, (1000, g6, .cells #[.func (.func 102) #[] #[.pointer (some ⟨g4, 0, none⟩), .pointer (some ⟨g5, 0, none⟩)]] 120 (0, 0)) :: (1001, g5, .cells #[.bool x11] 4 (0, 0)) :: (1002, g4, .cells #[.string x12] 9 (0, 0)) :: (100100, g9, .cells #[.int .i64 x10, .int .i64 0, .int .i64 0, .int .i64 0] 144 (0, 0)) :: (100040, g2, .cells #[.int .i64 0, .int .i64 0, .slice none 0 0, .string (⟨#[]⟩ : ByteArray), .int .i64 0, .int .i64 0, .slice none 0 0] 44 (0, 0)) :: (100020, g1, .cells #[.int .i64 p0.fTerm, .int .i64 p0.fVote, .slice Ap0_0 p0.fVoters.length cp0_0, .string p0.fSnap, .int .i64 p0.fLog.fBase, .int .i64 p0.fLog.fBaseTerm, .slice Ap0_1 p0.fLog.fEntries.length cp0_1] 44 (0, 0)) :: H, R, φ⟩ (fun W h => (ok_front (t := 100080) (t' := 1000) (ok_front (t := 100070) (t' := 1001) (ok_front (t := 100060) (t' := 1002) h rfl) rfl) rfl)) Try.call103 rfl rfl rfl (c_plog_read_c2 g6 g5 x11 g4 x12 _ hx18) (fun _ _ => ?_)
  refine g_sta _ (fun W h => (ok_front (t := 1000) (t' := 100080) (ok_front (t := 1001) (t' := 100070) (ok_front (t := 1002) (t' := 100060) h rfl) rfl) rfl)) ?_
  refine g_v rfl (r_elemH (n := 1) Try.underlying144 Try.sizeOf3 rfl rfl (by decide) (by decide) rfl) ?_
  refine g_storeL (tag := 100100) rfl rfl rfl rfl Try.sizeOf3 rfl rfl ?_
  refine g_nil ?_
  refine d_normal_block ?_
  refine d_then ?_
  refine c_region ?_
  refine g_v rfl (r_add rfl rfl (show IntKind.i64.wrap (1 + 1) = 2 by decide)) ?_
  refine g_v rfl r_move ?_
  refine g_nil ?_
  refine d_rounds ?_
  refine c_flat [(2, .pointer (some ⟨g1, 0, none⟩)), (4, .pointer (some ⟨g2, 0, none⟩)), (6, .pointer (some ⟨g4, 0, none⟩)), (7, .pointer (some ⟨g5, 0, none⟩)), (8, .pointer (some ⟨g6, 0, none⟩)), (9, .func (.func 103) #[] #[.pointer (some ⟨g6, 0, none⟩), .pointer (some ⟨g5, 0, none⟩)]), (10, .pointer (some ⟨g9, 0, none⟩)), (26, .int .i64 2)] ⟨rfl, rfl, rfl, rfl, rfl, rfl, rfl, rfl, trivial⟩ (fun u => ?_)
  refine c_sta ⟨w0, M, (100080, g6, .cells #[.func (.func 102) #[] #[.pointer (some ⟨g4, 0, none⟩), .pointer (some ⟨g5, 0, none⟩)]] 120 (0, 0)) :: (100070, g5, .cells #[.bool x16] 4 (0, 0)) :: (100060, g4, .cells #[.string x17] 9 (0, 0)) :: (100100, g9, .cells #[.int .i64 x10, .int .i64 x15, .int .i64 0, .int .i64 0] 144 (0, 0)) :: (100040, g2, .cells #[.int .i64 0, .int .i64 0, .slice none 0 0, .string (⟨#[]⟩ : ByteArray), .int .i64 0, .int .i64 0, .slice none 0 0] 44 (0, 0)) :: (100020, g1, .cells #[.int .i64 p0.fTerm, .int .i64 p0.fVote, .slice Ap0_0 p0.fVoters.length cp0_0, .string p0.fSnap, .int .i64 p0.fLog.fBase, .int .i64 p0.fLog.fBaseTerm, .slice Ap0_1 p0.fLog.fEntries.length cp0_1] 44 (0, 0)) :: H, R, φ⟩ (fun _ h => h) ?_
  refine c_seq ?_
  refine c_region ?_
  refine g_v rfl (r_lss rfl rfl) ?_
  refine g_nil ?_
  refine d_then ?_
  refine c_seq ?_
  refine c_cond1 rfl (by decide) ?_
  refine c_skip ?_
  refine d_then ?_
  refine c_seq ?_
  refine c_block ?_
  refine c_seq ?_
  refine c_region ?_
  refine g_v rfl r_move ?_
  refine g_v rfl r_assign ?_
  refine g_nil ?_
  refine d_then ?_
  refine c_region ?_
  refine g_v rfl r_move ?_
  refine g_v rfl r_move ?_
  replace hm := bnd hm
  obtain ⟨⟨x20, x21, x22⟩, hx23, hm⟩ := hm
  refine g_cnv ⟨w0, M, (1000, g6, .cells #[.func (.func 102) #[] #[.pointer (some ⟨g4, 0, none⟩), .pointer (some ⟨g5, 0, none⟩)]] 120 (0, 0)) :: (1001, g5, .cells #[.bool x16] 4 (0, 0)) :: (1002, g4, .cells #[.string x17] 9 (0, 0)) :: (100100, g9, .cells #[.int .i64 x10, .int .i64 x15, .int .i64 0, .int .i64 0] 144 (0, 0)) :: (100040, g2, .cells #[.int .i64 0, .int .i64 0, .slice none 0 0, .string (⟨#[]⟩ : ByteArray), .int .i64 0, .int .i64 0, .slice none 0 0] 44 (0, 0)) :: (100020, g1, .cells #[.int .i64 p0.fTerm, .int .i64 p0.fVote, .slice Ap0_0 p0.fVoters.length cp0_0, .string p0.fSnap, .int .i64 p0.fLog.fBase, .int .i64 p0.fLog.fBaseTerm, .slice Ap0_1 p0.fLog.fEntries.length cp0_1] 44 (0, 0)) :: H, R, φ⟩ (fun W h => (ok_front (t := 100080) (t' := 1000) (ok_front (t := 100070) (t' := 1001) (ok_front (t := 100060) (t' := 1002) h rfl) rfl) rfl)) Try.call103 rfl rfl rfl (c_plog_read_c2 g6 g5 x16 g4 x17 _ hx23) (fun _ _ => ?_)
  refine g_sta _ (fun W h => (ok_front (t := 1000) (t' := 100080) (ok_front (t := 1001) (t' := 100070) (ok_front (t := 1002) (t' := 100060) h rfl) rfl) rfl)) ?_
  refine g_v rfl (r_elemH (n := 2) Try.underlying144 Try.sizeOf3 rfl rfl (by decide) (by decide) rfl) ?_
  refine g_storeL (tag := 100100) rfl rfl rfl rfl Try.sizeOf3 rfl rfl ?_
  refine g_nil ?_
  refine d_normal_block ?_
  refine d_then ?_
  refine c_region ?_
  refine g_v rfl (r_add rfl rfl (show IntKind.i64.wrap (2 + 1) = 3 by decide)) ?_
  refine g_v rfl r_move ?_
  refine g_nil ?_
  refine d_rounds ?_
  refine c_flat [(2, .pointer (some ⟨g1, 0, none⟩)), (4, .pointer (some ⟨g2, 0, none⟩)), (6, .pointer (some ⟨g4, 0, none⟩)), (7, .pointer (some ⟨g5, 0, none⟩)), (8, .pointer (some ⟨g6, 0, none⟩)), (9, .func (.func 103) #[] #[.pointer (some ⟨g6, 0, none⟩), .pointer (some ⟨g5, 0, none⟩)]), (10, .pointer (some ⟨g9, 0, none⟩)), (26, .int .i64 3)] ⟨rfl, rfl, rfl, rfl, rfl, rfl, rfl, rfl, trivial⟩ (fun u => ?_)
  refine c_sta ⟨w0, M, (100080, g6, .cells #[.func (.func 102) #[] #[.pointer (some ⟨g4, 0, none⟩), .pointer (some ⟨g5, 0, none⟩)]] 120 (0, 0)) :: (100070, g5, .cells #[.bool x21] 4 (0, 0)) :: (100060, g4, .cells #[.string x22] 9 (0, 0)) :: (100100, g9, .cells #[.int .i64 x10, .int .i64 x15, .int .i64 x20, .int .i64 0] 144 (0, 0)) :: (100040, g2, .cells #[.int .i64 0, .int .i64 0, .slice none 0 0, .string (⟨#[]⟩ : ByteArray), .int .i64 0, .int .i64 0, .slice none 0 0] 44 (0, 0)) :: (100020, g1, .cells #[.int .i64 p0.fTerm, .int .i64 p0.fVote, .slice Ap0_0 p0.fVoters.length cp0_0, .string p0.fSnap, .int .i64 p0.fLog.fBase, .int .i64 p0.fLog.fBaseTerm, .slice Ap0_1 p0.fLog.fEntries.length cp0_1] 44 (0, 0)) :: H, R, φ⟩ (fun _ h => h) ?_
  refine c_seq ?_
  refine c_region ?_
  refine g_v rfl (r_lss rfl rfl) ?_
  refine g_nil ?_
  refine d_then ?_
  refine c_seq ?_
  refine c_cond1 rfl (by decide) ?_
  refine c_skip ?_
  refine d_then ?_
  refine c_seq ?_
  refine c_block ?_
  refine c_seq ?_
  refine c_region ?_
  refine g_v rfl r_move ?_
  refine g_v rfl r_assign ?_
  refine g_nil ?_
  refine d_then ?_
  refine c_region ?_
  refine g_v rfl r_move ?_
  refine g_v rfl r_move ?_
  replace hm := bnd hm
  obtain ⟨⟨x25, x26, x27⟩, hx28, hm⟩ := hm
  refine g_cnv ⟨w0, M, (1000, g6, .cells #[.func (.func 102) #[] #[.pointer (some ⟨g4, 0, none⟩), .pointer (some ⟨g5, 0, none⟩)]] 120 (0, 0)) :: (1001, g5, .cells #[.bool x21] 4 (0, 0)) :: (1002, g4, .cells #[.string x22] 9 (0, 0)) :: (100100, g9, .cells #[.int .i64 x10, .int .i64 x15, .int .i64 x20, .int .i64 0] 144 (0, 0)) :: (100040, g2, .cells #[.int .i64 0, .int .i64 0, .slice none 0 0, .string (⟨#[]⟩ : ByteArray), .int .i64 0, .int .i64 0, .slice none 0 0] 44 (0, 0)) :: (100020, g1, .cells #[.int .i64 p0.fTerm, .int .i64 p0.fVote, .slice Ap0_0 p0.fVoters.length cp0_0, .string p0.fSnap, .int .i64 p0.fLog.fBase, .int .i64 p0.fLog.fBaseTerm, .slice Ap0_1 p0.fLog.fEntries.length cp0_1] 44 (0, 0)) :: H, R, φ⟩ (fun W h => (ok_front (t := 100080) (t' := 1000) (ok_front (t := 100070) (t' := 1001) (ok_front (t := 100060) (t' := 1002) h rfl) rfl) rfl)) Try.call103 rfl rfl rfl (c_plog_read_c2 g6 g5 x21 g4 x22 _ hx28) (fun _ _ => ?_)
  refine g_sta _ (fun W h => (ok_front (t := 1000) (t' := 100080) (ok_front (t := 1001) (t' := 100070) (ok_front (t := 1002) (t' := 100060) h rfl) rfl) rfl)) ?_
  refine g_v rfl (r_elemH (n := 3) Try.underlying144 Try.sizeOf3 rfl rfl (by decide) (by decide) rfl) ?_
  refine g_storeL (tag := 100100) rfl rfl rfl rfl Try.sizeOf3 rfl rfl ?_
  refine g_nil ?_
  refine d_normal_block ?_
  refine d_then ?_
  refine c_region ?_
  refine g_v rfl (r_add rfl rfl (show IntKind.i64.wrap (3 + 1) = 4 by decide)) ?_
  refine g_v rfl r_move ?_
  refine g_nil ?_
  refine d_rounds ?_
  refine c_flat [(2, .pointer (some ⟨g1, 0, none⟩)), (4, .pointer (some ⟨g2, 0, none⟩)), (6, .pointer (some ⟨g4, 0, none⟩)), (7, .pointer (some ⟨g5, 0, none⟩)), (8, .pointer (some ⟨g6, 0, none⟩)), (9, .func (.func 103) #[] #[.pointer (some ⟨g6, 0, none⟩), .pointer (some ⟨g5, 0, none⟩)]), (10, .pointer (some ⟨g9, 0, none⟩)), (26, .int .i64 4)] ⟨rfl, rfl, rfl, rfl, rfl, rfl, rfl, rfl, trivial⟩ (fun u => ?_)
  refine c_sta ⟨w0, M, (100080, g6, .cells #[.func (.func 102) #[] #[.pointer (some ⟨g4, 0, none⟩), .pointer (some ⟨g5, 0, none⟩)]] 120 (0, 0)) :: (100070, g5, .cells #[.bool x26] 4 (0, 0)) :: (100060, g4, .cells #[.string x27] 9 (0, 0)) :: (100100, g9, .cells #[.int .i64 x10, .int .i64 x15, .int .i64 x20, .int .i64 x25] 144 (0, 0)) :: (100040, g2, .cells #[.int .i64 0, .int .i64 0, .slice none 0 0, .string (⟨#[]⟩ : ByteArray), .int .i64 0, .int .i64 0, .slice none 0 0] 44 (0, 0)) :: (100020, g1, .cells #[.int .i64 p0.fTerm, .int .i64 p0.fVote, .slice Ap0_0 p0.fVoters.length cp0_0, .string p0.fSnap, .int .i64 p0.fLog.fBase, .int .i64 p0.fLog.fBaseTerm, .slice Ap0_1 p0.fLog.fEntries.length cp0_1] 44 (0, 0)) :: H, R, φ⟩ (fun _ h => h) ?_
  refine c_seq ?_
  refine c_region ?_
  refine g_v rfl (r_lss rfl rfl) ?_
  refine g_nil ?_
  refine d_then ?_
  refine c_seq ?_
  refine c_cond0 rfl (by decide) ?_
  refine c_exit ?_
  refine d_exit_then ?_
  refine d_exit_then ?_
  refine d_exit_block ?_
  refine d_then ?_
  refine c_seq ?_
  refine c_region ?_
  refine g_v rfl (r_elemH (n := 0) Try.underlying144 Try.sizeOf3 rfl rfl (by decide) (by decide) rfl) ?_
  refine g_v rfl (r_load (tag := 100100) rfl rfl rfl Try.isAgg3) ?_
  refine g_v rfl (r_elemH (n := 1) Try.underlying144 Try.sizeOf3 rfl rfl (by decide) (by decide) rfl) ?_
  refine g_v rfl (r_load (tag := 100100) rfl rfl rfl Try.isAgg3) ?_
  refine g_v rfl (r_elemH (n := 2) Try.underlying144 Try.sizeOf3 rfl rfl (by decide) (by decide) rfl) ?_
  refine g_v rfl (r_load (tag := 100100) rfl rfl rfl Try.isAgg3) ?_
  refine g_v rfl (r_elemH (n := 3) Try.underlying144 Try.sizeOf3 rfl rfl (by decide) (by decide) rfl) ?_
  refine g_v rfl (r_load (tag := 100100) rfl rfl rfl Try.isAgg3) ?_
  refine g_v rfl (r_build _ rfl (bld26_0 _ _)) ?_
  refine g_v rfl (r_build _ rfl (bld44_1 _ _ _ _ _ _ _)) ?_
  refine g_storeL (tag := 100020) rfl rfl rfl rfl Try.sizeOf44 rfl rfl ?_
  refine g_nil ?_
  refine d_then ?_
  refine c_flat [(2, .pointer (some ⟨g1, 0, none⟩)), (4, .pointer (some ⟨g2, 0, none⟩)), (6, .pointer (some ⟨g4, 0, none⟩)), (7, .pointer (some ⟨g5, 0, none⟩)), (8, .pointer (some ⟨g6, 0, none⟩)), (9, .func (.func 103) #[] #[.pointer (some ⟨g6, 0, none⟩), .pointer (some ⟨g5, 0, none⟩)])] ⟨rfl, rfl, rfl, rfl, rfl, rfl, trivial⟩ (fun u => ?_)
  refine c_sta ⟨w0, M, (100080, g6, .cells #[.func (.func 102) #[] #[.pointer (some ⟨g4, 0, none⟩), .pointer (some ⟨g5, 0, none⟩)]] 120 (0, 0)) :: (100070, g5, .cells #[.bool x26] 4 (0, 0)) :: (100060, g4, .cells #[.string x27] 9 (0, 0)) :: (100100, g9, .cells #[.int .i64 x10, .int .i64 x15, .int .i64 x20, .int .i64 x25] 144 (0, 0)) :: (100040, g2, .cells #[.int .i64 0, .int .i64 0, .slice none 0 0, .string (⟨#[]⟩ : ByteArray), .int .i64 0, .int .i64 0, .slice none 0 0] 44 (0, 0)) :: (100020, g1, .cells #[.int .i64 x10, .int .i64 x15, .slice none 0 0, .string (⟨#[]⟩ : ByteArray), .int .i64 x20, .int .i64 x25, .slice none 0 0] 44 (0, 0)) :: H, R, φ⟩ (fun _ h => h) ?_
  refine c_seq ?_
  refine ga_start (n := 5) ⟨w0, M, (100080, g6, .cells #[.func (.func 102) #[] #[.pointer (some ⟨g4, 0, none⟩), .pointer (some ⟨g5, 0, none⟩)]] 120 (0, 0)) :: (100100, g9, .cells #[.int .i64 x10, .int .i64 x15, .int .i64 x20, .int .i64 x25] 144 (0, 0)) :: (100040, g2, .cells #[.int .i64 0, .int .i64 0, .slice none 0 0, .string (⟨#[]⟩ : ByteArray), .int .i64 0, .int .i64 0, .slice none 0 0] 44 (0, 0)) :: (100020, g1, .cells #[.int .i64 x10, .int .i64 x15, .slice none 0 0, .string (⟨#[]⟩ : ByteArray), .int .i64 x20, .int .i64 x25, .slice none 0 0] 44 (0, 0)) :: H, R, φ⟩ [] #[false, false, false, false, false] (fun W h => ((h.dropH (t := 100070) rfl).dropH (t := 100060) rfl).phi (fun W hφ => hφ)) mixed rfl rfl ?_
  refine ga_v (i := 0) #[true, false, false, false, false] rfl (by kernel_rfl) (fun _ _ _ _ h => h) rfl (r_load (tag := 100080) rfl rfl rfl Try.isAgg120) ?_
  refine ga_r (i := 1) #[true, true, false, false, false] rfl (by kernel_rfl) (by decide) rfl (r_move) ?_
  replace hm := bnd hm
  obtain ⟨⟨x50, x51, x52⟩, hx53, hm⟩ := hm
  refine ga_cn (first := #[]) (i := 2) #[true, true, true, false, false] rfl (by kernel_rfl) (by decide)  ⟨w0, M, (1000, g6, .cells #[.func (.func 102) #[] #[.pointer (some ⟨g4, 0, none⟩), .pointer (some ⟨g5, 0, none⟩)]] 120 (0, 0)) :: (1001, g5, .cells #[.bool x26] 4 (0, 0)) :: (1002, g4, .cells #[.string x27] 9 (0, 0)) :: (100100, g9, .cells #[.int .i64 x10, .int .i64 x15, .int .i64 x20, .int .i64 x25] 144 (0, 0)) :: (100040, g2, .cells #[.int .i64 0, .int .i64 0, .slice none 0 0, .string (⟨#[]⟩ : ByteArray), .int .i64 0, .int .i64 0, .slice none 0 0] 44 (0, 0)) :: (100020, g1, .cells #[.int .i64 x10, .int .i64 x15, .slice none 0 0, .string (⟨#[]⟩ : ByteArray), .int .i64 x20, .int .i64 x25, .slice none 0 0] 44 (0, 0)) :: H, R, φ⟩ (fun W h => (ok_front (t := 100080) (t' := 1000) (ok_front (t := 100070) (t' := 1001) (ok_front (t := 100060) (t' := 1002) h rfl) rfl) rfl)) Try.call103 rfl rfl rfl (c_plog_read_c2 g6 g5 x26 g4 x27 _ hx53) (fun _ W _ h => (((ok_front (t := 1000) (t' := 100080) (ok_front (t := 1001) (t' := 100070) (ok_front (t := 1002) (t' := 100060) h rfl) rfl) rfl).dropH (t := 100070) rfl).dropH (t := 100060) rfl).phi (fun W hφ => hφ)) (fun _ _ => ?_)
  refine ga_sta _ (fun W h => (ok_front (t := 1000) (t' := 100080) (ok_front (t := 1001) (t' := 100070) (ok_front (t := 1002) (t' := 100060) h rfl) rfl) rfl)) ?_
  replace hm := bnd hm
  obtain ⟨⟨x55, x56, x57⟩, hx58, hm⟩ := hm
  refine ga_cn (first := #[]) (i := 3) #[true, true, true, true, false] rfl (by kernel_rfl) (by decide)  ⟨w0, M, (1000, g4, .cells #[.string x52] 9 (0, 0)) :: (1001, g5, .cells #[.bool x51] 4 (0, 0)) :: (100080, g6, .cells #[.func (.func 102) #[] #[.pointer (some ⟨g4, 0, none⟩), .pointer (some ⟨g5, 0, none⟩)]] 120 (0, 0)) :: (100100, g9, .cells #[.int .i64 x10, .int .i64 x15, .int .i64 x20, .int .i64 x25] 144 (0, 0)) :: (100040, g2, .cells #[.int .i64 0, .int .i64 0, .slice none 0 0, .string (⟨#[]⟩ : ByteArray), .int .i64 0, .int .i64 0, .slice none 0 0] 44 (0, 0)) :: (100020, g1, .cells #[.int .i64 x10, .int .i64 x15, .slice none 0 0, .string (⟨#[]⟩ : ByteArray), .int .i64 x20, .int .i64 x25, .slice none 0 0] 44 (0, 0)) :: H, R, φ⟩ (fun W h => (ok_front (t := 100060) (t' := 1000) (ok_front (t := 100070) (t' := 1001) h rfl) rfl)) Try.call102 rfl rfl rfl (c_plog_read_c1 x50 g4 x52 g5 x51 _ hx58) (fun _ W _ h => (((ok_front (t := 1000) (t' := 100060) (ok_front (t := 1001) (t' := 100070) h rfl) rfl).dropH (t := 100060) rfl).dropH (t := 100070) rfl).phi (fun W hφ => hφ)) (fun _ _ => ?_)
  refine ga_sta _ (fun W h => (ok_front (t := 1000) (t' := 100060) (ok_front (t := 1001) (t' := 100070) h rfl) rfl)) ?_
  refine ga_r (i := 4) #[true, true, true, true, true] rfl (by kernel_rfl) (by decide) rfl (r_assign) ?_
  refine ga_done (by kernel_rfl) ?_
  refine d_then ?_
  refine c_seq ?_
  refine c_region ?_
  refine g_v rfl r_move ?_
  replace hm := bnd hm
  obtain ⟨⟨x60, x61⟩, hx62, hm⟩ := hm
  refine g_cn ⟨w0, M, _, _, φ⟩ (fun _ h => h) Try.call23 rfl rfl (c_plog_List x55 _ hx62) (fun ⟨A63, c64⟩ hc64 => ?_)
  refine g_sta _ (fun W h => (ok_frontR (t := 2000) (t' := 100500) h rfl)) ?_
  refine g_v rfl r_move ?_
  refine g_v rfl (r_extract rfl rfl) ?_
  refine g_v rfl (r_extract rfl rfl) ?_
  refine g_v rfl r_assign ?_
  refine g_v rfl r_assign ?_
  refine g_nil ?_
  refine d_then ?_
  refine c_flat [(2, .pointer (some ⟨g1, 0, none⟩)), (4, .pointer (some ⟨g2, 0, none⟩)), (6, .pointer (some ⟨g4, 0, none⟩)), (7, .pointer (some ⟨g5, 0, none⟩)), (8, .pointer (some ⟨g6, 0, none⟩)), (9, .func (.func 103) #[] #[.pointer (some ⟨g6, 0, none⟩), .pointer (some ⟨g5, 0, none⟩)]), (12, .string x55), (13, .slice A63 x60.length c64), (14, .bool x61)] ⟨rfl, rfl, rfl, rfl, rfl, rfl, rfl, rfl, rfl, trivial⟩ (fun u => ?_)
  refine c_sta ⟨w0, M, (100060, g4, .cells #[.string x56] 9 (0, 0)) :: (100070, g5, .cells #[.bool x57] 4 (0, 0)) :: (100080, g6, .cells #[.func (.func 102) #[] #[.pointer (some ⟨g4, 0, none⟩), .pointer (some ⟨g5, 0, none⟩)]] 120 (0, 0)) :: (100100, g9, .cells #[.int .i64 x10, .int .i64 x15, .int .i64 x20, .int .i64 x25] 144 (0, 0)) :: (100040, g2, .cells #[.int .i64 0, .int .i64 0, .slice none 0 0, .string (⟨#[]⟩ : ByteArray), .int .i64 0, .int .i64 0, .slice none 0 0] 44 (0, 0)) :: (100020, g1, .cells #[.int .i64 x10, .int .i64 x15, .slice none 0 0, .string (⟨#[]⟩ : ByteArray), .int .i64 x20, .int .i64 x25, .slice none 0 0] 44 (0, 0)) :: H, (100500, ⟨.slice A63 x60.length c64, 3, 1, x60.length, x60.flatMap (fun x : Int => [Value.int .i64 x])⟩) :: R, φ⟩ (fun _ h => h) ?_
  refine c_seq ?_
  refine c_region ?_
  refine g_v rfl r_move ?_
  refine g_v rfl (r_field (n := 2) Try.underlying44 rfl Try.sizeOf42 rfl rfl) ?_
  refine g_storeL (tag := 100020) rfl rfl rfl rfl Try.sizeOf42 rfl rfl ?_
  refine g_nil ?_
  refine d_then ?_
  refine c_seq ?_
  refine ga_start (n := 6) ⟨w0, M, (100080, g6, .cells #[.func (.func 102) #[] #[.pointer (some ⟨g4, 0, none⟩), .pointer (some ⟨g5, 0, none⟩)]] 120 (0, 0)) :: (100100, g9, .cells #[.int .i64 x10, .int .i64 x15, .int .i64 x20, .int .i64 x25] 144 (0, 0)) :: (100040, g2, .cells #[.int .i64 0, .int .i64 0, .slice none 0 0, .string (⟨#[]⟩ : ByteArray), .int .i64 0, .int .i64 0, .slice none 0 0] 44 (0, 0)) :: (100020, g1, .cells #[.int .i64 x10, .int .i64 x15, .slice A63 x60.length c64, .string (⟨#[]⟩ : ByteArray), .int .i64 x20, .int .i64 x25, .slice none 0 0] 44 (0, 0)) :: H, (100500, ⟨.slice A63 x60.length c64, 3, 1, x60.length, x60.flatMap (fun x : Int => [Value.int .i64 x])⟩) :: R, φ⟩ [5] #[false, false, false, false, false, false] (fun W h => ((h.dropH (t := 100060) rfl).dropH (t := 100070) rfl).phi (fun W hφ => hφ)) mixed rfl rfl ?_
  refine ga_v (i := 0) #[true, false, false, false, false, false] rfl (by kernel_rfl) (fun _ _ _ _ h => h) rfl (r_load (tag := 100080) rfl rfl rfl Try.isAgg120) ?_
  refine ga_r (i := 1) #[true, true, false, false, false, false] rfl (by kernel_rfl) (by decide) rfl (r_move) ?_
  replace hm := bnd hm
  obtain ⟨⟨x87, x88, x89⟩, hx90, hm⟩ := hm
  refine ga_cn (first := #[]) (i := 2) #[true, true, true, false, false, false] rfl (by kernel_rfl) (by decide)  ⟨w0, M, (1000, g6, .cells #[.func (.func 102) #[] #[.pointer (some ⟨g4, 0, none⟩), .pointer (some ⟨g5, 0, none⟩)]] 120 (0, 0)) :: (1001, g5, .cells #[.bool x57] 4 (0, 0)) :: (1002, g4, .cells #[.string x56] 9 (0, 0)) :: (100100, g9, .cells #[.int .i64 x10, .int .i64 x15, .int .i64 x20, .int .i64 x25] 144 (0, 0)) :: (100040, g2, .cells #[.int .i64 0, .int .i64 0, .slice none 0 0, .string (⟨#[]⟩ : ByteArray), .int .i64 0, .int .i64 0, .slice none 0 0] 44 (0, 0)) :: (100020, g1, .cells #[.int .i64 x10, .int .i64 x15, .slice A63 x60.length c64, .string (⟨#[]⟩ : ByteArray), .int .i64 x20, .int .i64 x25, .slice none 0 0] 44 (0, 0)) :: H, (100500, ⟨.slice A63 x60.length c64, 3, 1, x60.length, x60.flatMap (fun x : Int => [Value.int .i64 x])⟩) :: R, φ⟩ (fun W h => (ok_front (t := 100080) (t' := 1000) (ok_front (t := 100070) (t' := 1001) (ok_front (t := 100060) (t' := 1002) h rfl) rfl) rfl)) Try.call103 rfl rfl rfl (c_plog_read_c2 g6 g5 x57 g4 x56 _ hx90) (fun _ W _ h => (((ok_front (t := 1000) (t' := 100080) (ok_front (t := 1001) (t' := 100070) (ok_front (t := 1002) (t' := 100060) h rfl) rfl) rfl).dropH (t := 100070) rfl).dropH (t := 100060) rfl).phi (fun W hφ => hφ)) (fun _ _ => ?_)
  refine ga_sta _ (fun W h => (ok_front (t := 1000) (t' := 100080) (ok_front (t := 1001) (t' := 100070) (ok_front (t := 1002) (t' := 100060) h rfl) rfl) rfl)) ?_
  replace hm := bnd hm
  obtain ⟨⟨x92, x93, x94⟩, hx95, hm⟩ := hm
  refine ga_cn (first := #[]) (i := 3) #[true, true, true, true, false, false] rfl (by kernel_rfl) (by decide)  ⟨w0, M, (1000, g4, .cells #[.string x89] 9 (0, 0)) :: (1001, g5, .cells #[.bool x88] 4 (0, 0)) :: (100080, g6, .cells #[.func (.func 102) #[] #[.pointer (some ⟨g4, 0, none⟩), .pointer (some ⟨g5, 0, none⟩)]] 120 (0, 0)) :: (100100, g9, .cells #[.int .i64 x10, .int .i64 x15, .int .i64 x20, .int .i64 x25] 144 (0, 0)) :: (100040, g2, .cells #[.int .i64 0, .int .i64 0, .slice none 0 0, .string (⟨#[]⟩ : ByteArray), .int .i64 0, .int .i64 0, .slice none 0 0] 44 (0, 0)) :: (100020, g1, .cells #[.int .i64 x10, .int .i64 x15, .slice A63 x60.length c64, .string (⟨#[]⟩ : ByteArray), .int .i64 x20, .int .i64 x25, .slice none 0 0] 44 (0, 0)) :: H, (100500, ⟨.slice A63 x60.length c64, 3, 1, x60.length, x60.flatMap (fun x : Int => [Value.int .i64 x])⟩) :: R, φ⟩ (fun W h => (ok_front (t := 100060) (t' := 1000) (ok_front (t := 100070) (t' := 1001) h rfl) rfl)) Try.call102 rfl rfl rfl (c_plog_read_c1 x87 g4 x89 g5 x88 _ hx95) (fun _ W _ h => (((ok_front (t := 1000) (t' := 100060) (ok_front (t := 1001) (t' := 100070) h rfl) rfl).dropH (t := 100060) rfl).dropH (t := 100070) rfl).phi (fun W hφ => hφ)) (fun _ _ => ?_)
  refine ga_sta _ (fun W h => (ok_front (t := 1000) (t' := 100060) (ok_front (t := 1001) (t' := 100070) h rfl) rfl)) ?_
  refine ga_r (i := 4) #[true, true, true, true, true, false] rfl (by kernel_rfl) (by decide) rfl (r_field (n := 3) Try.underlying44 rfl Try.sizeOf9 rfl rfl) ?_
  refine ga_lastL (i := 5) (tag := 100020) #[true, true, true, true, true, true] rfl (by kernel_rfl) (by decide) rfl rfl rfl rfl Try.sizeOf9 rfl rfl ?_
  refine gz_done (by kernel_rfl) ?_
  refine d_then ?_
  refine c_flat [(2, .pointer (some ⟨g1, 0, none⟩)), (4, .pointer (some ⟨g2, 0, none⟩)), (6, .pointer (some ⟨g4, 0, none⟩)), (7, .pointer (some ⟨g5, 0, none⟩)), (12, .string x55), (14, .bool x61)] ⟨rfl, rfl, rfl, rfl, rfl, rfl, trivial⟩ (fun u => ?_)
  refine c_sta ⟨w0, M, (100060, g4, .cells #[.string x93] 9 (0, 0)) :: (100070, g5, .cells #[.bool x94] 4 (0, 0)) :: (100080, g6, .cells #[.func (.func 102) #[] #[.pointer (some ⟨g4, 0, none⟩), .pointer (some ⟨g5, 0, none⟩)]] 120 (0, 0)) :: (100100, g9, .cells #[.int .i64 x10, .int .i64 x15, .int .i64 x20, .int .i64 x25] 144 (0, 0)) :: (100040, g2, .cells #[.int .i64 0, .int .i64 0, .slice none 0 0, .string (⟨#[]⟩ : ByteArray), .int .i64 0, .int .i64 0, .slice none 0 0] 44 (0, 0)) :: (100020, g1, .cells #[.int .i64 x10, .int .i64 x15, .slice A63 x60.length c64, .string x92, .int .i64 x20, .int .i64 x25, .slice none 0 0] 44 (0, 0)) :: H, (100500, ⟨.slice A63 x60.length c64, 3, 1, x60.length, x60.flatMap (fun x : Int => [Value.int .i64 x])⟩) :: R, φ⟩ (fun _ h => h) ?_
  refine c_seq ?_
  refine ga_start (n := 22) ⟨w0, M, (100060, g4, .cells #[.string x93] 9 (0, 0)) :: (100070, g5, .cells #[.bool x94] 4 (0, 0)) :: (100080, g6, .cells #[.func (.func 102) #[] #[.pointer (some ⟨g4, 0, none⟩), .pointer (some ⟨g5, 0, none⟩)]] 120 (0, 0)) :: (100100, g9, .cells #[.int .i64 x10, .int .i64 x15, .int .i64 x20, .int .i64 x25] 144 (0, 0)) :: (100020, g1, .cells #[.int .i64 x10, .int .i64 x15, .slice A63 x60.length c64, .string x92, .int .i64 x20, .int .i64 x25, .slice none 0 0] 44 (0, 0)) :: H, (100500, ⟨.slice A63 x60.length c64, 3, 1, x60.length, x60.flatMap (fun x : Int => [Value.int .i64 x])⟩) :: R, φ⟩ [] #[false, false, false, false, false, false, false, false, false, false, false, false, false, false, false, false, false, false, false, false, false, false] (fun W h => (h.dropH (t := 100040) rfl).phi (fun W hφ => hφ)) mixed rfl rfl ?_
  refine ga_v (i := 0) #[true, false, false, false, false, false, false, false, false, false, false, false, false, false, false, false, false, false, false, false, false, false] rfl (by kernel_rfl) (fun _ _ _ _ h => h) rfl (r_loadA (tag := 100020) rfl rfl Try.isAgg44 Try.sizeOf44 rfl rfl) ?_
  refine ga_r (i := 1) #[true, true, false, false, false, false, false, false, false, false, false, false, false, false, false, false, false, false, false, false, false, false] rfl (by kernel_rfl) (by decide) rfl (r_load (tag := 100070) rfl rfl rfl Try.isAgg4) ?_
  refine ga_r (i := 2) #[true, true, true, false, false, false, false, false, false, false, false, false, false, false, false, false, false, false, false, false, false, false] rfl (by kernel_rfl) (by decide) rfl (r_not rfl) ?_
  refine ga_r (i := 3) #[true, true, true, true, false, false, false, false, false, false, false, false, false, false, false, false, false, false, false, false, false, false] rfl (by kernel_rfl) (by decide) rfl (r_move) ?_
  refine ga_if (t := 63) rfl (fun h105 => ?_) (fun h105 => ?_)
  ·
   have h105' : x94 = false := by revert h105; cases x94 <;> simp
   replace hm := ite_f hm (bool_nt h105')
   refine ga_rG (i := 4) #[true, true, true, true, true, false, false, false, false, false, false, false, false, false, false, false, false, false, false, false, false, false] rfl (by kernel_rfl) (by decide) rfl rfl rfl rfl rfl h105 (r_load (tag := 100060) rfl rfl rfl Try.isAgg9) ?_
   refine ga_rG (i := 5) #[true, true, true, true, true, true, false, false, false, false, false, false, false, false, false, false, false, false, false, false, false, false] rfl (by kernel_rfl) (by decide) rfl rfl rfl rfl rfl h105 (r_eqlT rfl rfl) ?_
   refine ga_r (i := 6) #[true, true, true, true, true, true, true, false, false, false, false, false, false, false, false, false, false, false, false, false, false, false] rfl (by kernel_rfl) (by decide) rfl (r_pick1 rfl h105) ?_
   refine ga_r (i := 7) #[true, true, true, true, true, true, true, true, false, false, false, false, false, false, false, false, false, false, false, false, false, false] rfl (by kernel_rfl) (by decide) rfl (r_move) ?_
   refine ga_if (t := 67) rfl (fun h106 => ?_) (fun h106 => ?_)
   ·
    replace hm := ite_t hm (of_decide_eq_true h106)
    refine ga_rG (i := 8) #[true, true, true, true, true, true, true, true, true, false, false, false, false, false, false, false, false, false, false, false, false, false] rfl (by kernel_rfl) (by decide) rfl rfl rfl rfl rfl h106 (r_move) ?_
    refine ga_rG (i := 9) #[true, true, true, true, true, true, true, true, true, true, false, false, false, false, false, false, false, false, false, false, false, false] rfl (by kernel_rfl) (by decide) rfl rfl rfl rfl rfl h106 (r_move) ?_
    refine ga_if (t := 69) rfl (fun h107 => ?_) (fun h107 => ?_)
    ·
     replace hm := ite_t hm h107
     refine ga_no (i := 10) #[true, true, true, true, true, true, true, true, true, true, true, false, false, false, false, false, false, false, false, false, false, false] rfl (by kernel_rfl) (fun _ _ _ _ h => h) rfl rfl rfl rfl rfl h107 ?_
     refine ga_no (i := 11) #[true, true, true, true, true, true, true, true, true, true, true, true, false, false, false, false, false, false, false, false, false, false] rfl (by kernel_rfl) (fun _ _ _ _ h => h) rfl rfl rfl rfl rfl h107 ?_
     refine ga_rG (i := 12) #[true, true, true, true, true, true, true, true, true, true, true, true, true, false, false, false, false, false, false, false, false, false] rfl (by kernel_rfl) (by decide) rfl rfl rfl rfl rfl h106 (r_pick1 rfl h107) ?_
     refine ga_r (i := 13) #[true, true, true, true, true, true, true, true, true, true, true, true, true, true, false, false, false, false, false, false, false, false] rfl (by kernel_rfl) (by decide) rfl (r_pick1 rfl h106) ?_
     refine ga_r (i := 14) #[true, true, true, true, true, true, true, true, true, true, true, true, true, true, true, false, false, false, false, false, false, false] rfl (by kernel_rfl) (by decide) rfl (r_move) ?_
     refine ga_do (i := 15) #[true, true, true, true, true, true, true, true, true, true, true, true, true, true, true, true, false, false, false, false, false, false] rfl (by kernel_rfl) (fun _ _ _ _ h => h) rfl rfl rfl rfl rfl rfl (r_field (n := 3) Try.underlying44 rfl Try.sizeOf9 rfl rfl) ?_
     refine ga_do (i := 16) #[true, true, true, true, true, true, true, true, true, true, true, true, true, true, true, true, true, false, false, false, false, false] rfl (by kernel_rfl) (fun _ _ _ _ h => h) rfl rfl rfl rfl rfl rfl (r_load (tag := 100020) rfl rfl rfl Try.isAgg9) ?_
     refine ga_do (i := 17) #[true, true, true, true, true, true, true, true, true, true, true, true, true, true, true, true, true, true, false, false, false, false] rfl (by kernel_rfl) (fun _ _ _ _ h => h) rfl rfl rfl rfl rfl rfl (r_len Try.underlying9 rfl) ?_
     refine ga_do (i := 18) #[true, true, true, true, true, true, true, true, true, true, true, true, true, true, true, true, true, true, true, false, false, false] rfl (by kernel_rfl) (fun _ _ _ _ h => h) rfl rfl rfl rfl rfl rfl (r_leq rfl rfl) ?_
     refine ga_v (i := 19) #[true, true, true, true, true, true, true, true, true, true, true, true, true, true, true, true, true, true, true, true, false, false] rfl (by kernel_rfl) (fun _ _ _ _ h => h) rfl (r_pick1 rfl rfl) ?_
     refine ga_storeN (i := 20) (tag := 100040) #[true, true, true, true, true, true, true, true, true, true, true, true, true, true, true, true, true, true, true, true, true, false] rfl (by kernel_rfl) (by decide) rfl rfl rfl rfl Try.sizeOf44 rfl rfl (fun W h => (h.dropH (t := 100040) rfl).phi (fun W hφ => hφ)) ?_
     refine ga_r (i := 21) #[true, true, true, true, true, true, true, true, true, true, true, true, true, true, true, true, true, true, true, true, true, true] rfl (by kernel_rfl) (by decide) rfl (r_assign) ?_
     refine ga_done (by kernel_rfl) ?_
     refine d_then ?_
     refine c_flat [(4, .pointer (some ⟨g2, 0, none⟩)), (5, .bool (decide ((x92.size : Int) ≤ 50000)))] ⟨rfl, rfl, trivial⟩ (fun u => ?_)
     refine c_sta ⟨w0, M, (100060, g4, .cells #[.string x93] 9 (0, 0)) :: (100070, g5, .cells #[.bool x94] 4 (0, 0)) :: (100080, g6, .cells #[.func (.func 102) #[] #[.pointer (some ⟨g4, 0, none⟩), .pointer (some ⟨g5, 0, none⟩)]] 120 (0, 0)) :: (100100, g9, .cells #[.int .i64 x10, .int .i64 x15, .int .i64 x20, .int .i64 x25] 144 (0, 0)) :: (100040, g2, .cells #[.int .i64 x10, .int .i64 x15, .slice A63 x60.length c64, .string x92, .int .i64 x20, .int .i64 x25, .slice none 0 0] 44 (0, 0)) :: (100020, g1, .cells #[.int .i64 x10, .int .i64 x15, .slice A63 x60.length c64, .string x92, .int .i64 x20, .int .i64 x25, .slice none 0 0] 44 (0, 0)) :: H, (100500, ⟨.slice A63 x60.length c64, 3, 1, x60.length, x60.flatMap (fun x : Int => [Value.int .i64 x])⟩) :: R, φ⟩ (fun _ h => h) ?_
     refine c_ret ?_
     refine d_ret_block ?_
     refine d_ret_then ?_
     replace hm := Option.some.inj hm
     subst hm
     refine d_shut (tag := 100500) rfl (fun φ108 q108' => ?_)
     have q108 : ∀ W, φ108 W → φ W := fun W h => (q108' W h).1
     have f109 := fun (W : World) (h : φ108 W) => (q108' W h).2
     refine d_retC (A63, c64, none, 0) Try.results93 ?_ ⟨hc64, (Nat.le_refl 0)⟩ (fun W h => ok_pre (H1 := [_, _, _, _, _, _]) (R1 := []) h (fun W hφ => ⟨(q108 _ hφ), (fun W h => f109 W h) W hφ, (fun W _ => Cl.nil _ _) W hφ⟩)) (.inr rfl)
     refine res_agg (tag := 100040) rfl rfl Try.isAgg44 Try.sizeOf44 ?_
     refine res_tmp ?_
     refine res_nil ?_
     exact rfl
    ·
     replace hm := ite_f hm (bool_nt h107)
     refine ga_rG (i := 10) #[true, true, true, true, true, true, true, true, true, true, true, false, false, false, false, false, false, false, false, false, false, false] rfl (by kernel_rfl) (by decide) rfl rfl rfl rfl rfl h107 (r_move) ?_
     refine ga_rG (i := 11) #[true, true, true, true, true, true, true, true, true, true, true, true, false, false, false, false, false, false, false, false, false, false] rfl (by kernel_rfl) (by decide) rfl rfl rfl rfl rfl h107 (r_eqlT rfl rfl) ?_
     refine ga_rG (i := 12) #[true, true, true, true, true, true, true, true, true, true, true, true, true, false, false, false, false, false, false, false, false, false] rfl (by kernel_rfl) (by decide) rfl rfl rfl rfl rfl h106 (r_pick0 rfl h107) ?_
     refine ga_r (i := 13) #[true, true, true, true, true, true, true, true, true, true, true, true, true, true, false, false, false, false, false, false, false, false] rfl (by kernel_rfl) (by decide) rfl (r_pick1 rfl h106) ?_
     refine ga_r (i := 14) #[true, true, true, true, true, true, true, true, true, true, true, true, true, true, true, false, false, false, false, false, false, false] rfl (by kernel_rfl) (by decide) rfl (r_move) ?_
     refine ga_if (t := 74) rfl (fun h110 => ?_) (fun h110 => ?_)
     ·
      replace hm := ite_t hm (of_decide_eq_true h110)
      refine ga_do (i := 15) #[true, true, true, true, true, true, true, true, true, true, true, true, true, true, true, true, false, false, false, false, false, false] rfl (by kernel_rfl) (fun _ _ _ _ h => h) rfl rfl rfl rfl rfl h110 (r_field (n := 3) Try.underlying44 rfl Try.sizeOf9 rfl rfl) ?_
      refine ga_do (i := 16) #[true, true, true, true, true, true, true, true, true, true, true, true, true, true, true, true, true, false, false, false, false, false] rfl (by kernel_rfl) (fun _ _ _ _ h => h) rfl rfl rfl rfl rfl h110 (r_load (tag := 100020) rfl rfl rfl Try.isAgg9) ?_
      refine ga_do (i := 17) #[true, true, true, true, true, true, true, true, true, true, true, true, true, true, true, true, true, true, false, false, false, false] rfl (by kernel_rfl) (fun _ _ _ _ h => h) rfl rfl rfl rfl rfl h110 (r_len Try.underlying9 rfl) ?_
      refine ga_do (i := 18) #[true, true, true, true, true, true, true, true, true, true, true, true, true, true, true, true, true, true, true, false, false, false] rfl (by kernel_rfl) (fun _ _ _ _ h => h) rfl rfl rfl rfl rfl h110 (r_leq rfl rfl) ?_
      refine ga_v (i := 19) #[true, true, true, true, true, true, true, true, true, true, true, true, true, true, true, true, true, true, true, true, false, false] rfl (by kernel_rfl) (fun _ _ _ _ h => h) rfl (r_pick1 rfl h110) ?_
      refine ga_storeN (i := 20) (tag := 100040) #[true, true, true, true, true, true, true, true, true, true, true, true, true, true, true, true, true, true, true, true, true, false] rfl (by kernel_rfl) (by decide) rfl rfl rfl rfl Try.sizeOf44 rfl rfl (fun W h => (h.dropH (t := 100040) rfl).phi (fun W hφ => hφ)) ?_
      refine ga_r (i := 21) #[true, true, true, true, true, true, true, true, true, true, true, true, true, true, true, true, true, true, true, true, true, true] rfl (by kernel_rfl) (by decide) rfl (r_assign) ?_
      refine ga_done (by kernel_rfl) ?_
      refine d_then ?_
      refine c_flat [(4, .pointer (some ⟨g2, 0, none⟩)), (5, .bool (decide ((x92.size : Int) ≤ 50000)))] ⟨rfl, rfl, trivial⟩ (fun u => ?_)
      refine c_sta ⟨w0, M, (100060, g4, .cells #[.string x93] 9 (0, 0)) :: (100070, g5, .cells #[.bool x94] 4 (0, 0)) :: (100080, g6, .cells #[.func (.func 102) #[] #[.pointer (some ⟨g4, 0, none⟩), .pointer (some ⟨g5, 0, none⟩)]] 120 (0, 0)) :: (100100, g9, .cells #[.int .i64 x10, .int .i64 x15, .int .i64 x20, .int .i64 x25] 144 (0, 0)) :: (100040, g2, .cells #[.int .i64 x10, .int .i64 x15, .slice A63 x60.length c64, .string x92, .int .i64 x20, .int .i64 x25, .slice none 0 0] 44 (0, 0)) :: (100020, g1, .cells #[.int .i64 x10, .int .i64 x15, .slice A63 x60.length c64, .string x92, .int .i64 x20, .int .i64 x25, .slice none 0 0] 44 (0, 0)) :: H, (100500, ⟨.slice A63 x60.length c64, 3, 1, x60.length, x60.flatMap (fun x : Int => [Value.int .i64 x])⟩) :: R, φ⟩ (fun _ h => h) ?_
      refine c_ret ?_
      refine d_ret_block ?_
      refine d_ret_then ?_
      replace hm := Option.some.inj hm
      subst hm
      refine d_shut (tag := 100500) rfl (fun φ111 q111' => ?_)
      have q111 : ∀ W, φ111 W → φ W := fun W h => (q111' W h).1
      have f112 := fun (W : World) (h : φ111 W) => (q111' W h).2
      refine d_retC (A63, c64, none, 0) Try.results93 ?_ ⟨hc64, (Nat.le_refl 0)⟩ (fun W h => ok_pre (H1 := [_, _, _, _, _, _]) (R1 := []) h (fun W hφ => ⟨(q111 _ hφ), (fun W h => f112 W h) W hφ, (fun W _ => Cl.nil _ _) W hφ⟩)) (.inr rfl)
      refine res_agg (tag := 100040) rfl rfl Try.isAgg44 Try.sizeOf44 ?_
      refine res_tmp ?_
      refine res_nil ?_
      exact rfl
     ·
      replace hm := ite_f hm (of_decide_eq_false h110)
      refine ga_no (i := 15) #[true, true, true, true, true, true, true, true, true, true, true, true, true, true, true, true, false, false, false, false, false, false] rfl (by kernel_rfl) (fun _ _ _ _ h => h) rfl rfl rfl rfl rfl h110 ?_
      refine ga_no (i := 16) #[true, true, true, true, true, true, true, true, true, true, true, true, true, true, true, true, true, false, false, false, false, false] rfl (by kernel_rfl) (fun _ _ _ _ h => h) rfl rfl rfl rfl rfl h110 ?_
      refine ga_no (i := 17) #[true, true, true, true, true, true, true, true, true, true, true, true, true, true, true, true, true, true, false, false, false, false] rfl (by kernel_rfl) (fun _ _ _ _ h => h) rfl rfl rfl rfl rfl h110 ?_
      refine ga_no (i := 18) #[true, true, true, true, true, true, true, true, true, true, true, true, true, true, true, true, true, true, true, false, false, false] rfl (by kernel_rfl) (fun _ _ _ _ h => h) rfl rfl rfl rfl rfl h110 ?_
      refine ga_v (i := 19) #[true, true, true, true, true, true, true, true, true, true, true, true, true, true, true, true, true, true, true, true, false, false] rfl (by kernel_rfl) (fun _ _ _ _ h => h) rfl (r_pick0 rfl h110) ?_
      refine ga_storeN (i := 20) (tag := 100040) #[true, true, true, true, true, true, true, true, true, true, true, true, true, true, true, true, true, true, true, true, true, false] rfl (by kernel_rfl) (by decide) rfl rfl rfl rfl Try.sizeOf44 rfl rfl (fun W h => (h.dropH (t := 100040) rfl).phi (fun W hφ => hφ)) ?_
      refine ga_r (i := 21) #[true, true, true, true, true, true, true, true, true, true, true, true, true, true, true, true, true, true, true, true, true, true] rfl (by kernel_rfl) (by decide) rfl (r_assign) ?_
      refine ga_done (by kernel_rfl) ?_
      refine d_then ?_
      refine c_flat [(4, .pointer (some ⟨g2, 0, none⟩)), (5, .bool false)] ⟨rfl, rfl, trivial⟩ (fun u => ?_)
      refine c_sta ⟨w0, M, (100060, g4, .cells #[.string x93] 9 (0, 0)) :: (100070, g5, .cells #[.bool x94] 4 (0, 0)) :: (100080, g6, .cells #[.func (.func 102) #[] #[.pointer (some ⟨g4, 0, none⟩), .pointer (some ⟨g5, 0, none⟩)]] 120 (0, 0)) :: (100100, g9, .cells #[.int .i64 x10, .int .i64 x15, .int .i64 x20, .int .i64 x25] 144 (0, 0)) :: (100040, g2, .cells #[.int .i64 x10, .int .i64 x15, .slice A63 x60.length c64, .string x92, .int .i64 x20, .int .i64 x25, .slice none 0 0] 44 (0, 0)) :: (100020, g1, .cells #[.int .i64 x10, .int .i64 x15, .slice A63 x60.length c64, .string x92, .int .i64 x20, .int .i64 x25, .slice none 0 0] 44 (0, 0)) :: H, (100500, ⟨.slice A63 x60.length c64, 3, 1, x60.length, x60.flatMap (fun x : Int => [Value.int .i64 x])⟩) :: R, φ⟩ (fun _ h => h) ?_
      refine c_ret ?_
      refine d_ret_block ?_
      refine d_ret_then ?_
      replace hm := Option.some.inj hm
      subst hm
      refine d_shut (tag := 100500) rfl (fun φ113 q113' => ?_)
      have q113 : ∀ W, φ113 W → φ W := fun W h => (q113' W h).1
      have f114 := fun (W : World) (h : φ113 W) => (q113' W h).2
      refine d_retC (A63, c64, none, 0) Try.results93 ?_ ⟨hc64, (Nat.le_refl 0)⟩ (fun W h => ok_pre (H1 := [_, _, _, _, _, _]) (R1 := []) h (fun W hφ => ⟨(q113 _ hφ), (fun W h => f114 W h) W hφ, (fun W _ => Cl.nil _ _) W hφ⟩)) (.inr rfl)
      refine res_agg (tag := 100040) rfl rfl Try.isAgg44 Try.sizeOf44 ?_
      refine res_tmp ?_
      refine res_nil ?_
      exact rfl
   ·
    replace hm := ite_f hm (of_decide_eq_false h106)
    refine ga_no (i := 8) #[true, true, true, true, true, true, true, true, true, false, false, false, false, false, false, false, false, false, false, false, false, false] rfl (by kernel_rfl) (fun _ _ _ _ h => h) rfl rfl rfl rfl rfl h106 ?_
    refine ga_no (i := 9) #[true, true, true, true, true, true, true, true, true, true, false, false, false, false, false, false, false, false, false, false, false, false] rfl (by kernel_rfl) (fun _ _ _ _ h => h) rfl rfl rfl rfl rfl h106 ?_
    refine ga_nu (i := 10) #[true, true, true, true, true, true, true, true, true, true, true, false, false, false, false, false, false, false, false, false, false, false] rfl (by kernel_rfl) (fun _ _ _ _ h => h) rfl rfl rfl rfl rfl ?_
    refine ga_nu (i := 11) #[true, true, true, true, true, true, true, true, true, true, true, true, false, false, false, false, false, false, false, false, false, false] rfl (by kernel_rfl) (fun _ _ _ _ h => h) rfl rfl rfl rfl rfl ?_
    refine ga_no (i := 12) #[true, true, true, true, true, true, true, true, true, true, true, true, true, false, false, false, false, false, false, false, false, false] rfl (by kernel_rfl) (fun _ _ _ _ h => h) rfl rfl rfl rfl rfl h106 ?_
    refine ga_r (i := 13) #[true, true, true, true, true, true, true, true, true, true, true, true, true, true, false, false, false, false, false, false, false, false] rfl (by kernel_rfl) (by decide) rfl (r_pick0 rfl h106) ?_
    refine ga_r (i := 14) #[true, true, true, true, true, true, true, true, true, true, true, true, true, true, true, false, false, false, false, false, false, false] rfl (by kernel_rfl) (by decide) rfl (r_move) ?_
    refine ga_no (i := 15) #[true, true, true, true, true, true, true, true, true, true, true, true, true, true, true, true, false, false, false, false, false, false] rfl (by kernel_rfl) (fun _ _ _ _ h => h) rfl rfl rfl rfl rfl rfl ?_
    refine ga_no (i := 16) #[true, true, true, true, true, true, true, true, true, true, true, true, true, true, true, true, true, false, false, false, false, false] rfl (by kernel_rfl) (fun _ _ _ _ h => h) rfl rfl rfl rfl rfl rfl ?_
    refine ga_no (i := 17) #[true, true, true, true, true, true, true, true, true, true, true, true, true, true, true, true, true, true, false, false, false, false] rfl (by kernel_rfl) (fun _ _ _ _ h => h) rfl rfl rfl rfl rfl rfl ?_
    refine ga_no (i := 18) #[true, true, true, true, true, true, true, true, true, true, true, true, true, true, true, true, true, true, true, false, false, false] rfl (by kernel_rfl) (fun _ _ _ _ h => h) rfl rfl rfl rfl rfl rfl ?_
    refine ga_v (i := 19) #[true, true, true, true, true, true, true, true, true, true, true, true, true, true, true, true, true, true, true, true, false, false] rfl (by kernel_rfl) (fun _ _ _ _ h => h) rfl (r_pick0 rfl rfl) ?_
    refine ga_storeN (i := 20) (tag := 100040) #[true, true, true, true, true, true, true, true, true, true, true, true, true, true, true, true, true, true, true, true, true, false] rfl (by kernel_rfl) (by decide) rfl rfl rfl rfl Try.sizeOf44 rfl rfl (fun W h => (h.dropH (t := 100040) rfl).phi (fun W hφ => hφ)) ?_
    refine ga_r (i := 21) #[true, true, true, true, true, true, true, true, true, true, true, true, true, true, true, true, true, true, true, true, true, true] rfl (by kernel_rfl) (by decide) rfl (r_assign) ?_
    refine ga_done (by kernel_rfl) ?_
    refine d_then ?_
    refine c_flat [(4, .pointer (some ⟨g2, 0, none⟩)), (5, .bool false)] ⟨rfl, rfl, trivial⟩ (fun u => ?_)
    refine c_sta ⟨w0, M, (100060, g4, .cells #[.string x93] 9 (0, 0)) :: (100070, g5, .cells #[.bool x94] 4 (0, 0)) :: (100080, g6, .cells #[.func (.func 102) #[] #[.pointer (some ⟨g4, 0, none⟩), .pointer (some ⟨g5, 0, none⟩)]] 120 (0, 0)) :: (100100, g9, .cells #[.int .i64 x10, .int .i64 x15, .int .i64 x20, .int .i64 x25] 144 (0, 0)) :: (100040, g2, .cells #[.int .i64 x10, .int .i64 x15, .slice A63 x60.length c64, .string x92, .int .i64 x20, .int .i64 x25, .slice none 0 0] 44 (0, 0)) :: (100020, g1, .cells #[.int .i64 x10, .int .i64 x15, .slice A63 x60.length c64, .string x92, .int .i64 x20, .int .i64 x25, .slice none 0 0] 44 (0, 0)) :: H, (100500, ⟨.slice A63 x60.length c64, 3, 1, x60.length, x60.flatMap (fun x : Int => [Value.int .i64 x])⟩) :: R, φ⟩ (fun _ h => h) ?_
    refine c_ret ?_
    refine d_ret_block ?_
    refine d_ret_then ?_
    replace hm := Option.some.inj hm
    subst hm
    refine d_shut (tag := 100500) rfl (fun φ115 q115' => ?_)
    have q115 : ∀ W, φ115 W → φ W := fun W h => (q115' W h).1
    have f116 := fun (W : World) (h : φ115 W) => (q115' W h).2
    refine d_retC (A63, c64, none, 0) Try.results93 ?_ ⟨hc64, (Nat.le_refl 0)⟩ (fun W h => ok_pre (H1 := [_, _, _, _, _, _]) (R1 := []) h (fun W hφ => ⟨(q115 _ hφ), (fun W h => f116 W h) W hφ, (fun W _ => Cl.nil _ _) W hφ⟩)) (.inr rfl)
    refine res_agg (tag := 100040) rfl rfl Try.isAgg44 Try.sizeOf44 ?_
    refine res_tmp ?_
    refine res_nil ?_
    exact rfl
  ·
   have h105' : x94 = true := by revert h105; cases x94 <;> simp
   replace hm := ite_t hm h105'
   refine ga_no (i := 4) #[true, true, true, true, true, false, false, false, false, false, false, false, false, false, false, false, false, false, false, false, false, false] rfl (by kernel_rfl) (fun _ _ _ _ h => h) rfl rfl rfl rfl rfl h105 ?_
   refine ga_no (i := 5) #[true, true, true, true, true, true, false, false, false, false, false, false, false, false, false, false, false, false, false, false, false, false] rfl (by kernel_rfl) (fun _ _ _ _ h => h) rfl rfl rfl rfl rfl h105 ?_
   refine ga_r (i := 6) #[true, true, true, true, true, true, true, false, false, false, false, false, false, false, false, false, false, false, false, false, false, false] rfl (by kernel_rfl) (by decide) rfl (r_pick0 rfl h105) ?_
   refine ga_r (i := 7) #[true, true, true, true, true, true, true, true, false, false, false, false, false, false, false, false, false, false, false, false, false, false] rfl (by kernel_rfl) (by decide) rfl (r_move) ?_
   refine ga_no (i := 8) #[true, true, true, true, true, true, true, true, true, false, false, false, false, false, false, false, false, false, false, false, false, false] rfl (by kernel_rfl) (fun _ _ _ _ h => h) rfl rfl rfl rfl rfl rfl ?_
   refine ga_no (i := 9) #[true, true, true, true, true, true, true, true, true, true, false, false, false, false, false, false, false, false, false, false, false, false] rfl (by kernel_rfl) (fun _ _ _ _ h => h) rfl rfl rfl rfl rfl rfl ?_
   refine ga_nu (i := 10) #[true, true, true, true, true, true, true, true, true, true, true, false, false, false, false, false, false, false, false, false, false, false] rfl (by kernel_rfl) (fun _ _ _ _ h => h) rfl rfl rfl rfl rfl ?_
   refine ga_nu (i := 11) #[true, true, true, true, true, true, true, true, true, true, true, true, false, false, false, false, false, false, false, false, false, false] rfl (by kernel_rfl) (fun _ _ _ _ h => h) rfl rfl rfl rfl rfl ?_
   refine ga_no (i := 12) #[true, true, true, true, true, true, true, true, true, true, true, true, true, false, false, false, false, false, false, false, false, false] rfl (by kernel_rfl) (fun _ _ _ _ h => h) rfl rfl rfl rfl rfl rfl ?_
   refine ga_r (i := 13) #[true, true, true, true, true, true, true, true, true, true, true, true, true, true, false, false, false, false, false, false, false, false] rfl (by kernel_rfl) (by decide) rfl (r_pick0 rfl rfl) ?_
   refine ga_r (i := 14) #[true, true, true, true, true, true, true, true, true, true, true, true, true, true, true, false, false, false, false, false, false, false] rfl (by kernel_rfl) (by decide) rfl (r_move) ?_
   refine ga_no (i := 15) #[true, true, true, true, true, true, true, true, true, true, true, true, true, true, true, true, false, false, false, false, false, false] rfl (by kernel_rfl) (fun _ _ _ _ h => h) rfl rfl rfl rfl rfl rfl ?_
   refine ga_no (i := 16) #[true, true, true, true, true, true, true, true, true, true, true, true, true, true, true, true, true, false, false, false, false, false] rfl (by kernel_rfl) (fun _ _ _ _ h => h) rfl rfl rfl rfl rfl rfl ?_
   refine ga_no (i := 17) #[true, true, true, true, true, true, true, true, true, true, true, true, true, true, true, true, true, true, false, false, false, false] rfl (by kernel_rfl) (fun _ _ _ _ h => h) rfl rfl rfl rfl rfl rfl ?_
   refine ga_no (i := 18) #[true, true, true, true, true, true, true, true, true, true, true, true, true, true, true, true, true, true, true, false, false, false] rfl (by kernel_rfl) (fun _ _ _ _ h => h) rfl rfl rfl rfl rfl rfl ?_
   refine ga_v (i := 19) #[true, true, true, true, true, true, true, true, true, true, true, true, true, true, true, true, true, true, true, true, false, false] rfl (by kernel_rfl) (fun _ _ _ _ h => h) rfl (r_pick0 rfl rfl) ?_
   refine ga_storeN (i := 20) (tag := 100040) #[true, true, true, true, true, true, true, true, true, true, true, true, true, true, true, true, true, true, true, true, true, false] rfl (by kernel_rfl) (by decide) rfl rfl rfl rfl Try.sizeOf44 rfl rfl (fun W h => (h.dropH (t := 100040) rfl).phi (fun W hφ => hφ)) ?_
   refine ga_r (i := 21) #[true, true, true, true, true, true, true, true, true, true, true, true, true, true, true, true, true, true, true, true, true, true] rfl (by kernel_rfl) (by decide) rfl (r_assign) ?_
   refine ga_done (by kernel_rfl) ?_
   refine d_then ?_
   refine c_flat [(4, .pointer (some ⟨g2, 0, none⟩)), (5, .bool false)] ⟨rfl, rfl, trivial⟩ (fun u => ?_)
   refine c_sta ⟨w0, M, (100060, g4, .cells #[.string x93] 9 (0, 0)) :: (100070, g5, .cells #[.bool x94] 4 (0, 0)) :: (100080, g6, .cells #[.func (.func 102) #[] #[.pointer (some ⟨g4, 0, none⟩), .pointer (some ⟨g5, 0, none⟩)]] 120 (0, 0)) :: (100100, g9, .cells #[.int .i64 x10, .int .i64 x15, .int .i64 x20, .int .i64 x25] 144 (0, 0)) :: (100040, g2, .cells #[.int .i64 x10, .int .i64 x15, .slice A63 x60.length c64, .string x92, .int .i64 x20, .int .i64 x25, .slice none 0 0] 44 (0, 0)) :: (100020, g1, .cells #[.int .i64 x10, .int .i64 x15, .slice A63 x60.length c64, .string x92, .int .i64 x20, .int .i64 x25, .slice none 0 0] 44 (0, 0)) :: H, (100500, ⟨.slice A63 x60.length c64, 3, 1, x60.length, x60.flatMap (fun x : Int => [Value.int .i64 x])⟩) :: R, φ⟩ (fun _ h => h) ?_
   refine c_ret ?_
   refine d_ret_block ?_
   refine d_ret_then ?_
   replace hm := Option.some.inj hm
   subst hm
   refine d_shut (tag := 100500) rfl (fun φ117 q117' => ?_)
   have q117 : ∀ W, φ117 W → φ W := fun W h => (q117' W h).1
   have f118 := fun (W : World) (h : φ117 W) => (q117' W h).2
   refine d_retC (A63, c64, none, 0) Try.results93 ?_ ⟨hc64, (Nat.le_refl 0)⟩ (fun W h => ok_pre (H1 := [_, _, _, _, _, _]) (R1 := []) h (fun W hφ => ⟨(q117 _ hφ), (fun W h => f118 W h) W hφ, (fun W _ => Cl.nil _ _) W hφ⟩)) (.inr rfl)
   refine res_agg (tag := 100040) rfl rfl Try.isAgg44 Try.sizeOf44 ?_
   refine res_tmp ?_
   refine res_nil ?_
   exact rfl
 ·
  replace hm := ite_f hm (of_decide_eq_false h8)
  refine c_seq ?_
  refine c_region ?_
  refine g_v rfl (r_eql rfl rfl) ?_
  refine g_v rfl r_assign ?_
  refine g_nil ?_
  refine d_then ?_
  refine c_cond rfl (fun h119 => ?_) (fun h119 => ?_)
  ·
   replace hm := ite_t hm (of_decide_eq_true h119)
   refine c_seq ?_
   refine c_region ?_
   refine g_v rfl r_move ?_
   replace hm := bnd hm
   obtain ⟨⟨x120, x121, x122⟩, hx123, hm⟩ := hm
   refine g_cnv ⟨w0, M, (1000, g6, .cells #[.func (.func 102) #[] #[.pointer (some ⟨g4, 0, none⟩), .pointer (some ⟨g5, 0, none⟩)]] 120 (0, 0)) :: (1001, g5, .cells #[.bool false] 4 (0, 0)) :: (1002, g4, .cells #[.string s3] 9 (0, 0)) :: (100040, g2, .cells #[.int .i64 0, .int .i64 0, .slice none 0 0, .string (⟨#[]⟩ : ByteArray), .int .i64 0, .int .i64 0, .slice none 0 0] 44 (0, 0)) :: (100020, g1, .cells #[.int .i64 p0.fTerm, .int .i64 p0.fVote, .slice Ap0_0 p0.fVoters.length cp0_0, .string p0.fSnap, .int .i64 p0.fLog.fBase, .int .i64 p0.fLog.fBaseTerm, .slice Ap0_1 p0.fLog.fEntries.length cp0_1] 44 (0, 0)) :: H, R, φ⟩ (fun W h => (ok_front (t := 100080) (t' := 1000) (ok_front (t := 100070) (t' := 1001) (ok_front (t := 100060) (t' := 1002) h rfl) rfl) rfl)) Try.call103 rfl rfl rfl (c_plog_read_c2 g6 g5 false g4 s3 _ hx123) (fun _ _ => ?_)
   refine g_sta _ (fun W h => (ok_front (t := 1000) (t' := 100080) (ok_front (t := 1001) (t' := 100070) (ok_front (t := 1002) (t' := 100060) h rfl) rfl) rfl)) ?_
   refine g_v rfl (r_field (n := 0) Try.underlying44 rfl Try.sizeOf3 rfl rfl) ?_
   refine g_storeL (tag := 100020) rfl rfl rfl rfl Try.sizeOf3 rfl rfl ?_
   refine g_nil ?_
   refine d_then ?_
   refine c_seq ?_
   refine c_region ?_
   refine g_v rfl r_move ?_
   replace hm := bnd hm
   obtain ⟨⟨x125, x126, x127⟩, hx128, hm⟩ := hm
   refine g_cnv ⟨w0, M, (1000, g6, .cells #[.func (.func 102) #[] #[.pointer (some ⟨g4, 0, none⟩), .pointer (some ⟨g5, 0, none⟩)]] 120 (0, 0)) :: (1001, g5, .cells #[.bool x121] 4 (0, 0)) :: (1002, g4, .cells #[.string x122] 9 (0, 0)) :: (100040, g2, .cells #[.int .i64 0, .int .i64 0, .slice none 0 0, .string (⟨#[]⟩ : ByteArray), .int .i64 0, .int .i64 0, .slice none 0 0] 44 (0, 0)) :: (100020, g1, .cells #[.int .i64 x120, .int .i64 p0.fVote, .slice Ap0_0 p0.fVoters.length cp0_0, .string p0.fSnap, .int .i64 p0.fLog.fBase, .int .i64 p0.fLog.fBaseTerm, .slice Ap0_1 p0.fLog.fEntries.length cp0_1] 44 (0, 0)) :: H, R, φ⟩ (fun W h => (ok_front (t := 100080) (t' := 1000) (ok_front (t := 100070) (t' := 1001) (ok_front (t := 100060) (t' := 1002) h rfl) rfl) rfl)) Try.call103 rfl rfl rfl (c_plog_read_c2 g6 g5 x121 g4 x122 _ hx128) (fun _ _ => ?_)
   refine g_sta _ (fun W h => (ok_front (t := 1000) (t' := 100080) (ok_front (t := 1001) (t' := 100070) (ok_front (t := 1002) (t' := 100060) h rfl) rfl) rfl)) ?_
   refine g_v rfl (r_field (n := 1) Try.underlying44 rfl Try.sizeOf3 rfl rfl) ?_
   refine g_storeL (tag := 100020) rfl rfl rfl rfl Try.sizeOf3 rfl rfl ?_
   refine g_nil ?_
   refine d_then ?_
   refine c_flat [(2, .pointer (some ⟨g1, 0, none⟩)), (4, .pointer (some ⟨g2, 0, none⟩)), (6, .pointer (some ⟨g4, 0, none⟩)), (7, .pointer (some ⟨g5, 0, none⟩))] ⟨rfl, rfl, rfl, rfl, trivial⟩ (fun u => ?_)
   refine c_sta ⟨w0, M, (100080, g6, .cells #[.func (.func 102) #[] #[.pointer (some ⟨g4, 0, none⟩), .pointer (some ⟨g5, 0, none⟩)]] 120 (0, 0)) :: (100070, g5, .cells #[.bool x126] 4 (0, 0)) :: (100060, g4, .cells #[.string x127] 9 (0, 0)) :: (100040, g2, .cells #[.int .i64 0, .int .i64 0, .slice none 0 0, .string (⟨#[]⟩ : ByteArray), .int .i64 0, .int .i64 0, .slice none 0 0] 44 (0, 0)) :: (100020, g1, .cells #[.int .i64 x120, .int .i64 x125, .slice Ap0_0 p0.fVoters.length cp0_0, .string p0.fSnap, .int .i64 p0.fLog.fBase, .int .i64 p0.fLog.fBaseTerm, .slice Ap0_1 p0.fLog.fEntries.length cp0_1] 44 (0, 0)) :: H, R, φ⟩ (fun _ h => h) ?_
   refine c_seq ?_
   refine ga_start (n := 9) ⟨w0, M, (100080, g6, .cells #[.func (.func 102) #[] #[.pointer (some ⟨g4, 0, none⟩), .pointer (some ⟨g5, 0, none⟩)]] 120 (0, 0)) :: (100070, g5, .cells #[.bool x126] 4 (0, 0)) :: (100060, g4, .cells #[.string x127] 9 (0, 0)) :: (100020, g1, .cells #[.int .i64 x120, .int .i64 x125, .slice Ap0_0 p0.fVoters.length cp0_0, .string p0.fSnap, .int .i64 p0.fLog.fBase, .int .i64 p0.fLog.fBaseTerm, .slice Ap0_1 p0.fLog.fEntries.length cp0_1] 44 (0, 0)) :: H, R, φ⟩ [] #[false, false, false, false, false, false, false, false, false] (fun W h => (h.dropH (t := 100040) rfl).phi (fun W hφ => hφ)) mixed rfl rfl ?_
   refine ga_v (i := 0) #[true, false, false, false, false, false, false, false, false] rfl (by kernel_rfl) (fun _ _ _ _ h => h) rfl (r_loadA (tag := 100020) rfl rfl Try.isAgg44 Try.sizeOf44 rfl rfl) ?_
   refine ga_r (i := 1) #[true, true, false, false, false, false, false, false, false] rfl (by kernel_rfl) (by decide) rfl (r_load (tag := 100070) rfl rfl rfl Try.isAgg4) ?_
   refine ga_r (i := 2) #[true, true, true, false, false, false, false, false, false] rfl (by kernel_rfl) (by decide) rfl (r_not rfl) ?_
   refine ga_r (i := 3) #[true, true, true, true, false, false, false, false, false] rfl (by kernel_rfl) (by decide) rfl (r_move) ?_
   refine ga_if (t := 91) rfl (fun h132 => ?_) (fun h132 => ?_)
   ·
    have h132' : x126 = false := by revert h132; cases x126 <;> simp
    replace hm := ite_f hm (bool_nt h132')
    refine ga_do (i := 4) #[true, true, true, true, true, false, false, false, false] rfl (by kernel_rfl) (fun _ _ _ _ h => h) rfl rfl rfl rfl rfl h132 (r_load (tag := 100060) rfl rfl rfl Try.isAgg9) ?_
    refine ga_do (i := 5) #[true, true, true, true, true, true, false, false, false] rfl (by kernel_rfl) (fun _ _ _ _ h => h) rfl rfl rfl rfl rfl h132 (r_eqlT rfl rfl) ?_
    refine ga_v (i := 6) #[true, true, true, true, true, true, true, false, false] rfl (by kernel_rfl) (fun _ _ _ _ h => h) rfl (r_pick1 rfl h132) ?_
    refine ga_storeN (i := 7) (tag := 100040) #[true, true, true, true, true, true, true, true, false] rfl (by kernel_rfl) (by decide) rfl rfl rfl rfl Try.sizeOf44 rfl rfl (fun W h => (h.dropH (t := 100040) rfl).phi (fun W hφ => hφ)) ?_
    refine ga_r (i := 8) #[true, true, true, true, true, true, true, true, true] rfl (by kernel_rfl) (by decide) rfl (r_assign) ?_
    refine ga_done (by kernel_rfl) ?_
    refine d_then ?_
    refine c_flat [(4, .pointer (some ⟨g2, 0, none⟩)), (5, .bool (decide (x127 = (⟨#[]⟩ : ByteArray))))] ⟨rfl, rfl, trivial⟩ (fun u => ?_)
    refine c_sta ⟨w0, M, (100080, g6, .cells #[.func (.func 102) #[] #[.pointer (some ⟨g4, 0, none⟩), .pointer (some ⟨g5, 0, none⟩)]] 120 (0, 0)) :: (100070, g5, .cells #[.bool x126] 4 (0, 0)) :: (100060, g4, .cells #[.string x127] 9 (0, 0)) :: (100040, g2, .cells #[.int .i64 x120, .int .i64 x125, .slice Ap0_0 p0.fVoters.length cp0_0, .string p0.fSnap, .int .i64 p0.fLog.fBase, .int .i64 p0.fLog.fBaseTerm, .slice Ap0_1 p0.fLog.fEntries.length cp0_1] 44 (0, 0)) :: (100020, g1, .cells #[.int .i64 x120, .int .i64 x125, .slice Ap0_0 p0.fVoters.length cp0_0, .string p0.fSnap, .int .i64 p0.fLog.fBase, .int .i64 p0.fLog.fBaseTerm, .slice Ap0_1 p0.fLog.fEntries.length cp0_1] 44 (0, 0)) :: H, R, φ⟩ (fun _ h => h) ?_
    refine c_ret ?_
    refine d_ret_block ?_
    refine d_ret_then ?_
    replace hm := Option.some.inj hm
    subst hm
    refine d_retC (Ap0_0, cp0_0, Ap0_1, cp0_1) Try.results93 ?_ ⟨hcp0_0, hcp0_1⟩ (fun W h => ok_pre (H1 := [_, _, _, _, _]) (R1 := []) h (fun W hφ => ⟨hφ, (fun W h => fp0_0 W h) W hφ, (fun W h => fp0_1 W h) W hφ⟩)) (.inr rfl)
    refine res_agg (tag := 100040) rfl rfl Try.isAgg44 Try.sizeOf44 ?_
    refine res_tmp ?_
    refine res_nil ?_
    exact rfl
   ·
    have h132' : x126 = true := by revert h132; cases x126 <;> simp
    replace hm := ite_t hm h132'
    refine ga_no (i := 4) #[true, true, true, true, true, false, false, false, false] rfl (by kernel_rfl) (fun _ _ _ _ h => h) rfl rfl rfl rfl rfl h132 ?_
    refine ga_no (i := 5) #[true, true, true, true, true, true, false, false, false] rfl (by kernel_rfl) (fun _ _ _ _ h => h) rfl rfl rfl rfl rfl h132 ?_
    refine ga_v (i := 6) #[true, true, true, true, true, true, true, false, false] rfl (by kernel_rfl) (fun _ _ _ _ h => h) rfl (r_pick0 rfl h132) ?_
    refine ga_storeN (i := 7) (tag := 100040) #[true, true, true, true, true, true, true, true, false] rfl (by kernel_rfl) (by decide) rfl rfl rfl rfl Try.sizeOf44 rfl rfl (fun W h => (h.dropH (t := 100040) rfl).phi (fun W hφ => hφ)) ?_
    refine ga_r (i := 8) #[true, true, true, true, true, true, true, true, true] rfl (by kernel_rfl) (by decide) rfl (r_assign) ?_
    refine ga_done (by kernel_rfl) ?_
    refine d_then ?_
    refine c_ret ?_
    refine d_ret_block ?_
    refine d_ret_then ?_
    replace hm := Option.some.inj hm
    subst hm
    refine d_retC (Ap0_0, cp0_0, Ap0_1, cp0_1) Try.results93 ?_ ⟨hcp0_0, hcp0_1⟩ (fun W h => ok_pre (H1 := [_, _, _, _, _]) (R1 := []) h (fun W hφ => ⟨hφ, (fun W h => fp0_0 W h) W hφ, (fun W h => fp0_1 W h) W hφ⟩)) (.inr rfl)
    refine res_agg (tag := 100040) rfl rfl Try.isAgg44 Try.sizeOf44 ?_
    refine res_tmp ?_
    refine res_nil ?_
    exact rfl
  ·
   replace hm := ite_f hm (of_decide_eq_false h119)
   refine c_seq ?_
   refine c_region ?_
   refine g_v rfl (r_eql rfl rfl) ?_
   refine g_v rfl r_assign ?_
   refine g_nil ?_
   refine d_then ?_
   refine c_cond rfl (fun h133 => ?_) (fun h133 => ?_)
   ·
    replace hm := ite_t hm (of_decide_eq_true h133)
    refine c_seq ?_
    refine c_region ?_
    refine g_v rfl r_move ?_
    replace hm := bnd hm
    obtain ⟨⟨x134, x135, x136⟩, hx137, hm⟩ := hm
    refine g_cnv ⟨w0, M, (1000, g6, .cells #[.func (.func 102) #[] #[.pointer (some ⟨g4, 0, none⟩), .pointer (some ⟨g5, 0, none⟩)]] 120 (0, 0)) :: (1001, g5, .cells #[.bool false] 4 (0, 0)) :: (1002, g4, .cells #[.string s3] 9 (0, 0)) :: (100040, g2, .cells #[.int .i64 0, .int .i64 0, .slice none 0 0, .string (⟨#[]⟩ : ByteArray), .int .i64 0, .int .i64 0, .slice none 0 0] 44 (0, 0)) :: (100020, g1, .cells #[.int .i64 p0.fTerm, .int .i64 p0.fVote, .slice Ap0_0 p0.fVoters.length cp0_0, .string p0.fSnap, .int .i64 p0.fLog.fBase, .int .i64 p0.fLog.fBaseTerm, .slice Ap0_1 p0.fLog.fEntries.length cp0_1] 44 (0, 0)) :: H, R, φ⟩ (fun W h => (ok_front (t := 100080) (t' := 1000) (ok_front (t := 100070) (t' := 1001) (ok_front (t := 100060) (t' := 1002) h rfl) rfl) rfl)) Try.call103 rfl rfl rfl (c_plog_read_c2 g6 g5 false g4 s3 _ hx137) (fun _ _ => ?_)
    refine g_sta _ (fun W h => (ok_front (t := 1000) (t' := 100080) (ok_front (t := 1001) (t' := 100070) (ok_front (t := 1002) (t' := 100060) h rfl) rfl) rfl)) ?_
    refine g_v rfl r_assign ?_
    refine g_nil ?_
    refine d_then ?_
    refine c_seq ?_
    refine c_region ?_
    refine g_v rfl r_move ?_
    replace hm := bnd hm
    obtain ⟨⟨x139, x140, x141⟩, hx142, hm⟩ := hm
    refine g_cnv ⟨w0, M, (1000, g6, .cells #[.func (.func 102) #[] #[.pointer (some ⟨g4, 0, none⟩), .pointer (some ⟨g5, 0, none⟩)]] 120 (0, 0)) :: (1001, g5, .cells #[.bool x135] 4 (0, 0)) :: (1002, g4, .cells #[.string x136] 9 (0, 0)) :: (100040, g2, .cells #[.int .i64 0, .int .i64 0, .slice none 0 0, .string (⟨#[]⟩ : ByteArray), .int .i64 0, .int .i64 0, .slice none 0 0] 44 (0, 0)) :: (100020, g1, .cells #[.int .i64 p0.fTerm, .int .i64 p0.fVote, .slice Ap0_0 p0.fVoters.length cp0_0, .string p0.fSnap, .int .i64 p0.fLog.fBase, .int .i64 p0.fLog.fBaseTerm, .slice Ap0_1 p0.fLog.fEntries.length cp0_1] 44 (0, 0)) :: H, R, φ⟩ (fun W h => (ok_front (t := 100080) (t' := 1000) (ok_front (t := 100070) (t' := 1001) (ok_front (t := 100060) (t' := 1002) h rfl) rfl) rfl)) Try.call103 rfl rfl rfl (c_plog_read_c2 g6 g5 x135 g4 x136 _ hx142) (fun _ _ => ?_)
    refine g_sta _ (fun W h => (ok_front (t := 1000) (t' := 100080) (ok_front (t := 1001) (t' := 100070) (ok_front (t := 1002) (t' := 100060) h rfl) rfl) rfl)) ?_
    refine g_v rfl (r_build _ rfl (bld35_4 _)) ?_
    refine g_e rfl (e_alloc 100160 Try.zeroValue35) (fun g144 _ => ?_)
    refine g_storeL (tag := 100160) rfl rfl rfl rfl Try.sizeOf35 rfl rfl ?_
    refine g_nil ?_
    refine d_then ?_
    refine c_flat [(2, .pointer (some ⟨g1, 0, none⟩)), (4, .pointer (some ⟨g2, 0, none⟩)), (6, .pointer (some ⟨g4, 0, none⟩)), (7, .pointer (some ⟨g5, 0, none⟩)), (8, .pointer (some ⟨g6, 0, none⟩)), (15, .int .i64 x134), (16, .pointer (some ⟨g144, 0, none⟩))] ⟨rfl, rfl, rfl, rfl, rfl, rfl, rfl, trivial⟩ (fun u => ?_)
    refine c_sta ⟨w0, M, (100160, g144, .cells #[.int .i64 x139, .int .i64 0, .string (⟨#[]⟩ : ByteArray)] 35 (0, 0)) :: (100080, g6, .cells #[.func (.func 102) #[] #[.pointer (some ⟨g4, 0, none⟩), .pointer (some ⟨g5, 0, none⟩)]] 120 (0, 0)) :: (100070, g5, .cells #[.bool x140] 4 (0, 0)) :: (100060, g4, .cells #[.string x141] 9 (0, 0)) :: (100040, g2, .cells #[.int .i64 0, .int .i64 0, .slice none 0 0, .string (⟨#[]⟩ : ByteArray), .int .i64 0, .int .i64 0, .slice none 0 0] 44 (0, 0)) :: (100020, g1, .cells #[.int .i64 p0.fTerm, .int .i64 p0.fVote, .slice Ap0_0 p0.fVoters.length cp0_0, .string p0.fSnap, .int .i64 p0.fLog.fBase, .int .i64 p0.fLog.fBaseTerm, .slice Ap0_1 p0.fLog.fEntries.length cp0_1] 44 (0, 0)) :: H, R, φ⟩ (fun _ h => h) ?_
    refine c_seq ?_
    refine c_region ?_
    refine g_v rfl (r_load (tag := 100080) rfl rfl rfl Try.isAgg120) ?_
    replace hm := bnd hm
    obtain ⟨⟨x145, x146, x147⟩, hx148, hm⟩ := hm
    refine g_cnv ⟨w0, M, (1000, g4, .cells #[.string x141] 9 (0, 0)) :: (1001, g5, .cells #[.bool x140] 4 (0, 0)) :: (100160, g144, .cells #[.int .i64 x139, .int .i64 0, .string (⟨#[]⟩ : ByteArray)] 35 (0, 0)) :: (100080, g6, .cells #[.func (.func 102) #[] #[.pointer (some ⟨g4, 0, none⟩), .pointer (some ⟨g5, 0, none⟩)]] 120 (0, 0)) :: (100040, g2, .cells #[.int .i64 0, .int .i64 0, .slice none 0 0, .string (⟨#[]⟩ : ByteArray), .int .i64 0, .int .i64 0, .slice none 0 0] 44 (0, 0)) :: (100020, g1, .cells #[.int .i64 p0.fTerm, .int .i64 p0.fVote, .slice Ap0_0 p0.fVoters.length cp0_0, .string p0.fSnap, .int .i64 p0.fLog.fBase, .int .i64 p0.fLog.fBaseTerm, .slice Ap0_1 p0.fLog.fEntries.length cp0_1] 44 (0, 0)) :: H, R, φ⟩ (fun W h => (ok_front (t := 100060) (t' := 1000) (ok_front (t := 100070) (t' := 1001) h rfl) rfl)) Try.call102 rfl rfl rfl (c_plog_read_c1 1 g4 x141 g5 x140 _ hx148) (fun _ _ => ?_)
    refine g_sta _ (fun W h => (ok_front (t := 1000) (t' := 100060) (ok_front (t := 1001) (t' := 100070) h rfl) rfl)) ?_
    refine g_v rfl r_assign ?_
    refine g_nil ?_
    refine d_then ?_
    refine c_seq ?_
    refine c_seq ?_
    refine c_region ?_
    refine g_v rfl (r_load (tag := 100070) rfl rfl rfl Try.isAgg4) ?_
    refine g_v rfl r_move ?_
    refine g_if rfl rfl rfl rfl rfl (fun h150 => ?_) (fun h150 => ?_)
    ·
     replace hm := ite_f hm (bool_nt h150)
     refine g_v rfl r_move ?_
     refine g_do rfl rfl rfl rfl rfl h150 ?_
     refine g_v rfl (r_field (n := 4) Try.underlying44 rfl Try.sizeOf26 rfl rfl) ?_
     refine g_do rfl rfl rfl rfl rfl h150 ?_
     refine g_v rfl (r_field (n := 4) Try.underlying26 rfl Try.sizeOf3 rfl rfl) ?_
     refine g_do rfl rfl rfl rfl rfl h150 ?_
     refine g_v rfl (r_load (tag := 100020) rfl rfl rfl Try.isAgg3) ?_
     refine g_do rfl rfl rfl rfl rfl h150 ?_
     refine g_v rfl (r_leq rfl rfl) ?_
     refine g_v rfl (r_pick0 rfl h150) ?_
     refine g_v rfl r_move ?_
     refine g_if rfl rfl rfl rfl rfl (fun h151 => ?_) (fun h151 => ?_)
     ·
      replace hm := ite_f hm (of_decide_eq_false h151)
      refine g_v rfl r_move ?_
      refine g_do rfl rfl rfl rfl rfl h151 ?_
      refine g_v rfl (r_field (n := 4) Try.underlying44 rfl Try.sizeOf26 rfl rfl) ?_
      refine g_do rfl rfl rfl rfl rfl h151 ?_
      refine g_v rfl (r_loadA (tag := 100020) rfl rfl Try.isAgg26 Try.sizeOf26 rfl rfl) ?_
      refine g_do rfl rfl rfl rfl rfl h151 ?_
      replace hm := bnd hm
      obtain ⟨x152, hx153, hm⟩ := hm
      refine g_cn ⟨w0, M, _, _, φ⟩ (fun _ h => h) Try.call38 rfl rfl (c_plog_Last p0.fLog Ap0_1 cp0_1 hcp0_1 (fun W hS => fp0_1 W hS.now) _ hx153) (fun _ _ => ?_)
      refine g_do rfl rfl rfl rfl rfl h151 ?_
      refine g_v rfl (r_add rfl rfl rfl) ?_
      refine g_do rfl rfl rfl rfl rfl h151 ?_
      refine g_v rfl (r_gtr rfl rfl) ?_
      refine g_v rfl (r_pick0 rfl h151) ?_
      refine g_nil ?_
      refine d_then ?_
      refine c_flat [(2, .pointer (some ⟨g1, 0, none⟩)), (4, .pointer (some ⟨g2, 0, none⟩)), (6, .pointer (some ⟨g4, 0, none⟩)), (15, .int .i64 x134), (16, .pointer (some ⟨g144, 0, none⟩)), (17, .string x145), (119, .bool (decide (w64 (x152 + 1) < x134)))] ⟨rfl, rfl, rfl, rfl, rfl, rfl, rfl, trivial⟩ (fun u => ?_)
      refine c_sta ⟨w0, M, (100060, g4, .cells #[.string x146] 9 (0, 0)) :: (100070, g5, .cells #[.bool x147] 4 (0, 0)) :: (100160, g144, .cells #[.int .i64 x139, .int .i64 0, .string (⟨#[]⟩ : ByteArray)] 35 (0, 0)) :: (100080, g6, .cells #[.func (.func 102) #[] #[.pointer (some ⟨g4, 0, none⟩), .pointer (some ⟨g5, 0, none⟩)]] 120 (0, 0)) :: (100040, g2, .cells #[.int .i64 0, .int .i64 0, .slice none 0 0, .string (⟨#[]⟩ : ByteArray), .int .i64 0, .int .i64 0, .slice none 0 0] 44 (0, 0)) :: (100020, g1, .cells #[.int .i64 p0.fTerm, .int .i64 p0.fVote, .slice Ap0_0 p0.fVoters.length cp0_0, .string p0.fSnap, .int .i64 p0.fLog.fBase, .int .i64 p0.fLog.fBaseTerm, .slice Ap0_1 p0.fLog.fEntries.length cp0_1] 44 (0, 0)) :: H, R, φ⟩ (fun _ h => h) ?_
      refine c_cond rfl (fun h154 => ?_) (fun h154 => ?_)
      ·
       replace hm := ite_t hm (of_decide_eq_true h154)
       refine c_seq ?_
       refine c_region ?_
       refine g_v rfl (r_loadA (tag := 100020) rfl rfl Try.isAgg44 Try.sizeOf44 rfl rfl) ?_
       refine g_storeL (tag := 100040) rfl rfl rfl rfl Try.sizeOf44 rfl rfl ?_
       refine g_v rfl r_assign ?_
       refine g_nil ?_
       refine d_then ?_
       refine c_ret ?_
       refine d_ret_then ?_
       refine d_ret_block ?_
       refine d_ret_then ?_
       replace hm := Option.some.inj hm
       subst hm
       refine d_retC (Ap0_0, cp0_0, Ap0_1, cp0_1) Try.results93 ?_ ⟨hcp0_0, hcp0_1⟩ (fun W h => ok_pre (H1 := [_, _, _, _, _, _]) (R1 := []) h (fun W hφ => ⟨hφ, (fun W h => fp0_0 W h) W hφ, (fun W h => fp0_1 W h) W hφ⟩)) (.inr rfl)
       refine res_agg (tag := 100040) rfl rfl Try.isAgg44 Try.sizeOf44 ?_
       refine res_tmp ?_
       refine res_nil ?_
       exact rfl
      ·
       replace hm := ite_f hm (of_decide_eq_false h154)
       refine c_skip ?_
       refine d_then ?_
       refine c_seq ?_
       refine ga_start (n := 8) ⟨w0, M, (100060, g4, .cells #[.string x146] 9 (0, 0)) :: (100070, g5, .cells #[.bool x147] 4 (0, 0)) :: (100080, g6, .cells #[.func (.func 102) #[] #[.pointer (some ⟨g4, 0, none⟩), .pointer (some ⟨g5, 0, none⟩)]] 120 (0, 0)) :: (100040, g2, .cells #[.int .i64 0, .int .i64 0, .slice none 0 0, .string (⟨#[]⟩ : ByteArray), .int .i64 0, .int .i64 0, .slice none 0 0] 44 (0, 0)) :: (100020, g1, .cells #[.int .i64 p0.fTerm, .int .i64 p0.fVote, .slice Ap0_0 p0.fVoters.length cp0_0, .string p0.fSnap, .int .i64 p0.fLog.fBase, .int .i64 p0.fLog.fBaseTerm, .slice Ap0_1 p0.fLog.fEntries.length cp0_1] 44 (0, 0)) :: H, R, φ⟩ [] #[false, false, false, false, false, false, false, false] (fun W h => (h.dropH (t := 100160) rfl).phi (fun W hφ => hφ)) mixed rfl rfl ?_
       refine ga_v (i := 0) #[true, false, false, false, false, false, false, false] rfl (by kernel_rfl) (fun _ _ _ _ h => h) rfl (r_move) ?_
       replace hm := bnd hm
       obtain ⟨b157, hb157, hm⟩ := hm
       refine ga_v (i := 1) #[true, true, false, false, false, false, false, false] rfl (by kernel_rfl) (fun _ _ _ _ h => h) rfl (r_sat Try.underlying9 rfl rfl hb157) ?_
       refine ga_v (i := 2) #[true, true, true, false, false, false, false, false] rfl (by kernel_rfl) (fun _ _ _ _ h => h) rfl (r_conv Try.underlying5 Try.underlying3 rfl rfl) ?_
       refine ga_v (i := 3) #[true, true, true, true, false, false, false, false] rfl (by kernel_rfl) (fun _ _ _ _ h => h) rfl (r_load (tag := 100060) rfl rfl rfl Try.isAgg9) ?_
       refine ga_r (i := 4) #[true, true, true, true, true, false, false, false] rfl (by kernel_rfl) (by decide) rfl (r_field (n := 1) Try.underlying35 rfl Try.sizeOf3 rfl rfl) ?_
       refine ga_storeN (i := 5) (tag := 100160) #[true, true, true, true, true, true, false, false] rfl (by kernel_rfl) (by decide) rfl rfl rfl rfl Try.sizeOf3 rfl rfl (fun W h => (h.dropH (t := 100160) rfl).phi (fun W hφ => hφ)) ?_
       refine ga_r (i := 6) #[true, true, true, true, true, true, true, false] rfl (by kernel_rfl) (by decide) rfl (r_field (n := 2) Try.underlying35 rfl Try.sizeOf9 rfl rfl) ?_
       refine ga_storeN (i := 7) (tag := 100160) #[true, true, true, true, true, true, true, true] rfl (by kernel_rfl) (by decide) rfl rfl rfl rfl Try.sizeOf9 rfl rfl (fun W h => (h.dropH (t := 100160) rfl).phi (fun W hφ => hφ)) ?_
       refine ga_done (by kernel_rfl) ?_
       refine d_then ?_
       refine c_seq ?_
       refine c_cut (ι := Int × Int × (List GEntry) × Option Addr × Nat) [2, 4] (fun ⟨i303, i304, l305, A306, c307⟩ => []) (fun ⟨i303, i304, l305, A306, c307⟩ => ⟨w0, M, (100040, g2, .cells #[.int .i64 0, .int .i64 0, .slice none 0 0, .string (⟨#[]⟩ : ByteArray), .int .i64 0, .int .i64 0, .slice none 0 0] 44 (0, 0)) :: (100020, g1, .cells #[.int .i64 p0.fTerm, .int .i64 p0.fVote, .slice Ap0_0 p0.fVoters.length cp0_0, .string p0.fSnap, .int .i64 i303, .int .i64 i304, .slice A306 l305.length c307] 44 (0, 0)) :: H, R, fun W => φ W ∧ Cl W A306 (l305.flatMap GEntry.enc)⟩) (fun ⟨i303, i304, l305, A306, c307⟩ => m_plog_read_j1 p0 i303 i304 l305 = some r ∧ l305.length ≤ c307) ?_ (fun ⟨i303, i304, l305, A306, c307⟩ u ⟨hm, hc307⟩ => ?_)
       ·
        refine ga_start (n := 10) ⟨w0, M, (100060, g4, .cells #[.string x146] 9 (0, 0)) :: (100070, g5, .cells #[.bool x147] 4 (0, 0)) :: (100160, g144, .cells #[.int .i64 x139, .int .i64 (w64 b157), .string x146] 35 (0, 0)) :: (100080, g6, .cells #[.func (.func 102) #[] #[.pointer (some ⟨g4, 0, none⟩), .pointer (some ⟨g5, 0, none⟩)]] 120 (0, 0)) :: (100040, g2, .cells #[.int .i64 0, .int .i64 0, .slice none 0 0, .string (⟨#[]⟩ : ByteArray), .int .i64 0, .int .i64 0, .slice none 0 0] 44 (0, 0)) :: (100020, g1, .cells #[.int .i64 p0.fTerm, .int .i64 p0.fVote, .slice Ap0_0 p0.fVoters.length cp0_0, .string p0.fSnap, .int .i64 p0.fLog.fBase, .int .i64 p0.fLog.fBaseTerm, .slice Ap0_1 p0.fLog.fEntries.length cp0_1] 44 (0, 0)) :: H, R, φ⟩ [9] #[false, false, false, false, false, false, false, false, false, false] (fun W h => h.phi (fun W hφ => hφ)) mixed rfl rfl ?_
        refine ga_v (i := 0) #[true, false, false, false, false, false, false, false, false, false] rfl (by kernel_rfl) (fun _ _ _ _ h => h) rfl (r_field (n := 4) Try.underlying44 rfl Try.sizeOf26 rfl rfl) ?_
        refine ga_v (i := 1) #[true, true, false, false, false, false, false, false, false, false] rfl (by kernel_rfl) (fun _ _ _ _ h => h) rfl (r_loadA (tag := 100020) rfl rfl Try.isAgg26 Try.sizeOf26 rfl rfl) ?_
        refine ga_v (i := 2) #[true, true, true, false, false, false, false, false, false, false] rfl (by kernel_rfl) (fun _ _ _ _ h => h) rfl (r_move) ?_
        refine ga_v (i := 3) #[true, true, true, true, false, false, false, false, false, false] rfl (by kernel_rfl) (fun _ _ _ _ h => h) rfl (r_sub rfl rfl rfl) ?_
        refine ga_v (i := 5) #[true, true, true, true, false, true, false, false, false, false] rfl (by kernel_rfl) (fun _ _ _ _ h => h) rfl (r_loadA (tag := 100160) rfl rfl Try.isAgg35 Try.sizeOf35 rfl rfl) ?_
        replace hm := bnd hm
        obtain ⟨x368, hx369, hm⟩ := hm
        refine ga_two (i := 4) (j := 6) #[true, true, true, true, true, true, false, false, false, false] #[true, true, true, true, false, true, true, false, false, false] rfl rfl (by kernel_rfl) (by decide) (by decide) ?_ ?_
        ·
         refine ex_cn (first := #[]) ⟨w0, M, _, _, φ⟩ (fun _ h => h) Try.call73 rfl rfl rfl (c_plog_upto p0.fLog Ap0_1 cp0_1 hcp0_1 (fun W h => fp0_1 W h) (w64 (x134 - 1)) _ hx369) (fun ⟨A371, c372⟩ W hc372 h => (h.phi (fun _ hh => hh.1)).phi (fun W hφ => hφ)) (fun ⟨A371, c372⟩ hc372 => ?_)
         refine ga_abs (fun φ374 q374' => ?_)
         have q374 : ∀ W, φ374 W → φ W := fun W h => (q374' W h).1
         have f373 := fun (W : World) (h : φ374 W) => (q374' W h).2
         refine ga_e (i := 6) #[true, true, true, true, true, true, true, false, false, false] rfl (by kernel_rfl) (by decide) rfl  (e_lit (tag := 101330) (l := [(⟨x139, w64 b157, x146⟩ : GEntry)]) (enc := GEntry.enc) (sz := 3) rfl Try.underlying24 (lit35_5 _ _ _) rfl rfl (fun _ => rfl)) (fun g375 W _ h => ((h.shut (t := 101330) rfl).phi (fun _ hh => hh.1)).phi (fun W hφ => (q374 _ hφ))) (fun g375 _ => ?_)
         refine ga_shut (tag := 101330) rfl (fun φ376 q376' => ?_)
         have q376 : ∀ W, φ376 W → φ374 W := fun W h => (q376' W h).1
         have f377 := fun (W : World) (h : φ376 W) => (q376' W h).2
         replace hm := bnd hm
         obtain ⟨x378, hx379, hm⟩ := hm
         refine ga_cn (first := #[]) (i := 7) #[true, true, true, true, true, true, true, true, false, false] rfl (by kernel_rfl) (by decide)  ⟨w0, M, _, _, φ376⟩ (fun _ h => h) Try.call72 rfl rfl rfl (c_plog_Add x368 A371 c372 hc372 (fun W h => f373 W (q376 _ h)) [(⟨x139, w64 b157, x146⟩ : GEntry)] (some ⟨g375, 0, none⟩) 1 (Nat.le_refl _) (fun W h => f377 W h) _ hx379) (fun ⟨A380, c381⟩ W hc381 h => (h.phi (fun _ hh => hh.1)).phi (fun W hφ => (q374 _ (q376 _ hφ)))) (fun ⟨A380, c381⟩ hc381 => ?_)
         refine ga_abs (fun φ383 q383' => ?_)
         have q383 : ∀ W, φ383 W → φ376 W := fun W h => (q383' W h).1
         have f382 := fun (W : World) (h : φ383 W) => (q383' W h).2
         refine ga_r (i := 8) #[true, true, true, true, true, true, true, true, true, false] rfl (by kernel_rfl) (by decide) rfl (r_field (n := 4) Try.underlying44 rfl Try.sizeOf26 rfl rfl) ?_
         refine ga_lastL (i := 9) (tag := 100020) #[true, true, true, true, true, true, true, true, true, true] rfl (by kernel_rfl) (by decide) rfl rfl rfl rfl Try.sizeOf26 rfl rfl ?_
         refine gz_done (by kernel_rfl) ?_
         exact d_round (x378.fBase, x378.fBaseTerm, x378.fEntries, A380, c381) ⟨hm, hc381⟩ Nat.zero_lt_one ⟨rfl, rfl, trivial⟩ (fun W h => ((((h.dropH (t := 100060) rfl).dropH (t := 100070) rfl).dropH (t := 100160) rfl).dropH (t := 100080) rfl).phi (fun W hφ => ⟨(q374 _ (q376 _ (q383 _ hφ))), (fun W h => f382 W h) W hφ⟩))
        ·
         refine ex_e rfl (e_lit (tag := 101330) (l := [(⟨x139, w64 b157, x146⟩ : GEntry)]) (enc := GEntry.enc) (sz := 3) rfl Try.underlying24 (lit35_5 _ _ _) rfl rfl (fun _ => rfl)) (fun g384 W _ h => ((h.shut (t := 101330) rfl).phi (fun _ hh => hh.1)).phi (fun W hφ => hφ)) (fun g384 _ => ?_)
         refine ga_cn (first := #[]) (i := 4) #[true, true, true, true, true, true, true, false, false, false] rfl (by kernel_rfl) (by decide)  ⟨w0, M, _, _, φ⟩ (fun _ h => h) Try.call73 rfl rfl rfl (c_plog_upto p0.fLog Ap0_1 cp0_1 hcp0_1 (fun W h => fp0_1 W h) (w64 (x134 - 1)) _ hx369) (fun ⟨A385, c386⟩ W hc386 h => (((h.phi (fun _ hh => hh.1)).shut (t := 101330) rfl).phi (fun _ hh => hh.1)).phi (fun W hφ => hφ)) (fun ⟨A385, c386⟩ hc386 => ?_)
         refine ga_abs (fun φ388 q388' => ?_)
         have q388 : ∀ W, φ388 W → φ W := fun W h => (q388' W h).1
         have f387 := fun (W : World) (h : φ388 W) => (q388' W h).2
         refine ga_shut (tag := 101330) rfl (fun φ389 q389' => ?_)
         have q389 : ∀ W, φ389 W → φ388 W := fun W h => (q389' W h).1
         have f390 := fun (W : World) (h : φ389 W) => (q389' W h).2
         replace hm := bnd hm
         obtain ⟨x391, hx392, hm⟩ := hm
         refine ga_cn (first := #[]) (i := 7) #[true, true, true, true, true, true, true, true, false, false] rfl (by kernel_rfl) (by decide)  ⟨w0, M, _, _, φ389⟩ (fun _ h => h) Try.call72 rfl rfl rfl (c_plog_Add x368 A385 c386 hc386 (fun W h => f387 W (q389 _ h)) [(⟨x139, w64 b157, x146⟩ : GEntry)] (some ⟨g384, 0, none⟩) 1 (Nat.le_refl _) (fun W h => f390 W h) _ hx392) (fun ⟨A393, c394⟩ W hc394 h => (h.phi (fun _ hh => hh.1)).phi (fun W hφ => (q388 _ (q389 _ hφ)))) (fun ⟨A393, c394⟩ hc394 => ?_)
         refine ga_abs (fun φ396 q396' => ?_)
         have q396 : ∀ W, φ396 W → φ389 W := fun W h => (q396' W h).1
         have f395 := fun (W : World) (h : φ396 W) => (q396' W h).2
         refine ga_r (i := 8) #[true, true, true, true, true, true, true, true, true, false] rfl (by kernel_rfl) (by decide) rfl (r_field (n := 4) Try.underlying44 rfl Try.sizeOf26 rfl rfl) ?_
         refine ga_lastL (i := 9) (tag := 100020) #[true, true, true, true, true, true, true, true, true, true] rfl (by kernel_rfl) (by decide) rfl rfl rfl rfl Try.sizeOf26 rfl rfl ?_
         refine gz_done (by kernel_rfl) ?_
         exact d_round (x391.fBase, x391.fBaseTerm, x391.fEntries, A393, c394) ⟨hm, hc394⟩ Nat.zero_lt_one ⟨rfl, rfl, trivial⟩ (fun W h => ((((h.dropH (t := 100060) rfl).dropH (t := 100070) rfl).dropH (t := 100160) rfl).dropH (t := 100080) rfl).phi (fun W hφ => ⟨(q388 _ (q389 _ (q396 _ hφ))), (fun W h => f395 W h) W hφ⟩))
       ·
        unfold m_plog_read_j1 at hm
        refine d_abs (fun φ309 q309' => ?_)
        have q309 : ∀ W, φ309 W → φ W := fun W h => (q309' W h).1
        have f308 := fun (W : World) (h : φ309 W) => (q309' W h).2
        refine d_flat [(2, .pointer (some ⟨g1, 0, none⟩)), (4, .pointer (some ⟨g2, 0, none⟩))] ⟨rfl, rfl, trivial⟩ (fun u => ?_)
        refine d_sta ⟨w0, M, (100040, g2, .cells #[.int .i64 0, .int .i64 0, .slice none 0 0, .string (⟨#[]⟩ : ByteArray), .int .i64 0, .int .i64 0, .slice none 0 0] 44 (0, 0)) :: (100020, g1, .cells #[.int .i64 p0.fTerm, .int .i64 p0.fVote, .slice Ap0_0 p0.fVoters.length cp0_0, .string p0.fSnap, .int .i64 i303, .int .i64 i304, .slice A306 l305.length c307] 44 (0, 0)) :: H, R, φ309⟩ (fun _ h => h) ?_
        refine d_then ?_
        refine c_seq ?_
        refine c_region ?_
        refine g_v rfl (r_loadA (tag := 100020) rfl rfl Try.isAgg44 Try.sizeOf44 rfl rfl) ?_
        refine g_storeL (tag := 100040) rfl rfl rfl rfl Try.sizeOf44 rfl rfl ?_
        refine g_v rfl r_assign ?_
        refine g_nil ?_
        refine d_then ?_
        refine c_ret ?_
        refine d_ret_block ?_
        refine d_ret_then ?_
        replace hm := Option.some.inj hm
        subst hm
        refine d_retC (Ap0_0, cp0_0, A306, c307) Try.results93 ?_ ⟨hcp0_0, hc307⟩ (fun W h => ok_pre (H1 := [_, _]) (R1 := []) h (fun W hφ => ⟨(q309 _ hφ), (fun W h => fp0_0 W (q309 _ h)) W hφ, (fun W h => f308 W h) W hφ⟩)) (.inr rfl)
        refine res_agg (tag := 100040) rfl rfl Try.isAgg44 Try.sizeOf44 ?_
        refine res_tmp ?_
        refine res_nil ?_
        exact rfl
     ·
      replace hm := ite_t hm (of_decide_eq_true h151)
      refine g_no rfl rfl rfl rfl rfl h151 ?_
      refine g_no rfl rfl rfl rfl rfl h151 ?_
      refine g_no rfl rfl rfl rfl rfl h151 ?_
      refine g_no rfl rfl rfl rfl rfl h151 ?_
      refine g_no rfl rfl rfl rfl rfl h151 ?_
      refine g_v rfl (r_pick1 rfl h151) ?_
      refine g_nil ?_
      refine d_then ?_
      refine c_flat [(2, .pointer (some ⟨g1, 0, none⟩)), (4, .pointer (some ⟨g2, 0, none⟩)), (6, .pointer (some ⟨g4, 0, none⟩)), (15, .int .i64 x134), (16, .pointer (some ⟨g144, 0, none⟩)), (17, .string x145), (119, .bool true)] ⟨rfl, rfl, rfl, rfl, rfl, rfl, rfl, trivial⟩ (fun u => ?_)
      refine c_sta ⟨w0, M, (100060, g4, .cells #[.string x146] 9 (0, 0)) :: (100070, g5, .cells #[.bool x147] 4 (0, 0)) :: (100160, g144, .cells #[.int .i64 x139, .int .i64 0, .string (⟨#[]⟩ : ByteArray)] 35 (0, 0)) :: (100080, g6, .cells #[.func (.func 102) #[] #[.pointer (some ⟨g4, 0, none⟩), .pointer (some ⟨g5, 0, none⟩)]] 120 (0, 0)) :: (100040, g2, .cells #[.int .i64 0, .int .i64 0, .slice none 0 0, .string (⟨#[]⟩ : ByteArray), .int .i64 0, .int .i64 0, .slice none 0 0] 44 (0, 0)) :: (100020, g1, .cells #[.int .i64 p0.fTerm, .int .i64 p0.fVote, .slice Ap0_0 p0.fVoters.length cp0_0, .string p0.fSnap, .int .i64 p0.fLog.fBase, .int .i64 p0.fLog.fBaseTerm, .slice Ap0_1 p0.fLog.fEntries.length cp0_1] 44 (0, 0)) :: H, R, φ⟩ (fun _ h => h) ?_
      refine c_cond1 rfl rfl ?_
      refine c_seq ?_
      refine c_region ?_
      refine g_v rfl (r_loadA (tag := 100020) rfl rfl Try.isAgg44 Try.sizeOf44 rfl rfl) ?_
      refine g_storeL (tag := 100040) rfl rfl rfl rfl Try.sizeOf44 rfl rfl ?_
      refine g_v rfl r_assign ?_
      refine g_nil ?_
      refine d_then ?_
      refine c_ret ?_
      refine d_ret_then ?_
      refine d_ret_block ?_
      refine d_ret_then ?_
      replace hm := Option.some.inj hm
      subst hm
      refine d_retC (Ap0_0, cp0_0, Ap0_1, cp0_1) Try.results93 ?_ ⟨hcp0_0, hcp0_1⟩ (fun W h => ok_pre (H1 := [_, _, _, _, _, _]) (R1 := []) h (fun W hφ => ⟨hφ, (fun W h => fp0_0 W h) W hφ, (fun W h => fp0_1 W h) W hφ⟩)) (.inr rfl)
      refine res_agg (tag := 100040) rfl rfl Try.isAgg44 Try.sizeOf44 ?_
      refine res_tmp ?_
      refine res_nil ?_
      exact rfl
    ·
     replace hm := ite_t hm h150
     refine g_no rfl rfl rfl rfl rfl h150 ?_
     refine g_no rfl rfl rfl rfl rfl h150 ?_
     refine g_no rfl rfl rfl rfl rfl h150 ?_
     refine g_no rfl rfl rfl rfl rfl h150 ?_
     refine g_v rfl (r_pick1 rfl h150) ?_
     refine g_v rfl r_move ?_
     refine g_no rfl rfl rfl rfl rfl rfl ?_
     refine g_no rfl rfl rfl rfl rfl rfl ?_
     refine g_no rfl rfl rfl rfl rfl rfl ?_
     refine g_no rfl rfl rfl rfl rfl rfl ?_
     refine g_no rfl rfl rfl rfl rfl rfl ?_
     refine g_no rfl rfl rfl rfl rfl rfl ?_
     refine g_v rfl (r_pick1 rfl rfl) ?_
     refine g_nil ?_
     refine d_then ?_
     refine c_cond1 rfl rfl ?_
     refine c_seq ?_
     refine c_region ?_
     refine g_v rfl (r_loadA (tag := 100020) rfl rfl Try.isAgg44 Try.sizeOf44 rfl rfl) ?_
     refine g_storeL (tag := 100040) rfl rfl rfl rfl Try.sizeOf44 rfl rfl ?_
     refine g_v rfl r_assign ?_
     refine g_nil ?_
     refine d_then ?_
     refine c_flat [(4, .pointer (some ⟨g2, 0, none⟩)), (5, .bool false)] ⟨rfl, rfl, trivial⟩ (fun u => ?_)
     refine c_sta ⟨w0, M, (100060, g4, .cells #[.string x146] 9 (0, 0)) :: (100070, g5, .cells #[.bool x147] 4 (0, 0)) :: (100160, g144, .cells #[.int .i64 x139, .int .i64 0, .string (⟨#[]⟩ : ByteArray)] 35 (0, 0)) :: (100080, g6, .cells #[.func (.func 102) #[] #[.pointer (some ⟨g4, 0, none⟩), .pointer (some ⟨g5, 0, none⟩)]] 120 (0, 0)) :: (100040, g2, .cells #[.int .i64 p0.fTerm, .int .i64 p0.fVote, .slice Ap0_0 p0.fVoters.length cp0_0, .string p0.fSnap, .int .i64 p0.fLog.fBase, .int .i64 p0.fLog.fBaseTerm, .slice Ap0_1 p0.fLog.fEntries.length cp0_1] 44 (0, 0)) :: (100020, g1, .cells #[.int .i64 p0.fTerm, .int .i64 p0.fVote, .slice Ap0_0 p0.fVoters.length cp0_0, .string p0.fSnap, .int .i64 p0.fLog.fBase, .int .i64 p0.fLog.fBaseTerm, .slice Ap0_1 p0.fLog.fEntries.length cp0_1] 44 (0, 0)) :: H, R, φ⟩ (fun _ h => h) ?_
     refine c_ret ?_
     refine d_ret_then ?_
     refine d_ret_block ?_
     refine d_ret_then ?_
     replace hm := Option.some.inj hm
     subst hm
     refine d_retC (Ap0_0, cp0_0, Ap0_1, cp0_1) Try.results93 ?_ ⟨hcp0_0, hcp0_1⟩ (fun W h => ok_pre (H1 := [_, _, _, _, _, _]) (R1 := []) h (fun W hφ => ⟨hφ, (fun W h => fp0_0 W h) W hφ, (fun W h => fp0_1 W h) W hφ⟩)) (.inr rfl)
     refine res_agg (tag := 100040) rfl rfl Try.isAgg44 Try.sizeOf44 ?_
     refine res_tmp ?_
     refine res_nil ?_
     exact rfl
   ·
    replace hm := ite_f hm (of_decide_eq_false h133)
    refine c_skip ?_
    refine d_normal_block ?_
    refine d_then ?_
    refine c_seq ?_
    refine c_region ?_
    refine g_v rfl (r_loadA (tag := 100020) rfl rfl Try.isAgg44 Try.sizeOf44 rfl rfl) ?_
    refine g_storeL (tag := 100040) rfl rfl rfl rfl Try.sizeOf44 rfl rfl ?_
    refine g_v rfl r_assign ?_
    refine g_nil ?_
    refine d_then ?_
    refine c_ret ?_
    replace hm := Option.some.inj hm
    subst hm
    refine d_retC (Ap0_0, cp0_0, Ap0_1, cp0_1) Try.results93 ?_ ⟨hcp0_0, hcp0_1⟩ (fun W h => ok_pre (H1 := [_, _, _, _, _]) (R1 := []) h (fun W hφ => ⟨hφ, (fun W h => fp0_0 W h) W hφ, (fun W h => fp0_1 W h) W hφ⟩)) (.inr rfl)
    refine res_agg (tag := 100040) rfl rfl Try.isAgg44 Try.sizeOf44 ?_
    refine res_tmp ?_
    refine res_nil ?_
    exact rfl
end Go.Proofs.Ytildknbbpkbkeaa
