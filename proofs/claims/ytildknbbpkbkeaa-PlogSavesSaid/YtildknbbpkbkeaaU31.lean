import Derived.Test.YtildknbbpkbkeaaU2
set_option maxRecDepth 16384
set_option maxHeartbeats 4000000
set_option linter.unusedVariables false
set_option linter.unusedSimpArgs false
namespace Go.Proofs.Ytildknbbpkbkeaa
open Go.RowKit Go.Proofs.YtildknbbpkbkeaaW.PrintLast
structure GHard where
  fTerm : Int
  fVote : Int
  fVoters : List Int
  fSnap : ByteArray
  fLog : GLog
noncomputable def m_law11_tame_j2 (p0 : GHard) (l12 : List Int) (x3 : GLog) (s28 : ByteArray) : Option GHard :=
  some (⟨p0.fTerm, p0.fVote, l12, s28, x3⟩ : GHard)
noncomputable def m_law11_tame_j1 (p0 : GHard) (x3 : GLog) (l12 : List Int) : Option GHard :=
  if 200 < (p0.fSnap.size : Int) then
    (scutHi p0.fSnap 200).bind fun s30 =>
    m_law11_tame_j2 p0 l12 x3 s30
  else
    m_law11_tame_j2 p0 l12 x3 p0.fSnap
noncomputable def m_law11_tame (p0 : GHard) : Option GHard :=
  (m_law11_small p0.fLog).bind fun x3 =>
  if 70 < (p0.fVoters.length : Int) then
    (cutHi p0.fVoters 70).bind fun l24 =>
    m_law11_tame_j1 p0 x3 l24
  else
    m_law11_tame_j1 p0 x3 p0.fVoters
theorem c_law11_tame {w0 : World} {M : Nat → Prop} {H : List (Nat × Nat × Obj)} {R : List (Nat × Row)} {φ : World → Prop} (p0 : GHard) (Ap0_0 : Option Addr) (cp0_0 : Nat) (hcp0_0 : p0.fVoters.length ≤ cp0_0) (fp0_0 : ∀ W, φ W → Cl W Ap0_0 (p0.fVoters.flatMap (fun x : Int => [Value.int .i64 x]))) (Ap0_1 : Option Addr) (cp0_1 : Nat) (hcp0_1 : p0.fLog.fEntries.length ≤ cp0_1) (fp0_1 : ∀ W, (Sta.mk w0 M H R φ).ok W → Cl W Ap0_1 (p0.fLog.fEntries.flatMap GEntry.enc)) (r : GHard) (hm : m_law11_tame p0 = some r) :
    Cn Try.prog 40 #[.agg #[.int .i64 p0.fTerm, .int .i64 p0.fVote, .slice Ap0_0 p0.fVoters.length cp0_0, .string p0.fSnap, .int .i64 p0.fLog.fBase, .int .i64 p0.fLog.fBaseTerm, .slice Ap0_1 p0.fLog.fEntries.length cp0_1]] ⟨w0, M, H, R, φ⟩ (fun x : Option Addr × Nat × Option Addr × Nat => .agg #[.int .i64 r.fTerm, .int .i64 r.fVote, .slice x.1 r.fVoters.length x.2.1, .string r.fSnap, .int .i64 r.fLog.fBase, .int .i64 r.fLog.fBaseTerm, .slice x.2.2.1 r.fLog.fEntries.length x.2.2.2]) (fun x => r.fVoters.length ≤ x.2.1 ∧ r.fLog.fEntries.length ≤ x.2.2.2) (fun x => ⟨w0, M, H, R, fun W => φ W ∧ Cl W x.1 (r.fVoters.flatMap (fun x : Int => [Value.int .i64 x])) ∧ Cl W x.2.2.1 (r.fLog.fEntries.flatMap GEntry.enc)⟩) := by
 unfold m_law11_tame at hm
 refine cn_intro (fn := Try.f40) (N := 24) Try.func40 rfl Try.ntmps40 rfl ?_
 refine c_seq ?_
 refine c_region ?_
 refine g_e rfl (e_box 100010 rfl) (fun g1 _ => ?_)
 refine g_e rfl (e_alloc 100020 Try.zeroValue44) (fun g2 _ => ?_)
 refine g_nil ?_
 refine d_then ?_
 refine c_seq ?_
 refine c_region ?_
 refine g_v rfl (r_field (n := 4) Try.underlying44 rfl Try.sizeOf26 rfl rfl) ?_
 refine g_v rfl (r_loadA (tag := 100010) rfl rfl Try.isAgg26 Try.sizeOf26 rfl rfl) ?_
 replace hm := bnd hm
 obtain ⟨x3, hx4, hm⟩ := hm
 refine g_cn ⟨w0, M, _, _, φ⟩ (fun _ h => h) Try.call17 rfl rfl (c_law11_small p0.fLog Ap0_1 cp0_1 hcp0_1 (fun W hS => fp0_1 W (ok_pre (H1 := [_, _]) (R1 := []) hS (fun W h => h))) _ hx4) (fun ⟨A5, c6⟩ hc6 => ?_)
 refine g_abs (fun φ8 q8' => ?_)
 have q8 : ∀ W, φ8 W → φ W := fun W h => (q8' W h).1
 have f7 := fun (W : World) (h : φ8 W) => (q8' W h).2
 refine g_v rfl (r_field (n := 4) Try.underlying44 rfl Try.sizeOf26 rfl rfl) ?_
 refine g_storeL (tag := 100010) rfl rfl rfl rfl Try.sizeOf26 rfl rfl ?_
 refine g_nil ?_
 refine d_then ?_
 refine c_seq ?_
 refine c_cut (ι := (List Int) × Option Addr × Nat) [1, 2] (fun ⟨l12, A13, c14⟩ => []) (fun ⟨l12, A13, c14⟩ => ⟨w0, M, (100020, g2, .cells #[.int .i64 0, .int .i64 0, .slice none 0 0, .string (⟨#[]⟩ : ByteArray), .int .i64 0, .int .i64 0, .slice none 0 0] 44 (0, 0)) :: (100010, g1, .cells #[.int .i64 p0.fTerm, .int .i64 p0.fVote, .slice A13 l12.length c14, .string p0.fSnap, .int .i64 x3.fBase, .int .i64 x3.fBaseTerm, .slice A5 x3.fEntries.length c6] 44 (0, 0)) :: H, R, fun W => φ8 W ∧ Cl W A13 (l12.flatMap (fun x : Int => [Value.int .i64 x]))⟩) (fun ⟨l12, A13, c14⟩ => m_law11_tame_j1 p0 x3 l12 = some r ∧ l12.length ≤ c14) ?_ (fun ⟨l12, A13, c14⟩ u ⟨hm, hc14⟩ => ?_)
 ·
  refine c_seq ?_
  refine c_region ?_
  refine g_v rfl (r_field (n := 2) Try.underlying44 rfl Try.sizeOf42 rfl rfl) ?_
  refine g_v rfl (r_load (tag := 100010) rfl rfl rfl Try.isAgg42) ?_
  refine g_v rfl (r_lenL Try.underlying42 rfl) ?_
  refine g_v rfl (r_gtr rfl rfl) ?_
  refine g_nil ?_
  refine d_then ?_
  refine c_flat [(1, .pointer (some ⟨g1, 0, none⟩)), (2, .pointer (some ⟨g2, 0, none⟩)), (10, .bool (decide (70 < (p0.fVoters.length : Int))))] ⟨rfl, rfl, rfl, trivial⟩ (fun u => ?_)
  refine c_sta ⟨w0, M, (100020, g2, .cells #[.int .i64 0, .int .i64 0, .slice none 0 0, .string (⟨#[]⟩ : ByteArray), .int .i64 0, .int .i64 0, .slice none 0 0] 44 (0, 0)) :: (100010, g1, .cells #[.int .i64 p0.fTerm, .int .i64 p0.fVote, .slice Ap0_0 p0.fVoters.length cp0_0, .string p0.fSnap, .int .i64 x3.fBase, .int .i64 x3.fBaseTerm, .slice A5 x3.fEntries.length c6] 44 (0, 0)) :: H, R, φ8⟩ (fun _ h => h) ?_
  refine c_cond rfl (fun h22 => ?_) (fun h22 => ?_)
  ·
   replace hm := ite_t hm (of_decide_eq_true h22)
   refine c_region ?_
   refine g_v rfl (r_field (n := 2) Try.underlying44 rfl Try.sizeOf42 rfl rfl) ?_
   refine g_v rfl (r_load (tag := 100010) rfl rfl rfl Try.isAgg42) ?_
   replace hm := bnd hm
   obtain ⟨l24, hl24, hm⟩ := hm
   have f23 := fun (W : World) (h : φ W) => cl_cutHi (enc := (fun x : Int => [Value.int .i64 x])) (sz := 1) (fun _ => rfl) hl24 (fp0_0 W h)
   refine g_v rfl (r_lcutHi Try.underlying42 Try.sizeOf3 rfl hcp0_0 rfl hl24) ?_
   refine g_v rfl (r_field (n := 2) Try.underlying44 rfl Try.sizeOf42 rfl rfl) ?_
   refine g_storeL (tag := 100010) rfl rfl rfl rfl Try.sizeOf42 rfl rfl ?_
   refine g_nil ?_
   exact d_round (l24, Ap0_0, cp0_0) ⟨hm, (cutHi_len hcp0_0 hl24)⟩ Nat.zero_lt_one ⟨rfl, rfl, trivial⟩ (fun W h => h.phi (fun W hφ => ⟨hφ, (fun W h => f23 W (q8 _ h)) W hφ⟩))
  ·
   replace hm := ite_f hm (of_decide_eq_false h22)
   refine c_skip ?_
   exact d_round (p0.fVoters, Ap0_0, cp0_0) ⟨hm, hcp0_0⟩ Nat.zero_lt_one ⟨rfl, rfl, trivial⟩ (fun W h => h.phi (fun W hφ => ⟨hφ, (fun W h => fp0_0 W (q8 _ h)) W hφ⟩))
 ·
  unfold m_law11_tame_j1 at hm
  refine d_abs (fun φ25 q25' => ?_)
  have q25 : ∀ W, φ25 W → φ8 W := fun W h => (q25' W h).1
  have f15 := fun (W : World) (h : φ25 W) => (q25' W h).2
  refine d_flat [(1, .pointer (some ⟨g1, 0, none⟩)), (2, .pointer (some ⟨g2, 0, none⟩))] ⟨rfl, rfl, trivial⟩ (fun u => ?_)
  refine d_sta ⟨w0, M, (100020, g2, .cells #[.int .i64 0, .int .i64 0, .slice none 0 0, .string (⟨#[]⟩ : ByteArray), .int .i64 0, .int .i64 0, .slice none 0 0] 44 (0, 0)) :: (100010, g1, .cells #[.int .i64 p0.fTerm, .int .i64 p0.fVote, .slice A13 l12.length c14, .string p0.fSnap, .int .i64 x3.fBase, .int .i64 x3.fBaseTerm, .slice A5 x3.fEntries.length c6] 44 (0, 0)) :: H, R, φ25⟩ (fun _ h => h) ?_
  refine d_then ?_
  refine c_seq ?_
  refine c_cut (ι := ByteArray) [1, 2] (fun s28 => []) (fun s28 => ⟨w0, M, (100020, g2, .cells #[.int .i64 0, .int .i64 0, .slice none 0 0, .string (⟨#[]⟩ : ByteArray), .int .i64 0, .int .i64 0, .slice none 0 0] 44 (0, 0)) :: (100010, g1, .cells #[.int .i64 p0.fTerm, .int .i64 p0.fVote, .slice A13 l12.length c14, .string s28, .int .i64 x3.fBase, .int .i64 x3.fBaseTerm, .slice A5 x3.fEntries.length c6] 44 (0, 0)) :: H, R, φ25⟩) (fun s28 => m_law11_tame_j2 p0 l12 x3 s28 = some r) ?_ (fun s28 u hm => ?_)
  ·
   refine c_seq ?_
   refine c_region ?_
   refine g_v rfl (r_field (n := 3) Try.underlying44 rfl Try.sizeOf9 rfl rfl) ?_
   refine g_v rfl (r_load (tag := 100010) rfl rfl rfl Try.isAgg9) ?_
   refine g_v rfl (r_len Try.underlying9 rfl) ?_
   refine g_v rfl (r_gtr rfl rfl) ?_
   refine g_nil ?_
   refine d_then ?_
   refine c_cond rfl (fun h29 => ?_) (fun h29 => ?_)
   ·
    replace hm := ite_t hm (of_decide_eq_true h29)
    refine c_region ?_
    refine g_v rfl (r_field (n := 3) Try.underlying44 rfl Try.sizeOf9 rfl rfl) ?_
    refine g_v rfl (r_load (tag := 100010) rfl rfl rfl Try.isAgg9) ?_
    replace hm := bnd hm
    obtain ⟨s30, hs30, hm⟩ := hm
    refine g_v rfl (r_scutHi Try.underlying9 rfl rfl hs30) ?_
    refine g_v rfl (r_field (n := 3) Try.underlying44 rfl Try.sizeOf9 rfl rfl) ?_
    refine g_storeL (tag := 100010) rfl rfl rfl rfl Try.sizeOf9 rfl rfl ?_
    refine g_nil ?_
    exact d_round s30 hm Nat.zero_lt_one ⟨rfl, rfl, trivial⟩ (fun W h => h.phi (fun W hφ => hφ))
   ·
    replace hm := ite_f hm (of_decide_eq_false h29)
    refine c_skip ?_
    exact d_round p0.fSnap hm Nat.zero_lt_one ⟨rfl, rfl, trivial⟩ (fun W h => h.phi (fun W hφ => hφ))
  ·
   unfold m_law11_tame_j2 at hm
   refine d_flat [(1, .pointer (some ⟨g1, 0, none⟩)), (2, .pointer (some ⟨g2, 0, none⟩))] ⟨rfl, rfl, trivial⟩ (fun u => ?_)
   refine d_sta ⟨w0, M, (100020, g2, .cells #[.int .i64 0, .int .i64 0, .slice none 0 0, .string (⟨#[]⟩ : ByteArray), .int .i64 0, .int .i64 0, .slice none 0 0] 44 (0, 0)) :: (100010, g1, .cells #[.int .i64 p0.fTerm, .int .i64 p0.fVote, .slice A13 l12.length c14, .string s28, .int .i64 x3.fBase, .int .i64 x3.fBaseTerm, .slice A5 x3.fEntries.length c6] 44 (0, 0)) :: H, R, φ25⟩ (fun _ h => h) ?_
   refine d_then ?_
   refine c_seq ?_
   refine c_region ?_
   refine g_v rfl (r_loadA (tag := 100010) rfl rfl Try.isAgg44 Try.sizeOf44 rfl rfl) ?_
   refine g_storeL (tag := 100020) rfl rfl rfl rfl Try.sizeOf44 rfl rfl ?_
   refine g_nil ?_
   refine d_then ?_
   refine c_ret ?_
   replace hm := Option.some.inj hm
   subst hm
   refine d_retC (A13, c14, A5, c6) Try.results40 ?_ ⟨hc14, hc6⟩ (fun W h => ok_pre (H1 := [_, _]) (R1 := []) h (fun W hφ => ⟨(q8 _ (q25 _ hφ)), (fun W h => f15 W h) W hφ, (fun W h => f7 W (q25 _ h)) W hφ⟩)) (.inr rfl)
   refine res_agg (tag := 100020) rfl rfl Try.isAgg44 Try.sizeOf44 ?_
   refine res_nil ?_
   exact rfl

theorem lit5_13 (z0 : Int) : Try.prog.builtSlice 5 1 [(0, .int .u8 z0)] = some #[.int .u8 z0] := by kernel_rfl
noncomputable def m_ref11_Data_s2 (p0 : List Int) (l128 : List Int) (i131 : Int) : Option (((List Int) × Int) ⊕ (List Int)) :=
  if i131 < (p0.length : Int) then
    (at_ p0 i131).bind fun x157 =>
    (app 1 l128 [IntKind.u8.wrap x157]).bind fun l162 =>
    some (.inl (l162, w64 (i131 + 1)))
  else
    some (.inr l128)
noncomputable def m_ref11_Data_j1  (l112 : List Int) : Option ByteArray :=
  some (strOfNums l112)
noncomputable def m_ref11_Data (p0 : List Int) : Option ByteArray :=
  (loop (fun s => m_ref11_Data_s2 p0 s.1 s.2) (([] : List Int), 0)).bind fun e => m_ref11_Data_j1 e
theorem c_ref11_Data {w0 : World} {M : Nat → Prop} {H : List (Nat × Nat × Obj)} {R : List (Nat × Row)} {φ : World → Prop} (p0 : List Int) (Ap0_0 : Option Addr) (cp0_0 : Nat) (hcp0_0 : p0.length ≤ cp0_0) (fp0_0 : ∀ W, (Sta.mk w0 M H R φ).ok W → Cl W Ap0_0 (p0.flatMap (fun x : Int => [Value.int .i64 x]))) (r : ByteArray) (hm : m_ref11_Data p0 = some r) :
    Cn Try.prog 29 #[.slice Ap0_0 p0.length cp0_0] ⟨w0, M, H, R, φ⟩ (fun x : Unit => .string r) (fun x => True) (fun x => ⟨w0, M, H, R, φ⟩) := by
 unfold m_ref11_Data at hm
 refine cn_intro (fn := Try.f29) (N := 21) Try.func29 rfl Try.ntmps29 rfl ?_
 refine c_seq ?_
 refine c_region ?_
 refine g_v rfl r_assign ?_
 refine g_nil ?_
 refine d_then ?_
 refine c_seq ?_
 refine c_region ?_
 refine g_v rfl r_assign ?_
 refine g_nil ?_
 refine d_then ?_
 refine c_seq ?_
 refine c_seq ?_
 refine c_region ?_
 refine g_v rfl r_assign ?_
 refine g_nil ?_
 refine d_then ?_
 refine c_sta _ (fun W h => nilR h 3 5 1) ?_
 refine c_cut (ι := (List Int) × Option Addr × Nat) [3] (fun ⟨l112, A113, c114⟩ => [(3, .slice A113 l112.length c114)]) (fun ⟨l112, A113, c114⟩ => ⟨w0, M, H, (3, ⟨.slice A113 l112.length c114, 5, 1, l112.length, l112.flatMap (fun x : Int => [Value.int .u8 x])⟩) :: R, φ⟩) (fun ⟨l112, A113, c114⟩ => m_ref11_Data_j1 l112 = some r ∧ l112.length ≤ c114) ?_ (fun ⟨l112, A113, c114⟩ u ⟨hm, hc114⟩ => ?_)
 ·
  refine c_block ?_
  replace hm := bnd hm
  obtain ⟨out2, hl2, hr2⟩ := hm
  obtain ⟨n145', hl2⟩ := loop_lp hl2
  refine c_loopU (ι := Nat × (List Int) × Int × Option Addr × Nat) [0, 3, 4] (fun ⟨n145, l128, i131, A129, c130⟩ => [(3, .slice A129 l128.length c130), (4, .int .i64 i131)]) (fun ⟨n145, l128, i131, A129, c130⟩ => ⟨w0, M, H, (3, ⟨.slice A129 l128.length c130, 5, 1, l128.length, l128.flatMap (fun x : Int => [Value.int .u8 x])⟩) :: R, φ⟩) (fun ⟨n145, l128, i131, A129, c130⟩ => Lp (fun s => m_ref11_Data_s2 p0 s.1 s.2) n145 (l128, i131) out2 ∧ l128.length ≤ c130) (fun ⟨n145, l128, i131, A129, c130⟩ => n145) (n145', ([] : List Int), 0, none, 0) ⟨hl2, (Nat.le_refl 0)⟩ ⟨rfl, rfl, rfl, trivial⟩ (fun W h => h.phi (fun W hφ => hφ)) (fun ⟨n145, l128, i131, A129, c130⟩ u ⟨hlp, hc130⟩ => ?_)
  obtain ⟨o2, hm, hnx2⟩ := lp_step hlp
  clear hlp
  replace hm : m_ref11_Data_s2 p0 l128 i131 = some o2 := hm
  unfold m_ref11_Data_s2 at hm
  refine c_flat [(0, .slice Ap0_0 p0.length cp0_0), (3, .slice A129 l128.length c130), (4, .int .i64 i131)] ⟨rfl, rfl, rfl, trivial⟩ (fun u => ?_)
  refine c_sta ⟨w0, M, H, (3, ⟨.slice A129 l128.length c130, 5, 1, l128.length, l128.flatMap (fun x : Int => [Value.int .u8 x])⟩) :: R, φ⟩ (fun _ h => h) ?_
  refine c_seq ?_
  refine c_seq ?_
  refine c_region ?_
  refine g_v rfl r_move ?_
  refine g_v rfl r_move ?_
  refine g_v rfl (r_lenL Try.underlying42 rfl) ?_
  refine g_v rfl (r_lss rfl rfl) ?_
  refine g_nil ?_
  refine d_then ?_
  refine c_cond rfl (fun h156 => ?_) (fun h156 => ?_)
  ·
   replace hm := ite_t hm (of_decide_eq_true h156)
   refine c_skip ?_
   refine d_then ?_
   refine c_seq ?_
   refine c_block ?_
   refine c_region ?_
   refine g_v rfl r_move ?_
   refine g_v rfl r_move ?_
   refine g_v rfl r_move ?_
   replace hm := bnd hm
   obtain ⟨x157, hx157, hm⟩ := hm
   refine g_know _ (fun W hS => cl_at (p := (Sta.mk w0 M H R φ).ok) (sz := 1) (fun _ => rfl) (by decide) (ok_pre (H1 := []) (R1 := [_]) hS (fun W h => h)) fp0_0 hx157) ?_
   rintro ⟨ad158, hA160, f159⟩
   refine g_v rfl (r_ix Try.underlying42 Try.sizeOf3 rfl hA160 rfl hx157) ?_
   refine g_v rfl (r_ld rfl Try.isAgg3 (fun W hS => Cl.head (f159 W (ok_pre (H1 := []) (R1 := [_]) hS (fun W h => h))))) ?_
   refine g_v rfl (r_conv Try.underlying3 Try.underlying5 rfl rfl) ?_
   refine g_e rfl (e_lit (tag := 100170) (l := [IntKind.u8.wrap x157]) (enc := (fun x : Int => [Value.int .u8 x])) (sz := 1) rfl Try.underlying95 (lit5_13 _) rfl rfl (fun _ => rfl)) (fun g161 _ => ?_)
   replace hm := bnd hm
   obtain ⟨l162, hl162, hm⟩ := hm
   refine g_e rfl (e_appR (enc := (fun x : Int => [Value.int .u8 x])) (l := l128) (l1 := [IntKind.u8.wrap x157]) (l2 := l162) (tag := 3) Try.underlying95 inf5_4 rfl (by decide) (by decide) (fun _ => rfl) (fun _ => rfl) rfl hc130 rfl rfl (fun W hS => rowCl (tag := 100170) rfl W hS) hl162) (fun ⟨A163, c164⟩ hc164 => ?_)
   refine g_v rfl r_assign ?_
   refine g_nil ?_
   refine d_normal_block ?_
   refine d_then ?_
   refine c_flat [(0, .slice Ap0_0 p0.length cp0_0), (3, .slice A163 l162.length c164), (4, .int .i64 i131)] ⟨rfl, rfl, rfl, trivial⟩ (fun u => ?_)
   refine c_sta ⟨w0, M, H, (100170, ⟨.slice (some ⟨g161, 0, none⟩) [IntKind.u8.wrap x157].length 1, 5, 1, [IntKind.u8.wrap x157].length, [IntKind.u8.wrap x157].flatMap (fun x : Int => [Value.int .u8 x])⟩) :: (3, ⟨.slice A163 l162.length c164, 5, 1, l162.length, l162.flatMap (fun x : Int => [Value.int .u8 x])⟩) :: R, φ⟩ (fun _ h => h) ?_
   refine c_region ?_
   refine g_v rfl r_move ?_
   refine g_v rfl (r_add rfl rfl rfl) ?_
   refine g_v rfl r_assign ?_
   refine g_nil ?_
   obtain ⟨n165, hn165, hlp⟩ := nx_inl hm hnx2
   exact d_round (n165, l162, w64 (i131 + 1), A163, c164) ⟨hlp, hc164⟩ hn165 ⟨rfl, rfl, rfl, trivial⟩ (fun W h => ((h.shut (t := 100170) rfl).phi (fun _ hh => hh.1)).phi (fun W hφ => hφ))
  ·
   replace hm := ite_f hm (of_decide_eq_false h156)
   refine c_exit ?_
   refine d_exit_then ?_
   refine d_exit_then ?_
   refine d_exit_block ?_
   replace hm := nx_out (C := (fun e => m_ref11_Data_j1 e = some r)) hm hnx2 hr2
   exact d_round (l128, A129, c130) ⟨hm, hc130⟩ Nat.zero_lt_one ⟨rfl, trivial⟩ (fun W h => h.phi (fun W hφ => hφ))
 ·
  unfold m_ref11_Data_j1 at hm
  refine d_flat [(3, .slice A113 l112.length c114)] ⟨rfl, trivial⟩ (fun u => ?_)
  refine d_sta ⟨w0, M, H, (3, ⟨.slice A113 l112.length c114, 5, 1, l112.length, l112.flatMap (fun x : Int => [Value.int .u8 x])⟩) :: R, φ⟩ (fun _ h => h) ?_
  refine d_then ?_
  refine c_seq ?_
  refine c_region ?_
  refine g_v rfl r_move ?_
  refine g_v rfl (r_textE Try.underlying95 Try.underlying5 Try.underlying9 rfl (fun W hS => rowCl (tag := 3) rfl W hS)) ?_
  refine g_v rfl r_assign ?_
  refine g_nil ?_
  refine d_then ?_
  refine c_ret ?_
  replace hm := Option.some.inj hm
  subst hm
  refine d_retC () Try.results29 ?_ trivial (fun W h => ok_pre (H1 := []) (R1 := [_]) h (fun W hφ => hφ)) (.inr rfl)
  refine res_tmp ?_
  refine res_nil ?_
  exact rfl

noncomputable def m_ref11_SameInts_s2 (p0 : List Int) (p1 : List Int) (i139 : Int) : Option (Int ⊕ (Unit ⊕ Bool)) :=
  if i139 < (p0.length : Int) then
    (at_ p0 i139).bind fun x212 =>
    (at_ p1 i139).bind fun x216 =>
    if x212 ≠ x216 then
      some (.inr (.inr false))
    else
      some (.inl (w64 (i139 + 1)))
  else
    some (.inr (.inl ()))
noncomputable def m_ref11_SameInts_j1  : Option Bool :=
  some true
noncomputable def m_ref11_SameInts (p0 : List Int) (p1 : List Int) : Option Bool :=
  if (p0.length : Int) ≠ (p1.length : Int) then
    some false
  else
    (loop (fun s => m_ref11_SameInts_s2 p0 p1 s) 0).bind fun e => Sum.elim (fun e => m_ref11_SameInts_j1) (fun x => some x) e
theorem c_ref11_SameInts {w0 : World} {M : Nat → Prop} {H : List (Nat × Nat × Obj)} {R : List (Nat × Row)} {φ : World → Prop} (p0 : List Int) (Ap0_0 : Option Addr) (cp0_0 : Nat) (hcp0_0 : p0.length ≤ cp0_0) (fp0_0 : ∀ W, (Sta.mk w0 M H R φ).ok W → Cl W Ap0_0 (p0.flatMap (fun x : Int => [Value.int .i64 x]))) (p1 : List Int) (Ap1_0 : Option Addr) (cp1_0 : Nat) (hcp1_0 : p1.length ≤ cp1_0) (fp1_0 : ∀ W, (Sta.mk w0 M H R φ).ok W → Cl W Ap1_0 (p1.flatMap (fun x : Int => [Value.int .i64 x]))) (r : Bool) (hm : m_ref11_SameInts p0 p1 = some r) :
    Cn Try.prog 25 #[.slice Ap0_0 p0.length cp0_0, .slice Ap1_0 p1.length cp1_0] ⟨w0, M, H, R, φ⟩ (fun x : Unit => .bool r) (fun x => True) (fun x => ⟨w0, M, H, R, φ⟩) := by
 unfold m_ref11_SameInts at hm
 refine cn_intro (fn := Try.f25) (N := 26) Try.func25 rfl Try.ntmps25 rfl ?_
 refine c_seq ?_
 refine c_region ?_
 refine g_v rfl r_assign ?_
 refine g_nil ?_
 refine d_then ?_
 refine c_seq ?_
 refine c_seq ?_
 refine c_region ?_
 refine g_v rfl r_move ?_
 refine g_v rfl (r_lenL Try.underlying42 rfl) ?_
 refine g_v rfl r_move ?_
 refine g_v rfl (r_lenL Try.underlying42 rfl) ?_
 refine g_v rfl (r_neq rfl rfl) ?_
 refine g_nil ?_
 refine d_then ?_
 refine c_cond rfl (fun h1 => ?_) (fun h1 => ?_)
 ·
  replace hm := ite_t hm (of_decide_eq_true h1)
  refine c_seq ?_
  refine c_region ?_
  refine g_v rfl r_assign ?_
  refine g_nil ?_
  refine d_then ?_
  refine c_ret ?_
  refine d_ret_then ?_
  replace hm := Option.some.inj hm
  subst hm
  refine d_retC () Try.results25 ?_ trivial (fun W h => ok_pre (H1 := []) (R1 := []) h (fun W hφ => hφ)) (.inr rfl)
  refine res_tmp ?_
  refine res_nil ?_
  exact rfl
 ·
  replace hm := ite_f hm (of_decide_eq_false h1)
  refine c_skip ?_
  refine d_then ?_
  refine c_seq ?_
  refine c_seq ?_
  refine c_region ?_
  refine g_v rfl r_assign ?_
  refine g_nil ?_
  refine d_then ?_
  refine c_cut (ι := Unit) [] (fun _ => []) (fun _ => ⟨w0, M, H, R, φ⟩) (fun _ => m_ref11_SameInts_j1 = some r) ?_ (fun _ u hm => ?_)
  ·
   refine c_block ?_
   replace hm := bnd hm
   obtain ⟨out2, hl2, hr2⟩ := hm
   obtain ⟨n167', hl2⟩ := loop_lp hl2
   refine c_loopU (ι := Nat × Int) [0, 1, 5] (fun ⟨n167, i139⟩ => [(5, .int .i64 i139)]) (fun ⟨n167, i139⟩ => ⟨w0, M, H, R, φ⟩) (fun ⟨n167, i139⟩ => Lp (fun s => m_ref11_SameInts_s2 p0 p1 s) n167 i139 out2) (fun ⟨n167, i139⟩ => n167) (n167', 0) hl2 ⟨rfl, rfl, rfl, trivial⟩ (fun W h => h.phi (fun W hφ => hφ)) (fun ⟨n167, i139⟩ u hlp => ?_)
   obtain ⟨o2, hm, hnx2⟩ := lp_step hlp
   clear hlp
   replace hm : m_ref11_SameInts_s2 p0 p1 i139 = some o2 := hm
   unfold m_ref11_SameInts_s2 at hm
   refine c_flat [(0, .slice Ap0_0 p0.length cp0_0), (1, .slice Ap1_0 p1.length cp1_0), (5, .int .i64 i139)] ⟨rfl, rfl, rfl, trivial⟩ (fun u => ?_)
   refine c_sta ⟨w0, M, H, R, φ⟩ (fun _ h => h) ?_
   refine c_seq ?_
   refine c_seq ?_
   refine c_region ?_
   refine g_v rfl r_move ?_
   refine g_v rfl r_move ?_
   refine g_v rfl (r_lenL Try.underlying42 rfl) ?_
   refine g_v rfl (r_lss rfl rfl) ?_
   refine g_nil ?_
   refine d_then ?_
   refine c_cond rfl (fun h195 => ?_) (fun h195 => ?_)
   ·
    replace hm := ite_t hm (of_decide_eq_true h195)
    refine c_skip ?_
    refine d_then ?_
    refine c_seq ?_
    refine c_block ?_
    refine c_seq ?_
    refine ga_start (n := 9) ⟨w0, M, H, R, φ⟩ [] #[false, false, false, false, false, false, false, false, false] (fun W h => h.phi (fun W hφ => hφ)) mixed rfl rfl ?_
    refine ga_v (i := 0) #[true, false, false, false, false, false, false, false, false] rfl (by kernel_rfl) (fun _ _ _ _ h => h) rfl (r_move) ?_
    refine ga_v (i := 1) #[true, true, false, false, false, false, false, false, false] rfl (by kernel_rfl) (fun _ _ _ _ h => h) rfl (r_move) ?_
    replace hm := bnd hm
    obtain ⟨x212, hx212, hm⟩ := hm
    refine ga_know _ (fun W hS => cl_at (p := (Sta.mk w0 M H R φ).ok) (sz := 1) (fun _ => rfl) (by decide) (ok_pre (H1 := []) (R1 := []) hS (fun W h => h)) fp0_0 hx212) ?_
    rintro ⟨ad213, hA215, f214⟩
    refine ga_v (i := 2) #[true, true, true, false, false, false, false, false, false] rfl (by kernel_rfl) (fun _ _ _ _ h => h) rfl (r_ix Try.underlying42 Try.sizeOf3 rfl hA215 rfl hx212) ?_
    refine ga_v (i := 3) #[true, true, true, true, false, false, false, false, false] rfl (by kernel_rfl) (fun _ _ _ _ h => h) rfl (r_ld rfl Try.isAgg3 (fun W hS => Cl.head (f214 W (ok_pre (H1 := []) (R1 := []) hS (fun W h => h))))) ?_
    refine ga_v (i := 4) #[true, true, true, true, true, false, false, false, false] rfl (by kernel_rfl) (fun _ _ _ _ h => h) rfl (r_move) ?_
    refine ga_r (i := 5) #[true, true, true, true, true, true, false, false, false] rfl (by kernel_rfl) (by decide) rfl (r_move) ?_
    replace hm := bnd hm
    obtain ⟨x216, hx216, hm⟩ := hm
    refine ga_know _ (fun W hS => cl_at (p := (Sta.mk w0 M H R φ).ok) (sz := 1) (fun _ => rfl) (by decide) (ok_pre (H1 := []) (R1 := []) hS (fun W h => h)) fp1_0 hx216) ?_
    rintro ⟨ad217, hA219, f218⟩
    refine ga_r (i := 6) #[true, true, true, true, true, true, true, false, false] rfl (by kernel_rfl) (by decide) rfl (r_ix Try.underlying42 Try.sizeOf3 rfl hA219 rfl hx216) ?_
    refine ga_r (i := 7) #[true, true, true, true, true, true, true, true, false] rfl (by kernel_rfl) (by decide) rfl (r_ld rfl Try.isAgg3 (fun W hS => Cl.head (f218 W (ok_pre (H1 := []) (R1 := []) hS (fun W h => h))))) ?_
    refine ga_r (i := 8) #[true, true, true, true, true, true, true, true, true] rfl (by kernel_rfl) (by decide) rfl (r_neq rfl rfl) ?_
    refine ga_done (by kernel_rfl) ?_
    refine d_then ?_
    refine c_flat [(0, .slice Ap0_0 p0.length cp0_0), (1, .slice Ap1_0 p1.length cp1_0), (5, .int .i64 i139), (25, .bool (decide (x212 ≠ x216)))] ⟨rfl, rfl, rfl, rfl, trivial⟩ (fun u => ?_)
    refine c_sta ⟨w0, M, H, R, φ⟩ (fun _ h => h) ?_
    refine c_cond rfl (fun h220 => ?_) (fun h220 => ?_)
    ·
     replace hm := ite_t hm (of_decide_eq_true h220)
     refine c_seq ?_
     refine c_region ?_
     refine g_v rfl r_assign ?_
     refine g_nil ?_
     refine d_then ?_
     refine c_ret ?_
     refine d_ret_block ?_
     refine d_ret_then ?_
     refine d_ret_then ?_
     refine d_ret_block ?_
     refine d_ret_then ?_
     refine d_ret_then ?_
     replace hm := nx_out (C := (fun e => Sum.elim (fun e => m_ref11_SameInts_j1) (fun x => some x) e = some r)) hm hnx2 hr2
     replace hm : some false = some r := hm
     replace hm := Option.some.inj hm
     subst hm
     refine d_retC () Try.results25 ?_ trivial (fun W h => ok_pre (H1 := []) (R1 := []) h (fun W hφ => hφ)) (.inr rfl)
     refine res_tmp ?_
     refine res_nil ?_
     exact rfl
    ·
     replace hm := ite_f hm (of_decide_eq_false h220)
     refine c_skip ?_
     refine d_normal_block ?_
     refine d_then ?_
     refine c_region ?_
     refine g_v rfl r_move ?_
     refine g_v rfl (r_add rfl rfl rfl) ?_
     refine g_v rfl r_assign ?_
     refine g_nil ?_
     obtain ⟨n221, hn221, hlp⟩ := nx_inl hm hnx2
     exact d_round (n221, w64 (i139 + 1)) hlp hn221 ⟨rfl, rfl, rfl, trivial⟩ (fun W h => h.phi (fun W hφ => hφ))
   ·
    replace hm := ite_f hm (of_decide_eq_false h195)
    refine c_exit ?_
    refine d_exit_then ?_
    refine d_exit_then ?_
    refine d_exit_block ?_
    replace hm := nx_out (C := (fun e => Sum.elim (fun e => m_ref11_SameInts_j1) (fun x => some x) e = some r)) hm hnx2 hr2
    exact d_round () hm Nat.zero_lt_one trivial (fun W h => h.phi (fun W hφ => hφ))
  ·
   unfold m_ref11_SameInts_j1 at hm
   refine d_flat [] trivial (fun u => ?_)
   refine d_sta ⟨w0, M, H, R, φ⟩ (fun _ h => h) ?_
   refine d_then ?_
   refine c_seq ?_
   refine c_region ?_
   refine g_v rfl r_assign ?_
   refine g_nil ?_
   refine d_then ?_
   refine c_ret ?_
   replace hm := Option.some.inj hm
   subst hm
   refine d_retC () Try.results25 ?_ trivial (fun W h => ok_pre (H1 := []) (R1 := []) h (fun W hφ => hφ)) (.inr rfl)
   refine res_tmp ?_
   refine res_nil ?_
   exact rfl

noncomputable def m_law11_sameTexts_s2 (p0 : List ByteArray) (p1 : List ByteArray) (i139 : Int) : Option (Int ⊕ (Unit ⊕ Bool)) :=
  if i139 < (p0.length : Int) then
    (at_ p0 i139).bind fun x212 =>
    (at_ p1 i139).bind fun x216 =>
    if x212 = x216 then
      some (.inl (w64 (i139 + 1)))
    else
      some (.inr (.inr false))
  else
    some (.inr (.inl ()))
noncomputable def m_law11_sameTexts_j1  : Option Bool :=
  some true
noncomputable def m_law11_sameTexts (p0 : List ByteArray) (p1 : List ByteArray) : Option Bool :=
  if (p0.length : Int) ≠ (p1.length : Int) then
    some false
  else
    (loop (fun s => m_law11_sameTexts_s2 p0 p1 s) 0).bind fun e => Sum.elim (fun e => m_law11_sameTexts_j1) (fun x => some x) e
theorem c_law11_sameTexts {w0 : World} {M : Nat → Prop} {H : List (Nat × Nat × Obj)} {R : List (Nat × Row)} {φ : World → Prop} (p0 : List ByteArray) (Ap0_0 : Option Addr) (cp0_0 : Nat) (hcp0_0 : p0.length ≤ cp0_0) (fp0_0 : ∀ W, (Sta.mk w0 M H R φ).ok W → Cl W Ap0_0 (p0.flatMap (fun x : ByteArray => [Value.string x]))) (p1 : List ByteArray) (Ap1_0 : Option Addr) (cp1_0 : Nat) (hcp1_0 : p1.length ≤ cp1_0) (fp1_0 : ∀ W, (Sta.mk w0 M H R φ).ok W → Cl W Ap1_0 (p1.flatMap (fun x : ByteArray => [Value.string x]))) (r : Bool) (hm : m_law11_sameTexts p0 p1 = some r) :
    Cn Try.prog 43 #[.slice Ap0_0 p0.length cp0_0, .slice Ap1_0 p1.length cp1_0] ⟨w0, M, H, R, φ⟩ (fun x : Unit => .bool r) (fun x => True) (fun x => ⟨w0, M, H, R, φ⟩) := by
 unfold m_law11_sameTexts at hm
 refine cn_intro (fn := Try.f43) (N := 26) Try.func43 rfl Try.ntmps43 rfl ?_
 refine c_seq ?_
 refine c_region ?_
 refine g_v rfl r_assign ?_
 refine g_nil ?_
 refine d_then ?_
 refine c_seq ?_
 refine c_seq ?_
 refine c_region ?_
 refine g_v rfl r_move ?_
 refine g_v rfl (r_lenL Try.underlying58 rfl) ?_
 refine g_v rfl r_move ?_
 refine g_v rfl (r_lenL Try.underlying58 rfl) ?_
 refine g_v rfl (r_neq rfl rfl) ?_
 refine g_nil ?_
 refine d_then ?_
 refine c_cond rfl (fun h1 => ?_) (fun h1 => ?_)
 ·
  replace hm := ite_t hm (of_decide_eq_true h1)
  refine c_seq ?_
  refine c_region ?_
  refine g_v rfl r_assign ?_
  refine g_nil ?_
  refine d_then ?_
  refine c_ret ?_
  refine d_ret_then ?_
  replace hm := Option.some.inj hm
  subst hm
  refine d_retC () Try.results43 ?_ trivial (fun W h => ok_pre (H1 := []) (R1 := []) h (fun W hφ => hφ)) (.inr rfl)
  refine res_tmp ?_
  refine res_nil ?_
  exact rfl
 ·
  replace hm := ite_f hm (of_decide_eq_false h1)
  refine c_skip ?_
  refine d_then ?_
  refine c_seq ?_
  refine c_seq ?_
  refine c_region ?_
  refine g_v rfl r_assign ?_
  refine g_nil ?_
  refine d_then ?_
  refine c_cut (ι := Unit) [] (fun _ => []) (fun _ => ⟨w0, M, H, R, φ⟩) (fun _ => m_law11_sameTexts_j1 = some r) ?_ (fun _ u hm => ?_)
  ·
   refine c_block ?_
   replace hm := bnd hm
   obtain ⟨out2, hl2, hr2⟩ := hm
   obtain ⟨n167', hl2⟩ := loop_lp hl2
   refine c_loopU (ι := Nat × Int) [0, 1, 5] (fun ⟨n167, i139⟩ => [(5, .int .i64 i139)]) (fun ⟨n167, i139⟩ => ⟨w0, M, H, R, φ⟩) (fun ⟨n167, i139⟩ => Lp (fun s => m_law11_sameTexts_s2 p0 p1 s) n167 i139 out2) (fun ⟨n167, i139⟩ => n167) (n167', 0) hl2 ⟨rfl, rfl, rfl, trivial⟩ (fun W h => h.phi (fun W hφ => hφ)) (fun ⟨n167, i139⟩ u hlp => ?_)
   obtain ⟨o2, hm, hnx2⟩ := lp_step hlp
   clear hlp
   replace hm : m_law11_sameTexts_s2 p0 p1 i139 = some o2 := hm
   unfold m_law11_sameTexts_s2 at hm
   refine c_flat [(0, .slice Ap0_0 p0.length cp0_0), (1, .slice Ap1_0 p1.length cp1_0), (5, .int .i64 i139)] ⟨rfl, rfl, rfl, trivial⟩ (fun u => ?_)
   refine c_sta ⟨w0, M, H, R, φ⟩ (fun _ h => h) ?_
   refine c_seq ?_
   refine c_seq ?_
   refine c_region ?_
   refine g_v rfl r_move ?_
   refine g_v rfl r_move ?_
   refine g_v rfl (r_lenL Try.underlying58 rfl) ?_
   refine g_v rfl (r_lss rfl rfl) ?_
   refine g_nil ?_
   refine d_then ?_
   refine c_cond rfl (fun h195 => ?_) (fun h195 => ?_)
   ·
    replace hm := ite_t hm (of_decide_eq_true h195)
    refine c_skip ?_
    refine d_then ?_
    refine c_seq ?_
    refine c_block ?_
    refine c_seq ?_
    refine ga_start (n := 9) ⟨w0, M, H, R, φ⟩ [] #[false, false, false, false, false, false, false, false, false] (fun W h => h.phi (fun W hφ => hφ)) mixed rfl rfl ?_
    refine ga_v (i := 0) #[true, false, false, false, false, false, false, false, false] rfl (by kernel_rfl) (fun _ _ _ _ h => h) rfl (r_move) ?_
    refine ga_v (i := 1) #[true, true, false, false, false, false, false, false, false] rfl (by kernel_rfl) (fun _ _ _ _ h => h) rfl (r_move) ?_
    replace hm := bnd hm
    obtain ⟨x212, hx212, hm⟩ := hm
    refine ga_know _ (fun W hS => cl_at (p := (Sta.mk w0 M H R φ).ok) (sz := 1) (fun _ => rfl) (by decide) (ok_pre (H1 := []) (R1 := []) hS (fun W h => h)) fp0_0 hx212) ?_
    rintro ⟨ad213, hA215, f214⟩
    refine ga_v (i := 2) #[true, true, true, false, false, false, false, false, false] rfl (by kernel_rfl) (fun _ _ _ _ h => h) rfl (r_ix Try.underlying58 Try.sizeOf9 rfl hA215 rfl hx212) ?_
    refine ga_v (i := 3) #[true, true, true, true, false, false, false, false, false] rfl (by kernel_rfl) (fun _ _ _ _ h => h) rfl (r_ld rfl Try.isAgg9 (fun W hS => Cl.head (f214 W (ok_pre (H1 := []) (R1 := []) hS (fun W h => h))))) ?_
    refine ga_v (i := 4) #[true, true, true, true, true, false, false, false, false] rfl (by kernel_rfl) (fun _ _ _ _ h => h) rfl (r_move) ?_
    refine ga_r (i := 5) #[true, true, true, true, true, true, false, false, false] rfl (by kernel_rfl) (by decide) rfl (r_move) ?_
    replace hm := bnd hm
    obtain ⟨x216, hx216, hm⟩ := hm
    refine ga_know _ (fun W hS => cl_at (p := (Sta.mk w0 M H R φ).ok) (sz := 1) (fun _ => rfl) (by decide) (ok_pre (H1 := []) (R1 := []) hS (fun W h => h)) fp1_0 hx216) ?_
    rintro ⟨ad217, hA219, f218⟩
    refine ga_r (i := 6) #[true, true, true, true, true, true, true, false, false] rfl (by kernel_rfl) (by decide) rfl (r_ix Try.underlying58 Try.sizeOf9 rfl hA219 rfl hx216) ?_
    refine ga_r (i := 7) #[true, true, true, true, true, true, true, true, false] rfl (by kernel_rfl) (by decide) rfl (r_ld rfl Try.isAgg9 (fun W hS => Cl.head (f218 W (ok_pre (H1 := []) (R1 := []) hS (fun W h => h))))) ?_
    refine ga_r (i := 8) #[true, true, true, true, true, true, true, true, true] rfl (by kernel_rfl) (by decide) rfl (r_neqT rfl rfl) ?_
    refine ga_done (by kernel_rfl) ?_
    refine d_then ?_
    refine c_flat [(0, .slice Ap0_0 p0.length cp0_0), (1, .slice Ap1_0 p1.length cp1_0), (5, .int .i64 i139), (25, .bool (!(decide (x212 = x216))))] ⟨rfl, rfl, rfl, rfl, trivial⟩ (fun u => ?_)
    refine c_sta ⟨w0, M, H, R, φ⟩ (fun _ h => h) ?_
    refine c_cond rfl (fun h220 => ?_) (fun h220 => ?_)
    ·
     have h220' : (decide (x212 = x216)) = false := by revert h220; cases (decide (x212 = x216)) <;> simp
     replace hm := ite_f hm (of_decide_eq_false h220')
     refine c_seq ?_
     refine c_region ?_
     refine g_v rfl r_assign ?_
     refine g_nil ?_
     refine d_then ?_
     refine c_ret ?_
     refine d_ret_block ?_
     refine d_ret_then ?_
     refine d_ret_then ?_
     refine d_ret_block ?_
     refine d_ret_then ?_
     refine d_ret_then ?_
     replace hm := nx_out (C := (fun e => Sum.elim (fun e => m_law11_sameTexts_j1) (fun x => some x) e = some r)) hm hnx2 hr2
     replace hm : some false = some r := hm
     replace hm := Option.some.inj hm
     subst hm
     refine d_retC () Try.results43 ?_ trivial (fun W h => ok_pre (H1 := []) (R1 := []) h (fun W hφ => hφ)) (.inr rfl)
     refine res_tmp ?_
     refine res_nil ?_
     exact rfl
    ·
     have h220' : (decide (x212 = x216)) = true := by revert h220; cases (decide (x212 = x216)) <;> simp
     replace hm := ite_t hm (of_decide_eq_true h220')
     refine c_skip ?_
     refine d_normal_block ?_
     refine d_then ?_
     refine c_region ?_
     refine g_v rfl r_move ?_
     refine g_v rfl (r_add rfl rfl rfl) ?_
     refine g_v rfl r_assign ?_
     refine g_nil ?_
     obtain ⟨n221, hn221, hlp⟩ := nx_inl hm hnx2
     exact d_round (n221, w64 (i139 + 1)) hlp hn221 ⟨rfl, rfl, rfl, trivial⟩ (fun W h => h.phi (fun W hφ => hφ))
   ·
    replace hm := ite_f hm (of_decide_eq_false h195)
    refine c_exit ?_
    refine d_exit_then ?_
    refine d_exit_then ?_
    refine d_exit_block ?_
    replace hm := nx_out (C := (fun e => Sum.elim (fun e => m_law11_sameTexts_j1) (fun x => some x) e = some r)) hm hnx2 hr2
    exact d_round () hm Nat.zero_lt_one trivial (fun W h => h.phi (fun W hφ => hφ))
  ·
   unfold m_law11_sameTexts_j1 at hm
   refine d_flat [] trivial (fun u => ?_)
   refine d_sta ⟨w0, M, H, R, φ⟩ (fun _ h => h) ?_
   refine d_then ?_
   refine c_seq ?_
   refine c_region ?_
   refine g_v rfl r_assign ?_
   refine g_nil ?_
   refine d_then ?_
   refine c_ret ?_
   replace hm := Option.some.inj hm
   subst hm
   refine d_retC () Try.results43 ?_ trivial (fun W h => ok_pre (H1 := []) (R1 := []) h (fun W hφ => hφ)) (.inr rfl)
   refine res_tmp ?_
   refine res_nil ?_
   exact rfl

noncomputable def m_plog_shared_78_s2 (p0 : List GEntry) (p1 : List GEntry) (i164 : Int) : Option (Int ⊕ Int) :=
  if i164 < (p0.length : Int) then
    if i164 < (p1.length : Int) then
      (at_ p0 i164).bind fun x252 =>
      (at_ p1 i164).bind fun x256 =>
      if x252 = x256 then
        some (.inl (w64 (i164 + 1)))
      else
        some (.inr i164)
    else
      some (.inr i164)
  else
    some (.inr i164)
noncomputable def m_plog_shared_78_j1  (i131 : Int) : Option Int :=
  some i131
noncomputable def m_plog_shared_78 (p0 : List GEntry) (p1 : List GEntry) : Option Int :=
  (loop (fun s => m_plog_shared_78_s2 p0 p1 s) 0).bind fun e => m_plog_shared_78_j1 e
theorem c_plog_shared_78 {w0 : World} {M : Nat → Prop} {H : List (Nat × Nat × Obj)} {R : List (Nat × Row)} {φ : World → Prop} (p0 : List GEntry) (Ap0_0 : Option Addr) (cp0_0 : Nat) (hcp0_0 : p0.length ≤ cp0_0) (fp0_0 : ∀ W, (Sta.mk w0 M H R φ).ok W → Cl W Ap0_0 (p0.flatMap GEntry.enc)) (p1 : List GEntry) (Ap1_0 : Option Addr) (cp1_0 : Nat) (hcp1_0 : p1.length ≤ cp1_0) (fp1_0 : ∀ W, (Sta.mk w0 M H R φ).ok W → Cl W Ap1_0 (p1.flatMap GEntry.enc)) (r : Int) (hm : m_plog_shared_78 p0 p1 = some r) :
    Cn Try.prog 78 #[.slice Ap0_0 p0.length cp0_0, .slice Ap1_0 p1.length cp1_0] ⟨w0, M, H, R, φ⟩ (fun x : Unit => .int .i64 r) (fun x => True) (fun x => ⟨w0, M, H, R, φ⟩) := by
 unfold m_plog_shared_78 at hm
 refine cn_intro (fn := Try.f78) (N := 30) Try.func78 rfl Try.ntmps78 rfl ?_
 refine c_seq ?_
 refine c_region ?_
 refine g_v rfl r_assign ?_
 refine g_nil ?_
 refine d_then ?_
 refine c_seq ?_
 refine c_region ?_
 refine g_v rfl r_assign ?_
 refine g_nil ?_
 refine d_then ?_
 refine c_seq ?_
 refine c_cut (ι := Int) [5] (fun i131 => [(5, .int .i64 i131)]) (fun i131 => ⟨w0, M, H, R, φ⟩) (fun i131 => m_plog_shared_78_j1 i131 = some r) ?_ (fun i131 u hm => ?_)
 ·
  refine c_block ?_
  replace hm := bnd hm
  obtain ⟨out2, hl2, hr2⟩ := hm
  obtain ⟨n197', hl2⟩ := loop_lp hl2
  refine c_loopU (ι := Nat × Int) [0, 1, 5] (fun ⟨n197, i164⟩ => [(5, .int .i64 i164)]) (fun ⟨n197, i164⟩ => ⟨w0, M, H, R, φ⟩) (fun ⟨n197, i164⟩ => Lp (fun s => m_plog_shared_78_s2 p0 p1 s) n197 i164 out2) (fun ⟨n197, i164⟩ => n197) (n197', 0) hl2 ⟨rfl, rfl, rfl, trivial⟩ (fun W h => h.phi (fun W hφ => hφ)) (fun ⟨n197, i164⟩ u hlp => ?_)
  obtain ⟨o2, hm, hnx2⟩ := lp_step hlp
  clear hlp
  replace hm : m_plog_shared_78_s2 p0 p1 i164 = some o2 := hm
  unfold m_plog_shared_78_s2 at hm
  refine c_flat [(0, .slice Ap0_0 p0.length cp0_0), (1, .slice Ap1_0 p1.length cp1_0), (5, .int .i64 i164)] ⟨rfl, rfl, rfl, trivial⟩ (fun u => ?_)
  refine c_sta ⟨w0, M, H, R, φ⟩ (fun _ h => h) ?_
  refine c_seq ?_
  refine c_seq ?_
  refine ga_start (n := 21) ⟨w0, M, H, R, φ⟩ [] #[false, false, false, false, false, false, false, false, false, false, false, false, false, false, false, false, false, false, false, false, false] (fun W h => h.phi (fun W hφ => hφ)) mixed rfl rfl ?_
  refine ga_v (i := 0) #[true, false, false, false, false, false, false, false, false, false, false, false, false, false, false, false, false, false, false, false, false] rfl (by kernel_rfl) (fun _ _ _ _ h => h) rfl (r_move) ?_
  refine ga_r (i := 1) #[true, true, false, false, false, false, false, false, false, false, false, false, false, false, false, false, false, false, false, false, false] rfl (by kernel_rfl) (by decide) rfl (r_move) ?_
  refine ga_r (i := 2) #[true, true, true, false, false, false, false, false, false, false, false, false, false, false, false, false, false, false, false, false, false] rfl (by kernel_rfl) (by decide) rfl (r_lenL Try.underlying24 rfl) ?_
  refine ga_r (i := 3) #[true, true, true, true, false, false, false, false, false, false, false, false, false, false, false, false, false, false, false, false, false] rfl (by kernel_rfl) (by decide) rfl (r_lss rfl rfl) ?_
  refine ga_r (i := 4) #[true, true, true, true, true, false, false, false, false, false, false, false, false, false, false, false, false, false, false, false, false] rfl (by kernel_rfl) (by decide) rfl (r_move) ?_
  refine ga_if (t := 10) rfl (fun h250 => ?_) (fun h250 => ?_)
  ·
   replace hm := ite_t hm (of_decide_eq_true h250)
   refine ga_do (i := 5) #[true, true, true, true, true, true, false, false, false, false, false, false, false, false, false, false, false, false, false, false, false] rfl (by kernel_rfl) (fun _ _ _ _ h => h) rfl rfl rfl rfl rfl h250 (r_move) ?_
   refine ga_rG (i := 6) #[true, true, true, true, true, true, true, false, false, false, false, false, false, false, false, false, false, false, false, false, false] rfl (by kernel_rfl) (by decide) rfl rfl rfl rfl rfl h250 (r_move) ?_
   refine ga_rG (i := 7) #[true, true, true, true, true, true, true, true, false, false, false, false, false, false, false, false, false, false, false, false, false] rfl (by kernel_rfl) (by decide) rfl rfl rfl rfl rfl h250 (r_lenL Try.underlying24 rfl) ?_
   refine ga_rG (i := 8) #[true, true, true, true, true, true, true, true, true, false, false, false, false, false, false, false, false, false, false, false, false] rfl (by kernel_rfl) (by decide) rfl rfl rfl rfl rfl h250 (r_lss rfl rfl) ?_
   refine ga_r (i := 9) #[true, true, true, true, true, true, true, true, true, true, false, false, false, false, false, false, false, false, false, false, false] rfl (by kernel_rfl) (by decide) rfl (r_pick1 rfl h250) ?_
   refine ga_r (i := 10) #[true, true, true, true, true, true, true, true, true, true, true, false, false, false, false, false, false, false, false, false, false] rfl (by kernel_rfl) (by decide) rfl (r_move) ?_
   refine ga_if (t := 16) rfl (fun h251 => ?_) (fun h251 => ?_)
   ·
    replace hm := ite_t hm (of_decide_eq_true h251)
    refine ga_do (i := 11) #[true, true, true, true, true, true, true, true, true, true, true, true, false, false, false, false, false, false, false, false, false] rfl (by kernel_rfl) (fun _ _ _ _ h => h) rfl rfl rfl rfl rfl h251 (r_move) ?_
    refine ga_do (i := 12) #[true, true, true, true, true, true, true, true, true, true, true, true, true, false, false, false, false, false, false, false, false] rfl (by kernel_rfl) (fun _ _ _ _ h => h) rfl rfl rfl rfl rfl h251 (r_move) ?_
    replace hm := bnd hm
    obtain ⟨x252, hx252, hm⟩ := hm
    refine ga_know _ (fun W hS => cl_at (p := (Sta.mk w0 M H R φ).ok) (sz := 3) (fun _ => rfl) (by decide) (ok_pre (H1 := []) (R1 := []) hS (fun W h => h)) fp0_0 hx252) ?_
    rintro ⟨ad253, hA255, f254⟩
    refine ga_do (i := 13) #[true, true, true, true, true, true, true, true, true, true, true, true, true, true, false, false, false, false, false, false, false] rfl (by kernel_rfl) (fun _ _ _ _ h => h) rfl rfl rfl rfl rfl h251 (r_ix Try.underlying24 Try.sizeOf35 rfl hA255 rfl hx252) ?_
    refine ga_do (i := 14) #[true, true, true, true, true, true, true, true, true, true, true, true, true, true, true, false, false, false, false, false, false] rfl (by kernel_rfl) (fun _ _ _ _ h => h) rfl rfl rfl rfl rfl h251 (r_ldA rfl Try.isAgg35 Try.sizeOf35 (fun W hS => (f254 W (ok_pre (H1 := []) (R1 := []) hS (fun W h => h))).take 3) rfl) ?_
    refine ga_do (i := 15) #[true, true, true, true, true, true, true, true, true, true, true, true, true, true, true, true, false, false, false, false, false] rfl (by kernel_rfl) (fun _ _ _ _ h => h) rfl rfl rfl rfl rfl h251 (r_move) ?_
    refine ga_rG (i := 16) #[true, true, true, true, true, true, true, true, true, true, true, true, true, true, true, true, true, false, false, false, false] rfl (by kernel_rfl) (by decide) rfl rfl rfl rfl rfl h251 (r_move) ?_
    replace hm := bnd hm
    obtain ⟨x256, hx256, hm⟩ := hm
    refine ga_know _ (fun W hS => cl_at (p := (Sta.mk w0 M H R φ).ok) (sz := 3) (fun _ => rfl) (by decide) (ok_pre (H1 := []) (R1 := []) hS (fun W h => h)) fp1_0 hx256) ?_
    rintro ⟨ad257, hA259, f258⟩
    refine ga_rG (i := 17) #[true, true, true, true, true, true, true, true, true, true, true, true, true, true, true, true, true, true, false, false, false] rfl (by kernel_rfl) (by decide) rfl rfl rfl rfl rfl h251 (r_ix Try.underlying24 Try.sizeOf35 rfl hA259 rfl hx256) ?_
    refine ga_rG (i := 18) #[true, true, true, true, true, true, true, true, true, true, true, true, true, true, true, true, true, true, true, false, false] rfl (by kernel_rfl) (by decide) rfl rfl rfl rfl rfl h251 (r_ldA rfl Try.isAgg35 Try.sizeOf35 (fun W hS => (f258 W (ok_pre (H1 := []) (R1 := []) hS (fun W h => h))).take 3) rfl) ?_
    refine ga_rG (i := 19) #[true, true, true, true, true, true, true, true, true, true, true, true, true, true, true, true, true, true, true, true, false] rfl (by kernel_rfl) (by decide) rfl rfl rfl rfl rfl h251 (r_eqlA rfl rfl eqg35 (eqq35 x252 x256)) ?_
    refine ga_r (i := 20) #[true, true, true, true, true, true, true, true, true, true, true, true, true, true, true, true, true, true, true, true, true] rfl (by kernel_rfl) (by decide) rfl (r_pick1 rfl h251) ?_
    refine ga_done (by kernel_rfl) ?_
    refine d_then ?_
    refine c_flat [(0, .slice Ap0_0 p0.length cp0_0), (1, .slice Ap1_0 p1.length cp1_0), (5, .int .i64 i164), (26, .bool (decide (x252 = x256)))] ⟨rfl, rfl, rfl, rfl, trivial⟩ (fun u => ?_)
    refine c_sta ⟨w0, M, H, R, φ⟩ (fun _ h => h) ?_
    refine c_cond rfl (fun h260 => ?_) (fun h260 => ?_)
    ·
     replace hm := ite_t hm (of_decide_eq_true h260)
     refine c_skip ?_
     refine d_then ?_
     refine c_block ?_
     refine c_region ?_
     refine g_v rfl r_move ?_
     refine g_v rfl (r_add rfl rfl rfl) ?_
     refine g_v rfl r_assign ?_
     refine g_nil ?_
     refine d_normal_block ?_
     obtain ⟨n261, hn261, hlp⟩ := nx_inl hm hnx2
     exact d_round (n261, w64 (i164 + 1)) hlp hn261 ⟨rfl, rfl, rfl, trivial⟩ (fun W h => h.phi (fun W hφ => hφ))
    ·
     replace hm := ite_f hm (of_decide_eq_false h260)
     refine c_exit ?_
     refine d_exit_then ?_
     refine d_exit_then ?_
     refine d_exit_block ?_
     replace hm := nx_out (C := (fun e => m_plog_shared_78_j1 e = some r)) hm hnx2 hr2
     exact d_round i164 hm Nat.zero_lt_one ⟨rfl, trivial⟩ (fun W h => h.phi (fun W hφ => hφ))
   ·
    replace hm := ite_f hm (of_decide_eq_false h251)
    refine ga_no (i := 11) #[true, true, true, true, true, true, true, true, true, true, true, true, false, false, false, false, false, false, false, false, false] rfl (by kernel_rfl) (fun _ _ _ _ h => h) rfl rfl rfl rfl rfl h251 ?_
    refine ga_no (i := 12) #[true, true, true, true, true, true, true, true, true, true, true, true, true, false, false, false, false, false, false, false, false] rfl (by kernel_rfl) (fun _ _ _ _ h => h) rfl rfl rfl rfl rfl h251 ?_
    refine ga_no (i := 13) #[true, true, true, true, true, true, true, true, true, true, true, true, true, true, false, false, false, false, false, false, false] rfl (by kernel_rfl) (fun _ _ _ _ h => h) rfl rfl rfl rfl rfl h251 ?_
    refine ga_no (i := 14) #[true, true, true, true, true, true, true, true, true, true, true, true, true, true, true, false, false, false, false, false, false] rfl (by kernel_rfl) (fun _ _ _ _ h => h) rfl rfl rfl rfl rfl h251 ?_
    refine ga_no (i := 15) #[true, true, true, true, true, true, true, true, true, true, true, true, true, true, true, true, false, false, false, false, false] rfl (by kernel_rfl) (fun _ _ _ _ h => h) rfl rfl rfl rfl rfl h251 ?_
    refine ga_no (i := 16) #[true, true, true, true, true, true, true, true, true, true, true, true, true, true, true, true, true, false, false, false, false] rfl (by kernel_rfl) (fun _ _ _ _ h => h) rfl rfl rfl rfl rfl h251 ?_
    refine ga_no (i := 17) #[true, true, true, true, true, true, true, true, true, true, true, true, true, true, true, true, true, true, false, false, false] rfl (by kernel_rfl) (fun _ _ _ _ h => h) rfl rfl rfl rfl rfl h251 ?_
    refine ga_no (i := 18) #[true, true, true, true, true, true, true, true, true, true, true, true, true, true, true, true, true, true, true, false, false] rfl (by kernel_rfl) (fun _ _ _ _ h => h) rfl rfl rfl rfl rfl h251 ?_
    refine ga_no (i := 19) #[true, true, true, true, true, true, true, true, true, true, true, true, true, true, true, true, true, true, true, true, false] rfl (by kernel_rfl) (fun _ _ _ _ h => h) rfl rfl rfl rfl rfl h251 ?_
    refine ga_r (i := 20) #[true, true, true, true, true, true, true, true, true, true, true, true, true, true, true, true, true, true, true, true, true] rfl (by kernel_rfl) (by decide) rfl (r_pick0 rfl h251) ?_
    refine ga_done (by kernel_rfl) ?_
    refine d_then ?_
    refine c_flat [(0, .slice Ap0_0 p0.length cp0_0), (1, .slice Ap1_0 p1.length cp1_0), (5, .int .i64 i164), (26, .bool false)] ⟨rfl, rfl, rfl, rfl, trivial⟩ (fun u => ?_)
    refine c_sta ⟨w0, M, H, R, φ⟩ (fun _ h => h) ?_
    refine c_cond0 rfl rfl ?_
    refine c_exit ?_
    refine d_exit_then ?_
    refine d_exit_then ?_
    refine d_exit_block ?_
    replace hm := nx_out (C := (fun e => m_plog_shared_78_j1 e = some r)) hm hnx2 hr2
    exact d_round i164 hm Nat.zero_lt_one ⟨rfl, trivial⟩ (fun W h => h.phi (fun W hφ => hφ))
  ·
   replace hm := ite_f hm (of_decide_eq_false h250)
   refine ga_no (i := 5) #[true, true, true, true, true, true, false, false, false, false, false, false, false, false, false, false, false, false, false, false, false] rfl (by kernel_rfl) (fun _ _ _ _ h => h) rfl rfl rfl rfl rfl h250 ?_
   refine ga_no (i := 6) #[true, true, true, true, true, true, true, false, false, false, false, false, false, false, false, false, false, false, false, false, false] rfl (by kernel_rfl) (fun _ _ _ _ h => h) rfl rfl rfl rfl rfl h250 ?_
   refine ga_no (i := 7) #[true, true, true, true, true, true, true, true, false, false, false, false, false, false, false, false, false, false, false, false, false] rfl (by kernel_rfl) (fun _ _ _ _ h => h) rfl rfl rfl rfl rfl h250 ?_
   refine ga_no (i := 8) #[true, true, true, true, true, true, true, true, true, false, false, false, false, false, false, false, false, false, false, false, false] rfl (by kernel_rfl) (fun _ _ _ _ h => h) rfl rfl rfl rfl rfl h250 ?_
   refine ga_r (i := 9) #[true, true, true, true, true, true, true, true, true, true, false, false, false, false, false, false, false, false, false, false, false] rfl (by kernel_rfl) (by decide) rfl (r_pick0 rfl h250) ?_
   refine ga_r (i := 10) #[true, true, true, true, true, true, true, true, true, true, true, false, false, false, false, false, false, false, false, false, false] rfl (by kernel_rfl) (by decide) rfl (r_move) ?_
   refine ga_no (i := 11) #[true, true, true, true, true, true, true, true, true, true, true, true, false, false, false, false, false, false, false, false, false] rfl (by kernel_rfl) (fun _ _ _ _ h => h) rfl rfl rfl rfl rfl rfl ?_
   refine ga_no (i := 12) #[true, true, true, true, true, true, true, true, true, true, true, true, true, false, false, false, false, false, false, false, false] rfl (by kernel_rfl) (fun _ _ _ _ h => h) rfl rfl rfl rfl rfl rfl ?_
   refine ga_no (i := 13) #[true, true, true, true, true, true, true, true, true, true, true, true, true, true, false, false, false, false, false, false, false] rfl (by kernel_rfl) (fun _ _ _ _ h => h) rfl rfl rfl rfl rfl rfl ?_
   refine ga_no (i := 14) #[true, true, true, true, true, true, true, true, true, true, true, true, true, true, true, false, false, false, false, false, false] rfl (by kernel_rfl) (fun _ _ _ _ h => h) rfl rfl rfl rfl rfl rfl ?_
   refine ga_no (i := 15) #[true, true, true, true, true, true, true, true, true, true, true, true, true, true, true, true, false, false, false, false, false] rfl (by kernel_rfl) (fun _ _ _ _ h => h) rfl rfl rfl rfl rfl rfl ?_
   refine ga_no (i := 16) #[true, true, true, true, true, true, true, true, true, true, true, true, true, true, true, true, true, false, false, false, false] rfl (by kernel_rfl) (fun _ _ _ _ h => h) rfl rfl rfl rfl rfl rfl ?_
   refine ga_no (i := 17) #[true, true, true, true, true, true, true, true, true, true, true, true, true, true, true, true, true, true, false, false, false] rfl (by kernel_rfl) (fun _ _ _ _ h => h) rfl rfl rfl rfl rfl rfl ?_
   refine ga_no (i := 18) #[true, true, true, true, true, true, true, true, true, true, true, true, true, true, true, true, true, true, true, false, false] rfl (by kernel_rfl) (fun _ _ _ _ h => h) rfl rfl rfl rfl rfl rfl ?_
   refine ga_no (i := 19) #[true, true, true, true, true, true, true, true, true, true, true, true, true, true, true, true, true, true, true, true, false] rfl (by kernel_rfl) (fun _ _ _ _ h => h) rfl rfl rfl rfl rfl rfl ?_
   refine ga_r (i := 20) #[true, true, true, true, true, true, true, true, true, true, true, true, true, true, true, true, true, true, true, true, true] rfl (by kernel_rfl) (by decide) rfl (r_pick0 rfl rfl) ?_
   refine ga_done (by kernel_rfl) ?_
   refine d_then ?_
   refine c_cond0 rfl rfl ?_
   refine c_exit ?_
   refine d_exit_then ?_
   refine d_exit_then ?_
   refine d_exit_block ?_
   replace hm := nx_out (C := (fun e => m_plog_shared_78_j1 e = some r)) hm hnx2 hr2
   exact d_round i164 hm Nat.zero_lt_one ⟨rfl, trivial⟩ (fun W h => h.phi (fun W hφ => hφ))
 ·
  unfold m_plog_shared_78_j1 at hm
  refine d_flat [(5, .int .i64 i131)] ⟨rfl, trivial⟩ (fun u => ?_)
  refine d_sta ⟨w0, M, H, R, φ⟩ (fun _ h => h) ?_
  refine d_then ?_
  refine c_seq ?_
  refine c_region ?_
  refine g_v rfl r_move ?_
  refine g_v rfl r_assign ?_
  refine g_nil ?_
  refine d_then ?_
  refine c_ret ?_
  replace hm := Option.some.inj hm
  subst hm
  refine d_retC () Try.results78 ?_ trivial (fun W h => ok_pre (H1 := []) (R1 := []) h (fun W hφ => hφ)) (.inr rfl)
  refine res_tmp ?_
  refine res_nil ?_
  exact rfl

noncomputable def m_slices_Equal_80_s2 (p0 : List Int) (p1 : List Int) (i139 : Int) : Option (Int ⊕ (Unit ⊕ Bool)) :=
  if i139 < (p0.length : Int) then
    (at_ p0 i139).bind fun x212 =>
    (at_ p1 i139).bind fun x216 =>
    if x212 ≠ x216 then
      some (.inr (.inr false))
    else
      some (.inl (w64 (i139 + 1)))
  else
    some (.inr (.inl ()))
noncomputable def m_slices_Equal_80_j1  : Option Bool :=
  some true
noncomputable def m_slices_Equal_80 (p0 : List Int) (p1 : List Int) : Option Bool :=
  if (p0.length : Int) ≠ (p1.length : Int) then
    some false
  else
    (loop (fun s => m_slices_Equal_80_s2 p0 p1 s) 0).bind fun e => Sum.elim (fun e => m_slices_Equal_80_j1) (fun x => some x) e
theorem c_slices_Equal_80 {w0 : World} {M : Nat → Prop} {H : List (Nat × Nat × Obj)} {R : List (Nat × Row)} {φ : World → Prop} (p0 : List Int) (Ap0_0 : Option Addr) (cp0_0 : Nat) (hcp0_0 : p0.length ≤ cp0_0) (fp0_0 : ∀ W, (Sta.mk w0 M H R φ).ok W → Cl W Ap0_0 (p0.flatMap (fun x : Int => [Value.int .i64 x]))) (p1 : List Int) (Ap1_0 : Option Addr) (cp1_0 : Nat) (hcp1_0 : p1.length ≤ cp1_0) (fp1_0 : ∀ W, (Sta.mk w0 M H R φ).ok W → Cl W Ap1_0 (p1.flatMap (fun x : Int => [Value.int .i64 x]))) (r : Bool) (hm : m_slices_Equal_80 p0 p1 = some r) :
    Cn Try.prog 80 #[.slice Ap0_0 p0.length cp0_0, .slice Ap1_0 p1.length cp1_0] ⟨w0, M, H, R, φ⟩ (fun x : Unit => .bool r) (fun x => True) (fun x => ⟨w0, M, H, R, φ⟩) := by
 unfold m_slices_Equal_80 at hm
 refine cn_intro (fn := Try.f80) (N := 26) Try.func80 rfl Try.ntmps80 rfl ?_
 refine c_seq ?_
 refine c_region ?_
 refine g_v rfl r_assign ?_
 refine g_nil ?_
 refine d_then ?_
 refine c_seq ?_
 refine c_seq ?_
 refine c_region ?_
 refine g_v rfl r_move ?_
 refine g_v rfl (r_lenL Try.underlying42 rfl) ?_
 refine g_v rfl r_move ?_
 refine g_v rfl (r_lenL Try.underlying42 rfl) ?_
 refine g_v rfl (r_neq rfl rfl) ?_
 refine g_nil ?_
 refine d_then ?_
 refine c_cond rfl (fun h1 => ?_) (fun h1 => ?_)
 ·
  replace hm := ite_t hm (of_decide_eq_true h1)
  refine c_seq ?_
  refine c_region ?_
  refine g_v rfl r_assign ?_
  refine g_nil ?_
  refine d_then ?_
  refine c_ret ?_
  refine d_ret_then ?_
  replace hm := Option.some.inj hm
  subst hm
  refine d_retC () Try.results80 ?_ trivial (fun W h => ok_pre (H1 := []) (R1 := []) h (fun W hφ => hφ)) (.inr rfl)
  refine res_tmp ?_
  refine res_nil ?_
  exact rfl
 ·
  replace hm := ite_f hm (of_decide_eq_false h1)
  refine c_skip ?_
  refine d_then ?_
  refine c_seq ?_
  refine c_seq ?_
  refine c_region ?_
  refine g_v rfl r_move ?_
  refine g_v rfl (r_lenL Try.underlying42 rfl) ?_
  refine g_v rfl r_move ?_
  refine g_nil ?_
  refine d_then ?_
  refine c_flat [(0, .slice Ap0_0 p0.length cp0_0), (1, .slice Ap1_0 p1.length cp1_0), (12, .int .i64 (p0.length : Int)), (13, .int .i64 0)] ⟨rfl, rfl, rfl, rfl, trivial⟩ (fun u => ?_)
  refine c_sta ⟨w0, M, H, R, φ⟩ (fun _ h => h) ?_
  refine c_cut (ι := Unit) [] (fun _ => []) (fun _ => ⟨w0, M, H, R, φ⟩) (fun _ => m_slices_Equal_80_j1 = some r) ?_ (fun _ u hm => ?_)
  ·
   refine c_block ?_
   replace hm := bnd hm
   obtain ⟨out2, hl2, hr2⟩ := hm
   obtain ⟨n167', hl2⟩ := loop_lp hl2
   refine c_loopU (ι := Nat × Int) [0, 1, 12, 13] (fun ⟨n167, i139⟩ => [(13, .int .i64 i139)]) (fun ⟨n167, i139⟩ => ⟨w0, M, H, R, φ⟩) (fun ⟨n167, i139⟩ => Lp (fun s => m_slices_Equal_80_s2 p0 p1 s) n167 i139 out2) (fun ⟨n167, i139⟩ => n167) (n167', 0) hl2 ⟨rfl, rfl, rfl, rfl, trivial⟩ (fun W h => h.phi (fun W hφ => hφ)) (fun ⟨n167, i139⟩ u hlp => ?_)
   obtain ⟨o2, hm, hnx2⟩ := lp_step hlp
   clear hlp
   replace hm : m_slices_Equal_80_s2 p0 p1 i139 = some o2 := hm
   unfold m_slices_Equal_80_s2 at hm
   refine c_flat [(0, .slice Ap0_0 p0.length cp0_0), (1, .slice Ap1_0 p1.length cp1_0), (12, .int .i64 (p0.length : Int)), (13, .int .i64 i139)] ⟨rfl, rfl, rfl, rfl, trivial⟩ (fun u => ?_)
   refine c_sta ⟨w0, M, H, R, φ⟩ (fun _ h => h) ?_
   refine c_seq ?_
   refine c_region ?_
   refine g_v rfl (r_lss rfl rfl) ?_
   refine g_nil ?_
   refine d_then ?_
   refine c_seq ?_
   refine c_cond rfl (fun h195 => ?_) (fun h195 => ?_)
   ·
    replace hm := ite_t hm (of_decide_eq_true h195)
    refine c_skip ?_
    refine d_then ?_
    refine c_seq ?_
    refine c_block ?_
    refine c_seq ?_
    refine c_region ?_
    refine g_v rfl r_move ?_
    refine g_v rfl r_assign ?_
    refine g_nil ?_
    refine d_then ?_
    refine c_seq ?_
    refine ga_start (n := 9) ⟨w0, M, H, R, φ⟩ [] #[false, false, false, false, false, false, false, false, false] (fun W h => h.phi (fun W hφ => hφ)) mixed rfl rfl ?_
    refine ga_v (i := 0) #[true, false, false, false, false, false, false, false, false] rfl (by kernel_rfl) (fun _ _ _ _ h => h) rfl (r_move) ?_
    refine ga_v (i := 1) #[true, true, false, false, false, false, false, false, false] rfl (by kernel_rfl) (fun _ _ _ _ h => h) rfl (r_move) ?_
    replace hm := bnd hm
    obtain ⟨x212, hx212, hm⟩ := hm
    refine ga_know _ (fun W hS => cl_at (p := (Sta.mk w0 M H R φ).ok) (sz := 1) (fun _ => rfl) (by decide) (ok_pre (H1 := []) (R1 := []) hS (fun W h => h)) fp0_0 hx212) ?_
    rintro ⟨ad213, hA215, f214⟩
    refine ga_v (i := 2) #[true, true, true, false, false, false, false, false, false] rfl (by kernel_rfl) (fun _ _ _ _ h => h) rfl (r_ix Try.underlying42 Try.sizeOf3 rfl hA215 rfl hx212) ?_
    refine ga_v (i := 3) #[true, true, true, true, false, false, false, false, false] rfl (by kernel_rfl) (fun _ _ _ _ h => h) rfl (r_ld rfl Try.isAgg3 (fun W hS => Cl.head (f214 W (ok_pre (H1 := []) (R1 := []) hS (fun W h => h))))) ?_
    refine ga_v (i := 4) #[true, true, true, true, true, false, false, false, false] rfl (by kernel_rfl) (fun _ _ _ _ h => h) rfl (r_move) ?_
    refine ga_r (i := 5) #[true, true, true, true, true, true, false, false, false] rfl (by kernel_rfl) (by decide) rfl (r_move) ?_
    replace hm := bnd hm
    obtain ⟨x216, hx216, hm⟩ := hm
    refine ga_know _ (fun W hS => cl_at (p := (Sta.mk w0 M H R φ).ok) (sz := 1) (fun _ => rfl) (by decide) (ok_pre (H1 := []) (R1 := []) hS (fun W h => h)) fp1_0 hx216) ?_
    rintro ⟨ad217, hA219, f218⟩
    refine ga_r (i := 6) #[true, true, true, true, true, true, true, false, false] rfl (by kernel_rfl) (by decide) rfl (r_ix Try.underlying42 Try.sizeOf3 rfl hA219 rfl hx216) ?_
    refine ga_r (i := 7) #[true, true, true, true, true, true, true, true, false] rfl (by kernel_rfl) (by decide) rfl (r_ld rfl Try.isAgg3 (fun W hS => Cl.head (f218 W (ok_pre (H1 := []) (R1 := []) hS (fun W h => h))))) ?_
    refine ga_r (i := 8) #[true, true, true, true, true, true, true, true, true] rfl (by kernel_rfl) (by decide) rfl (r_neq rfl rfl) ?_
    refine ga_done (by kernel_rfl) ?_
    refine d_then ?_
    refine c_flat [(0, .slice Ap0_0 p0.length cp0_0), (1, .slice Ap1_0 p1.length cp1_0), (12, .int .i64 (p0.length : Int)), (13, .int .i64 i139), (24, .bool (decide (x212 ≠ x216)))] ⟨rfl, rfl, rfl, rfl, rfl, trivial⟩ (fun u => ?_)
    refine c_sta ⟨w0, M, H, R, φ⟩ (fun _ h => h) ?_
    refine c_cond rfl (fun h220 => ?_) (fun h220 => ?_)
    ·
     replace hm := ite_t hm (of_decide_eq_true h220)
     refine c_seq ?_
     refine c_region ?_
     refine g_v rfl r_assign ?_
     refine g_nil ?_
     refine d_then ?_
     refine c_ret ?_
     refine d_ret_block ?_
     refine d_ret_then ?_
     refine d_ret_then ?_
     refine d_ret_block ?_
     refine d_ret_then ?_
     refine d_ret_then ?_
     replace hm := nx_out (C := (fun e => Sum.elim (fun e => m_slices_Equal_80_j1) (fun x => some x) e = some r)) hm hnx2 hr2
     replace hm : some false = some r := hm
     replace hm := Option.some.inj hm
     subst hm
     refine d_retC () Try.results80 ?_ trivial (fun W h => ok_pre (H1 := []) (R1 := []) h (fun W hφ => hφ)) (.inr rfl)
     refine res_tmp ?_
     refine res_nil ?_
     exact rfl
    ·
     replace hm := ite_f hm (of_decide_eq_false h220)
     refine c_skip ?_
     refine d_normal_block ?_
     refine d_then ?_
     refine c_region ?_
     refine g_v rfl (r_add rfl rfl rfl) ?_
     refine g_v rfl r_move ?_
     refine g_nil ?_
     obtain ⟨n221, hn221, hlp⟩ := nx_inl hm hnx2
     exact d_round (n221, w64 (i139 + 1)) hlp hn221 ⟨rfl, rfl, rfl, rfl, trivial⟩ (fun W h => h.phi (fun W hφ => hφ))
   ·
    replace hm := ite_f hm (of_decide_eq_false h195)
    refine c_exit ?_
    refine d_exit_then ?_
    refine d_exit_then ?_
    refine d_exit_block ?_
    replace hm := nx_out (C := (fun e => Sum.elim (fun e => m_slices_Equal_80_j1) (fun x => some x) e = some r)) hm hnx2 hr2
    exact d_round () hm Nat.zero_lt_one trivial (fun W h => h.phi (fun W hφ => hφ))
  ·
   unfold m_slices_Equal_80_j1 at hm
   refine d_flat [] trivial (fun u => ?_)
   refine d_sta ⟨w0, M, H, R, φ⟩ (fun _ h => h) ?_
   refine d_then ?_
   refine c_seq ?_
   refine c_region ?_
   refine g_v rfl r_assign ?_
   refine g_nil ?_
   refine d_then ?_
   refine c_ret ?_
   replace hm := Option.some.inj hm
   subst hm
   refine d_retC () Try.results80 ?_ trivial (fun W h => ok_pre (H1 := []) (R1 := []) h (fun W hφ => hφ)) (.inr rfl)
   refine res_tmp ?_
   refine res_nil ?_
   exact rfl

noncomputable def m_plog_numbers_s4 (x611 : Int) (l664 : List Int) (i667 : Int) : Option (((List Int) × Int) ⊕ (List Int)) :=
  if i667 < 8 then
    (shOk (w64 (56 - (w64 (8 * i667))))).bind fun u687 =>
    (app 1 l664 [IntKind.u8.wrap (shrI .i64 x611 (w64 (56 - (w64 (8 * i667)))))]).bind fun l689 =>
    some (.inl (l689, w64 (i667 + 1)))
  else
    some (.inr l664)
noncomputable def m_plog_numbers_j3 (i438 : Int) (l652 : List Int) : Option (((List Int) × Int) ⊕ (List Int)) :=
  some (.inl (l652, w64 (i438 + 1)))
noncomputable def m_plog_numbers_s2 (p1 : List Int) (l435 : List Int) (i438 : Int) : Option (((List Int) × Int) ⊕ (List Int)) :=
  if i438 < (p1.length : Int) then
    (at_ p1 i438).bind fun x611 =>
    (loop (fun s => m_plog_numbers_s4 x611 s.1 s.2) (l435, 0)).bind fun e => m_plog_numbers_j3 i438 e
  else
    some (.inr l435)
noncomputable def m_plog_numbers_j1  (l346 : List Int) : Option (List Int) :=
  some l346
noncomputable def m_plog_numbers (p0 : List Int) (p1 : List Int) : Option (List Int) :=
  (loop (fun s => m_plog_numbers_s2 p1 s.1 s.2) (p0, 0)).bind fun e => m_plog_numbers_j1 e
theorem c_plog_numbers {w0 : World} {M : Nat → Prop} {H : List (Nat × Nat × Obj)} {R : List (Nat × Row)} {φ : World → Prop} (p0 : List Int) (Ap0_0 : Option Addr) (cp0_0 : Nat) (hcp0_0 : p0.length ≤ cp0_0) (p1 : List Int) (Ap1_0 : Option Addr) (cp1_0 : Nat) (hcp1_0 : p1.length ≤ cp1_0) (fp1_0 : ∀ W, (Sta.mk w0 M H R φ).ok W → Cl W Ap1_0 (p1.flatMap (fun x : Int => [Value.int .i64 x]))) (r : (List Int)) (hm : m_plog_numbers p0 p1 = some r) :
    Cn Try.prog 81 #[.slice Ap0_0 p0.length cp0_0, .slice Ap1_0 p1.length cp1_0] ⟨w0, M, H, (1000, ⟨.slice Ap0_0 p0.length cp0_0, 5, 1, p0.length, p0.flatMap (fun x : Int => [Value.int .u8 x])⟩) :: R, φ⟩ (fun x : Option Addr × Nat => .slice x.1 r.length x.2) (fun x => r.length ≤ x.2) (fun x => ⟨w0, M, H, (2000, ⟨.slice x.1 r.length x.2, 5, 1, r.length, r.flatMap (fun x : Int => [Value.int .u8 x])⟩) :: R, φ⟩) := by
 unfold m_plog_numbers at hm
 refine cn_intro (fn := Try.f81) (N := 29) Try.func81 rfl Try.ntmps81 rfl ?_
 refine c_seq ?_
 refine c_region ?_
 refine g_v rfl r_assign ?_
 refine g_nil ?_
 refine d_then ?_
 refine c_seq ?_
 refine c_seq ?_
 refine c_region ?_
 refine g_v rfl r_move ?_
 refine g_v rfl (r_lenL Try.underlying42 rfl) ?_
 refine g_v rfl r_move ?_
 refine g_nil ?_
 refine d_then ?_
 refine c_cut (ι := (List Int) × Option Addr × Nat) [0] (fun ⟨l346, A347, c348⟩ => [(0, .slice A347 l346.length c348)]) (fun ⟨l346, A347, c348⟩ => ⟨w0, M, H, (1000, ⟨.slice A347 l346.length c348, 5, 1, l346.length, l346.flatMap (fun x : Int => [Value.int .u8 x])⟩) :: R, φ⟩) (fun ⟨l346, A347, c348⟩ => m_plog_numbers_j1 l346 = some r ∧ l346.length ≤ c348) ?_ (fun ⟨l346, A347, c348⟩ u ⟨hm, hc348⟩ => ?_)
 ·
  refine c_block ?_
  replace hm := bnd hm
  obtain ⟨out2, hl2, hr2⟩ := hm
  obtain ⟨n525', hl2⟩ := loop_lp hl2
  refine c_loopU (ι := Nat × (List Int) × Int × Option Addr × Nat) [0, 8, 9, 10] (fun ⟨n525, l435, i438, A436, c437⟩ => [(0, .slice A436 l435.length c437), (10, .int .i64 i438)]) (fun ⟨n525, l435, i438, A436, c437⟩ => ⟨w0, M, H, (1000, ⟨.slice A436 l435.length c437, 5, 1, l435.length, l435.flatMap (fun x : Int => [Value.int .u8 x])⟩) :: R, φ⟩) (fun ⟨n525, l435, i438, A436, c437⟩ => Lp (fun s => m_plog_numbers_s2 p1 s.1 s.2) n525 (l435, i438) out2 ∧ l435.length ≤ c437) (fun ⟨n525, l435, i438, A436, c437⟩ => n525) (n525', p0, 0, Ap0_0, cp0_0) ⟨hl2, hcp0_0⟩ ⟨rfl, rfl, rfl, rfl, trivial⟩ (fun W h => h.phi (fun W hφ => hφ)) (fun ⟨n525, l435, i438, A436, c437⟩ u ⟨hlp, hc437⟩ => ?_)
  obtain ⟨o2, hm, hnx2⟩ := lp_step hlp
  clear hlp
  replace hm : m_plog_numbers_s2 p1 l435 i438 = some o2 := hm
  unfold m_plog_numbers_s2 at hm
  refine c_flat [(0, .slice A436 l435.length c437), (8, .slice Ap1_0 p1.length cp1_0), (9, .int .i64 (p1.length : Int)), (10, .int .i64 i438)] ⟨rfl, rfl, rfl, rfl, trivial⟩ (fun u => ?_)
  refine c_sta ⟨w0, M, H, (1000, ⟨.slice A436 l435.length c437, 5, 1, l435.length, l435.flatMap (fun x : Int => [Value.int .u8 x])⟩) :: R, φ⟩ (fun _ h => h) ?_
  refine c_seq ?_
  refine c_region ?_
  refine g_v rfl (r_lss rfl rfl) ?_
  refine g_nil ?_
  refine d_then ?_
  refine c_seq ?_
  refine c_cond rfl (fun h610 => ?_) (fun h610 => ?_)
  ·
   replace hm := ite_t hm (of_decide_eq_true h610)
   refine c_skip ?_
   refine d_then ?_
   refine c_seq ?_
   refine c_block ?_
   refine c_seq ?_
   refine c_region ?_
   replace hm := bnd hm
   obtain ⟨x611, hx611, hm⟩ := hm
   refine g_know _ (fun W hS => cl_at (p := (Sta.mk w0 M H R φ).ok) (sz := 1) (fun _ => rfl) (by decide) (ok_pre (H1 := []) (R1 := [_]) hS (fun W h => h)) fp1_0 hx611) ?_
   rintro ⟨ad612, hA614, f613⟩
   refine g_v rfl (r_ix Try.underlying42 Try.sizeOf3 rfl hA614 rfl hx611) ?_
   refine g_v rfl (r_ld rfl Try.isAgg3 (fun W hS => Cl.head (f613 W (ok_pre (H1 := []) (R1 := [_]) hS (fun W h => h))))) ?_
   refine g_v rfl r_assign ?_
   refine g_nil ?_
   refine d_then ?_
   refine c_seq ?_
   refine c_region ?_
   refine g_v rfl r_move ?_
   refine g_nil ?_
   refine d_then ?_
   refine c_cut (ι := (List Int) × Option Addr × Nat) [0, 8, 9, 10] (fun ⟨l652, A653, c654⟩ => [(0, .slice A653 l652.length c654)]) (fun ⟨l652, A653, c654⟩ => ⟨w0, M, H, (1000, ⟨.slice A653 l652.length c654, 5, 1, l652.length, l652.flatMap (fun x : Int => [Value.int .u8 x])⟩) :: R, φ⟩) (fun ⟨l652, A653, c654⟩ => m_plog_numbers_j3 i438 l652 = some o2 ∧ l652.length ≤ c654) ?_ (fun ⟨l652, A653, c654⟩ u ⟨hm, hc654⟩ => ?_)
   ·
    refine c_block ?_
    replace hm := bnd hm
    obtain ⟨out4, hl4, hr4⟩ := hm
    obtain ⟨n678', hl4⟩ := loop_lp hl4
    refine c_loopU (ι := Nat × (List Int) × Int × Option Addr × Nat) [0, 6, 8, 9, 10, 14] (fun ⟨n678, l664, i667, A665, c666⟩ => [(0, .slice A665 l664.length c666), (14, .int .i64 i667)]) (fun ⟨n678, l664, i667, A665, c666⟩ => ⟨w0, M, H, (1000, ⟨.slice A665 l664.length c666, 5, 1, l664.length, l664.flatMap (fun x : Int => [Value.int .u8 x])⟩) :: R, φ⟩) (fun ⟨n678, l664, i667, A665, c666⟩ => Lp (fun s => m_plog_numbers_s4 x611 s.1 s.2) n678 (l664, i667) out4 ∧ l664.length ≤ c666) (fun ⟨n678, l664, i667, A665, c666⟩ => n678) (n678', l435, 0, A436, c437) ⟨hl4, hc437⟩ ⟨rfl, rfl, rfl, rfl, rfl, rfl, trivial⟩ (fun W h => h.phi (fun W hφ => hφ)) (fun ⟨n678, l664, i667, A665, c666⟩ u ⟨hlp, hc666⟩ => ?_)
    obtain ⟨o4, hm, hnx4⟩ := lp_step hlp
    clear hlp
    replace hm : m_plog_numbers_s4 x611 l664 i667 = some o4 := hm
    unfold m_plog_numbers_s4 at hm
    refine c_flat [(0, .slice A665 l664.length c666), (6, .int .i64 x611), (8, .slice Ap1_0 p1.length cp1_0), (9, .int .i64 (p1.length : Int)), (10, .int .i64 i438), (14, .int .i64 i667)] ⟨rfl, rfl, rfl, rfl, rfl, rfl, trivial⟩ (fun u => ?_)
    refine c_sta ⟨w0, M, H, (1000, ⟨.slice A665 l664.length c666, 5, 1, l664.length, l664.flatMap (fun x : Int => [Value.int .u8 x])⟩) :: R, φ⟩ (fun _ h => h) ?_
    refine c_seq ?_
    refine c_region ?_
    refine g_v rfl (r_lss rfl rfl) ?_
    refine g_nil ?_
    refine d_then ?_
    refine c_seq ?_
    refine c_cond rfl (fun h686 => ?_) (fun h686 => ?_)
    ·
     replace hm := ite_t hm (of_decide_eq_true h686)
     refine c_skip ?_
     refine d_then ?_
     refine c_seq ?_
     refine c_block ?_
     refine c_seq ?_
     refine c_region ?_
     refine g_v rfl r_move ?_
     refine g_v rfl r_assign ?_
     refine g_nil ?_
     refine d_then ?_
     refine c_region ?_
     refine g_v rfl r_move ?_
     refine g_v rfl r_move ?_
     refine g_v rfl r_move ?_
     refine g_v rfl (r_mul rfl rfl rfl) ?_
     refine g_v rfl (r_sub rfl rfl rfl) ?_
     replace hm := bnd hm
     obtain ⟨u687, hu687, hm⟩ := hm
     refine g_v rfl (r_shrV rfl rfl hu687) ?_
     refine g_v rfl (r_conv Try.underlying3 Try.underlying5 rfl rfl) ?_
     refine g_e rfl (e_lit (tag := 100240) (l := [IntKind.u8.wrap (shrI .i64 x611 (w64 (56 - (w64 (8 * i667)))))]) (enc := (fun x : Int => [Value.int .u8 x])) (sz := 1) rfl Try.underlying95 (lit5_13 _) rfl rfl (fun _ => rfl)) (fun g688 _ => ?_)
     replace hm := bnd hm
     obtain ⟨l689, hl689, hm⟩ := hm
     refine g_e rfl (e_appR (enc := (fun x : Int => [Value.int .u8 x])) (l := l664) (l1 := [IntKind.u8.wrap (shrI .i64 x611 (w64 (56 - (w64 (8 * i667)))))]) (l2 := l689) (tag := 1000) Try.underlying95 inf5_4 rfl (by decide) (by decide) (fun _ => rfl) (fun _ => rfl) rfl hc666 rfl rfl (fun W hS => rowCl (tag := 100240) rfl W hS) hl689) (fun ⟨A690, c691⟩ hc691 => ?_)
     refine g_v rfl r_assign ?_
     refine g_nil ?_
     refine d_normal_block ?_
     refine d_then ?_
     refine c_flat [(0, .slice A690 l689.length c691), (6, .int .i64 x611), (8, .slice Ap1_0 p1.length cp1_0), (9, .int .i64 (p1.length : Int)), (10, .int .i64 i438), (14, .int .i64 i667)] ⟨rfl, rfl, rfl, rfl, rfl, rfl, trivial⟩ (fun u => ?_)
     refine c_sta ⟨w0, M, H, (100240, ⟨.slice (some ⟨g688, 0, none⟩) [IntKind.u8.wrap (shrI .i64 x611 (w64 (56 - (w64 (8 * i667)))))].length 1, 5, 1, [IntKind.u8.wrap (shrI .i64 x611 (w64 (56 - (w64 (8 * i667)))))].length, [IntKind.u8.wrap (shrI .i64 x611 (w64 (56 - (w64 (8 * i667)))))].flatMap (fun x : Int => [Value.int .u8 x])⟩) :: (1000, ⟨.slice A690 l689.length c691, 5, 1, l689.length, l689.flatMap (fun x : Int => [Value.int .u8 x])⟩) :: R, φ⟩ (fun _ h => h) ?_
     refine c_region ?_
     refine g_v rfl (r_add rfl rfl rfl) ?_
     refine g_v rfl r_move ?_
     refine g_nil ?_
     obtain ⟨n692, hn692, hlp⟩ := nx_inl hm hnx4
     exact d_round (n692, l689, w64 (i667 + 1), A690, c691) ⟨hlp, hc691⟩ hn692 ⟨rfl, rfl, rfl, rfl, rfl, rfl, trivial⟩ (fun W h => ((h.shut (t := 100240) rfl).phi (fun _ hh => hh.1)).phi (fun W hφ => hφ))
    ·
     replace hm := ite_f hm (of_decide_eq_false h686)
     refine c_exit ?_
     refine d_exit_then ?_
     refine d_exit_then ?_
     refine d_exit_block ?_
     replace hm := nx_out (C := (fun e => m_plog_numbers_j3 i438 e = some o2)) hm hnx4 hr4
     exact d_round (l664, A665, c666) ⟨hm, hc666⟩ Nat.zero_lt_one ⟨rfl, rfl, rfl, rfl, trivial⟩ (fun W h => h.phi (fun W hφ => hφ))
   ·
    unfold m_plog_numbers_j3 at hm
    refine d_flat [(0, .slice A653 l652.length c654), (8, .slice Ap1_0 p1.length cp1_0), (9, .int .i64 (p1.length : Int)), (10, .int .i64 i438)] ⟨rfl, rfl, rfl, rfl, trivial⟩ (fun u => ?_)
    refine d_sta ⟨w0, M, H, (1000, ⟨.slice A653 l652.length c654, 5, 1, l652.length, l652.flatMap (fun x : Int => [Value.int .u8 x])⟩) :: R, φ⟩ (fun _ h => h) ?_
    refine d_normal_block ?_
    refine d_then ?_
    refine c_region ?_
    refine g_v rfl (r_add rfl rfl rfl) ?_
    refine g_v rfl r_move ?_
    refine g_nil ?_
    obtain ⟨n693, hn693, hlp⟩ := nx_inl hm hnx2
    exact d_round (n693, l652, w64 (i438 + 1), A653, c654) ⟨hlp, hc654⟩ hn693 ⟨rfl, rfl, rfl, rfl, trivial⟩ (fun W h => h.phi (fun W hφ => hφ))
  ·
   replace hm := ite_f hm (of_decide_eq_false h610)
   refine c_exit ?_
   refine d_exit_then ?_
   refine d_exit_then ?_
   refine d_exit_block ?_
   replace hm := nx_out (C := (fun e => m_plog_numbers_j1 e = some r)) hm hnx2 hr2
   exact d_round (l435, A436, c437) ⟨hm, hc437⟩ Nat.zero_lt_one ⟨rfl, trivial⟩ (fun W h => h.phi (fun W hφ => hφ))
 ·
  unfold m_plog_numbers_j1 at hm
  refine d_flat [(0, .slice A347 l346.length c348)] ⟨rfl, trivial⟩ (fun u => ?_)
  refine d_sta ⟨w0, M, H, (1000, ⟨.slice A347 l346.length c348, 5, 1, l346.length, l346.flatMap (fun x : Int => [Value.int .u8 x])⟩) :: R, φ⟩ (fun _ h => h) ?_
  refine d_then ?_
  refine c_seq ?_
  refine c_region ?_
  refine g_v rfl r_move ?_
  refine g_v rfl r_assign ?_
  refine g_nil ?_
  refine d_then ?_
  refine c_ret ?_
  replace hm := Option.some.inj hm
  subst hm
  refine d_sta _ (fun W h => ok_frontR (t := 1000) (t' := 2000) h rfl) ?_
  refine d_retC (A347, c348) Try.results81 ?_ hc348 (fun W h => h.phi (fun W hφ => hφ)) (.inr rfl)
  refine res_tmp ?_
  refine res_nil ?_
  exact rfl

noncomputable def m_plog_entry (p0 : GLog) (p1 : Int) : Option ByteArray :=
  (at_ p0.fEntries p1).bind fun x2 =>
  (m_plog_numbers [69] [w64 ((w64 (p0.fBase + 1)) + p1), x2.fTerm]).bind fun x9 =>
  (app 1 x9 [IntKind.u8.wrap x2.fKind]).bind fun l29 =>
  (app 1 l29 (bytesI x2.fData)).bind fun l32 =>
  some (strOfNums l32)
theorem c_plog_entry {w0 : World} {M : Nat → Prop} {H : List (Nat × Nat × Obj)} {R : List (Nat × Row)} {φ : World → Prop} (p0 : GLog) (Ap0_0 : Option Addr) (cp0_0 : Nat) (hcp0_0 : p0.fEntries.length ≤ cp0_0) (fp0_0 : ∀ W, (Sta.mk w0 M H R φ).ok W → Cl W Ap0_0 (p0.fEntries.flatMap GEntry.enc)) (p1 : Int) (r : ByteArray) (hm : m_plog_entry p0 p1 = some r) :
    Cn Try.prog 98 #[.agg #[.int .i64 p0.fBase, .int .i64 p0.fBaseTerm, .slice Ap0_0 p0.fEntries.length cp0_0], .int .i64 p1] ⟨w0, M, H, R, φ⟩ (fun x : Unit => .string r) (fun x => True) (fun x => ⟨w0, M, H, R, φ⟩) := by
 unfold m_plog_entry at hm
 refine cn_intro (fn := Try.f98) (N := 32) Try.func98 rfl Try.ntmps98 rfl ?_
 refine c_seq ?_
 refine c_region ?_
 refine g_e rfl (e_box 100020 rfl) (fun g1 _ => ?_)
 refine g_v rfl r_assign ?_
 refine g_nil ?_
 refine d_then ?_
 refine c_seq ?_
 refine c_region ?_
 refine g_v rfl (r_field (n := 2) Try.underlying26 rfl Try.sizeOf24 rfl rfl) ?_
 refine g_v rfl (r_load (tag := 100020) rfl rfl rfl Try.isAgg24) ?_
 refine g_v rfl r_move ?_
 replace hm := bnd hm
 obtain ⟨x2, hx2, hm⟩ := hm
 refine g_know _ (fun W hS => cl_at (p := (Sta.mk w0 M H R φ).ok) (sz := 3) (fun _ => rfl) (by decide) (ok_pre (H1 := [_]) (R1 := []) hS (fun W h => h)) fp0_0 hx2) ?_
 rintro ⟨ad3, hA5, f4⟩
 refine g_v rfl (r_ix Try.underlying24 Try.sizeOf35 rfl hA5 rfl hx2) ?_
 refine g_v rfl (r_ldA rfl Try.isAgg35 Try.sizeOf35 (fun W hS => (f4 W (ok_pre (H1 := [_]) (R1 := []) hS (fun W h => h))).take 3) rfl) ?_
 refine g_e rfl (e_alloc 100050 Try.zeroValue35) (fun g6 _ => ?_)
 refine g_storeL (tag := 100050) rfl rfl rfl rfl Try.sizeOf35 rfl rfl ?_
 refine g_nil ?_
 refine d_then ?_
 refine c_flat [(1, .int .i64 p1), (2, .pointer (some ⟨g1, 0, none⟩)), (5, .pointer (some ⟨g6, 0, none⟩))] ⟨rfl, rfl, rfl, trivial⟩ (fun u => ?_)
 refine c_sta ⟨w0, M, (100050, g6, .cells #[.int .i64 x2.fTerm, .int .i64 x2.fKind, .string x2.fData] 35 (0, 0)) :: (100020, g1, .cells #[.int .i64 p0.fBase, .int .i64 p0.fBaseTerm, .slice Ap0_0 p0.fEntries.length cp0_0] 26 (0, 0)) :: H, R, φ⟩ (fun _ h => h) ?_
 refine c_seq ?_
 refine c_region ?_
 refine g_e rfl (e_lit (tag := 100120) (l := [69]) (enc := (fun x : Int => [Value.int .u8 x])) (sz := 1) rfl Try.underlying95 (lit5_13 _) rfl rfl (fun _ => rfl)) (fun g7 _ => ?_)
 refine g_v rfl (r_field (n := 0) Try.underlying26 rfl Try.sizeOf3 rfl rfl) ?_
 refine g_v rfl (r_load (tag := 100020) rfl rfl rfl Try.isAgg3) ?_
 refine g_v rfl (r_add rfl rfl rfl) ?_
 refine g_v rfl r_move ?_
 refine g_v rfl (r_add rfl rfl rfl) ?_
 refine g_v rfl (r_field (n := 0) Try.underlying35 rfl Try.sizeOf3 rfl rfl) ?_
 refine g_v rfl (r_load (tag := 100050) rfl rfl rfl Try.isAgg3) ?_
 refine g_e rfl (e_lit (tag := 100200) (l := [w64 ((w64 (p0.fBase + 1)) + p1), x2.fTerm]) (enc := (fun x : Int => [Value.int .i64 x])) (sz := 1) rfl Try.underlying42 (lit3_12 _ _) rfl rfl (fun _ => rfl)) (fun g8 _ => ?_)
 replace hm := bnd hm
 obtain ⟨x9, hx10, hm⟩ := hm
 refine g_cn ⟨w0, M, (100050, g6, .cells #[.int .i64 x2.fTerm, .int .i64 x2.fKind, .string x2.fData] 35 (0, 0)) :: (100020, g1, .cells #[.int .i64 p0.fBase, .int .i64 p0.fBaseTerm, .slice Ap0_0 p0.fEntries.length cp0_0] 26 (0, 0)) :: H, (1000, ⟨.slice (some ⟨g7, 0, none⟩) [69].length 1, 5, 1, [69].length, [69].flatMap (fun x : Int => [Value.int .u8 x])⟩) :: (100200, ⟨.slice (some ⟨g8, 0, none⟩) [w64 ((w64 (p0.fBase + 1)) + p1), x2.fTerm].length 2, 3, 1, [w64 ((w64 (p0.fBase + 1)) + p1), x2.fTerm].length, [w64 ((w64 (p0.fBase + 1)) + p1), x2.fTerm].flatMap (fun x : Int => [Value.int .i64 x])⟩) :: R, φ⟩ (fun W h => (ok_frontR (t := 100120) (t' := 1000) h rfl)) Try.call81 rfl rfl (c_plog_numbers [69] (some ⟨g7, 0, none⟩) 1 (Nat.le_refl _) [w64 ((w64 (p0.fBase + 1)) + p1), x2.fTerm] (some ⟨g8, 0, none⟩) 2 (Nat.le_refl _) (fun W hS => rowCl (tag := 100200) rfl W hS) _ hx10) (fun ⟨A11, c12⟩ hc12 => ?_)
 refine g_sta _ (fun W h => ok_frontR (t := 2000) (t' := 100210) h rfl) ?_
 refine g_v rfl r_assign ?_
 refine g_nil ?_
 refine d_then ?_
 refine c_flat [(5, .pointer (some ⟨g6, 0, none⟩)), (6, .slice A11 x9.length c12)] ⟨rfl, rfl, trivial⟩ (fun u => ?_)
 refine c_sta ⟨w0, M, (100050, g6, .cells #[.int .i64 x2.fTerm, .int .i64 x2.fKind, .string x2.fData] 35 (0, 0)) :: (100020, g1, .cells #[.int .i64 p0.fBase, .int .i64 p0.fBaseTerm, .slice Ap0_0 p0.fEntries.length cp0_0] 26 (0, 0)) :: H, (100210, ⟨.slice A11 x9.length c12, 5, 1, x9.length, x9.flatMap (fun x : Int => [Value.int .u8 x])⟩) :: (100200, ⟨.slice (some ⟨g8, 0, none⟩) [w64 ((w64 (p0.fBase + 1)) + p1), x2.fTerm].length 2, 3, 1, [w64 ((w64 (p0.fBase + 1)) + p1), x2.fTerm].length, [w64 ((w64 (p0.fBase + 1)) + p1), x2.fTerm].flatMap (fun x : Int => [Value.int .i64 x])⟩) :: R, φ⟩ (fun _ h => h) ?_
 refine c_seq ?_
 refine ga_start (n := 11) ⟨w0, M, (100050, g6, .cells #[.int .i64 x2.fTerm, .int .i64 x2.fKind, .string x2.fData] 35 (0, 0)) :: (100020, g1, .cells #[.int .i64 p0.fBase, .int .i64 p0.fBaseTerm, .slice Ap0_0 p0.fEntries.length cp0_0] 26 (0, 0)) :: H, (100200, ⟨.slice (some ⟨g8, 0, none⟩) [w64 ((w64 (p0.fBase + 1)) + p1), x2.fTerm].length 2, 3, 1, [w64 ((w64 (p0.fBase + 1)) + p1), x2.fTerm].length, [w64 ((w64 (p0.fBase + 1)) + p1), x2.fTerm].flatMap (fun x : Int => [Value.int .i64 x])⟩) :: R, φ⟩ [] #[false, false, false, false, false, false, false, false, false, false, false] (fun W h => ((h.shut (t := 100210) rfl).phi (fun _ hh => hh.1)).phi (fun W hφ => hφ)) mixed rfl rfl ?_
 refine ga_v (i := 0) #[true, false, false, false, false, false, false, false, false, false, false] rfl (by kernel_rfl) (fun _ _ _ _ h => h) rfl (r_move) ?_
 refine ga_v (i := 1) #[true, true, false, false, false, false, false, false, false, false, false] rfl (by kernel_rfl) (fun _ _ _ _ h => h) rfl (r_field (n := 1) Try.underlying35 rfl Try.sizeOf3 rfl rfl) ?_
 refine ga_v (i := 2) #[true, true, true, false, false, false, false, false, false, false, false] rfl (by kernel_rfl) (fun _ _ _ _ h => h) rfl (r_load (tag := 100050) rfl rfl rfl Try.isAgg3) ?_
 refine ga_v (i := 3) #[true, true, true, true, false, false, false, false, false, false, false] rfl (by kernel_rfl) (fun _ _ _ _ h => h) rfl (r_conv Try.underlying3 Try.underlying5 rfl rfl) ?_
 refine ga_v (i := 6) #[true, true, true, true, false, false, true, false, false, false, false] rfl (by kernel_rfl) (fun _ _ _ _ h => h) rfl (r_field (n := 2) Try.underlying35 rfl Try.sizeOf9 rfl rfl) ?_
 refine ga_v (i := 7) #[true, true, true, true, false, false, true, true, false, false, false] rfl (by kernel_rfl) (fun _ _ _ _ h => h) rfl (r_load (tag := 100050) rfl rfl rfl Try.isAgg9) ?_
 refine ga_e (i := 4) #[true, true, true, true, true, false, true, true, false, false, false] rfl (by kernel_rfl) (by decide) rfl  (e_lit (tag := 100260) (l := [IntKind.u8.wrap x2.fKind]) (enc := (fun x : Int => [Value.int .u8 x])) (sz := 1) rfl Try.underlying95 (lit5_13 _) rfl rfl (fun _ => rfl)) (fun g28 W _ h => ((((h.shut (t := 100260) rfl).phi (fun _ hh => hh.1)).shut (t := 100210) rfl).phi (fun _ hh => hh.1)).phi (fun W hφ => hφ)) (fun g28 _ => ?_)
 replace hm := bnd hm
 obtain ⟨l29, hl29, hm⟩ := hm
 refine ga_e (i := 5) #[true, true, true, true, true, true, true, true, false, false, false] rfl (by kernel_rfl) (by decide) rfl  (e_appR (enc := (fun x : Int => [Value.int .u8 x])) (l := x9) (l1 := [IntKind.u8.wrap x2.fKind]) (l2 := l29) (tag := 100210) Try.underlying95 inf5_4 rfl (by decide) (by decide) (fun _ => rfl) (fun _ => rfl) rfl hc12 rfl rfl (fun W hS => rowCl (tag := 100260) rfl W hS) hl29) (fun ⟨A30, c31⟩ W hc31 h => ((((h.shut (t := 100260) rfl).phi (fun _ hh => hh.1)).shut (t := 100210) rfl).phi (fun _ hh => hh.1)).phi (fun W hφ => hφ)) (fun ⟨A30, c31⟩ hc31 => ?_)
 replace hm := bnd hm
 obtain ⟨l32, hl32, hm⟩ := hm
 refine ga_e (i := 8) #[true, true, true, true, true, true, true, true, true, false, false] rfl (by kernel_rfl) (by decide) rfl  (e_appRS (l := l29) (l2 := l32) (tag := 100210) Try.underlying95 Try.underlying9 inf5_4 rfl hc31 rfl rfl hl32) (fun ⟨A33, c34⟩ W hc34 h => ((((h.shut (t := 100260) rfl).phi (fun _ hh => hh.1)).shut (t := 100210) rfl).phi (fun _ hh => hh.1)).phi (fun W hφ => hφ)) (fun ⟨A33, c34⟩ hc34 => ?_)
 refine ga_r (i := 9) #[true, true, true, true, true, true, true, true, true, true, false] rfl (by kernel_rfl) (by decide) rfl (r_textE Try.underlying95 Try.underlying5 Try.underlying9 rfl (fun W hS => rowCl (tag := 100210) rfl W hS)) ?_
 refine ga_r (i := 10) #[true, true, true, true, true, true, true, true, true, true, true] rfl (by kernel_rfl) (by decide) rfl (r_assign) ?_
 refine ga_done (by kernel_rfl) ?_
 refine d_then ?_
 refine c_flat [(4, .string (strOfNums l32))] ⟨rfl, trivial⟩ (fun u => ?_)
 refine c_sta ⟨w0, M, (100050, g6, .cells #[.int .i64 x2.fTerm, .int .i64 x2.fKind, .string x2.fData] 35 (0, 0)) :: (100020, g1, .cells #[.int .i64 p0.fBase, .int .i64 p0.fBaseTerm, .slice Ap0_0 p0.fEntries.length cp0_0] 26 (0, 0)) :: H, (100260, ⟨.slice (some ⟨g28, 0, none⟩) [IntKind.u8.wrap x2.fKind].length 1, 5, 1, [IntKind.u8.wrap x2.fKind].length, [IntKind.u8.wrap x2.fKind].flatMap (fun x : Int => [Value.int .u8 x])⟩) :: (100210, ⟨.slice A33 l32.length c34, 5, 1, l32.length, l32.flatMap (fun x : Int => [Value.int .u8 x])⟩) :: (100200, ⟨.slice (some ⟨g8, 0, none⟩) [w64 ((w64 (p0.fBase + 1)) + p1), x2.fTerm].length 2, 3, 1, [w64 ((w64 (p0.fBase + 1)) + p1), x2.fTerm].length, [w64 ((w64 (p0.fBase + 1)) + p1), x2.fTerm].flatMap (fun x : Int => [Value.int .i64 x])⟩) :: R, φ⟩ (fun _ h => h) ?_
 refine c_ret ?_
 replace hm := Option.some.inj hm
 subst hm
 refine d_retC () Try.results98 ?_ trivial (fun W h => ok_pre (H1 := [_, _]) (R1 := [_, _, _]) h (fun W hφ => hφ)) (.inr rfl)
 refine res_tmp ?_
 refine res_nil ?_
 exact rfl

theorem lit9_14 (z0 : ByteArray) : Try.prog.builtSlice 9 1 [(0, .string z0)] = some #[.string z0] := by kernel_rfl
theorem inf9_15  : (Try.prog.info? 9).map (fun i => (i.zero, i.size, i.bytes)) = some (some (.string (⟨#[]⟩ : ByteArray)), 1, 16) := by kernel_rfl
noncomputable def m_plog_entries_s2 (p0 : GLog) (p1 : Int) (l120 : List ByteArray) (i123 : Int) (i124 : Int) : Option (((List ByteArray) × Int × Int) ⊕ (List ByteArray)) :=
  if i124 < i123 then
    (m_plog_entry p0 (w64 (p1 + i124))).bind fun x147 =>
    (app 16 l120 [x147]).bind fun l150 =>
    some (.inl (l150, i123, w64 (i124 + 1)))
  else
    some (.inr l120)
noncomputable def m_plog_entries_j1  (l104 : List ByteArray) : Option (List ByteArray) :=
  some l104
noncomputable def m_plog_entries (p0 : GLog) (p1 : Int) : Option (List ByteArray) :=
  (loop (fun s => m_plog_entries_s2 p0 p1 s.1 s.2.1 s.2.2) (([] : List ByteArray), w64 ((p0.fEntries.length : Int) - p1), 0)).bind fun e => m_plog_entries_j1 e
theorem c_plog_entries {w0 : World} {M : Nat → Prop} {H : List (Nat × Nat × Obj)} {R : List (Nat × Row)} {φ : World → Prop} (p0 : GLog) (Ap0_0 : Option Addr) (cp0_0 : Nat) (hcp0_0 : p0.fEntries.length ≤ cp0_0) (fp0_0 : ∀ W, (Sta.mk w0 M H R φ).ok W → Cl W Ap0_0 (p0.fEntries.flatMap GEntry.enc)) (p1 : Int) (r : (List ByteArray)) (hm : m_plog_entries p0 p1 = some r) :
    Cn Try.prog 82 #[.agg #[.int .i64 p0.fBase, .int .i64 p0.fBaseTerm, .slice Ap0_0 p0.fEntries.length cp0_0], .int .i64 p1] ⟨w0, M, H, R, φ⟩ (fun x : Option Addr × Nat => .slice x.1 r.length x.2) (fun x => r.length ≤ x.2) (fun x => ⟨w0, M, H, (2000, ⟨.slice x.1 r.length x.2, 9, 1, r.length, r.flatMap (fun x : ByteArray => [Value.string x])⟩) :: R, φ⟩) := by
 unfold m_plog_entries at hm
 refine cn_intro (fn := Try.f82) (N := 25) Try.func82 rfl Try.ntmps82 rfl ?_
 refine c_seq ?_
 refine c_region ?_
 refine g_e rfl (e_box 100020 rfl) (fun g1 _ => ?_)
 refine g_v rfl r_assign ?_
 refine g_nil ?_
 refine d_then ?_
 refine c_seq ?_
 refine c_region ?_
 refine g_v rfl r_assign ?_
 refine g_nil ?_
 refine d_then ?_
 refine c_seq ?_
 refine c_seq ?_
 refine c_region ?_
 refine g_v rfl (r_field (n := 2) Try.underlying26 rfl Try.sizeOf24 rfl rfl) ?_
 refine g_v rfl (r_load (tag := 100020) rfl rfl rfl Try.isAgg24) ?_
 refine g_v rfl (r_lenL Try.underlying24 rfl) ?_
 refine g_v rfl r_move ?_
 refine g_v rfl (r_sub rfl rfl rfl) ?_
 refine g_v rfl r_move ?_
 refine g_nil ?_
 refine d_then ?_
 refine c_flat [(1, .int .i64 p1), (2, .pointer (some ⟨g1, 0, none⟩)), (5, .slice none 0 0), (11, .int .i64 (w64 ((p0.fEntries.length : Int) - p1))), (12, .int .i64 0)] ⟨rfl, rfl, rfl, rfl, rfl, trivial⟩ (fun u => ?_)
 refine c_sta ⟨w0, M, (100020, g1, .cells #[.int .i64 p0.fBase, .int .i64 p0.fBaseTerm, .slice Ap0_0 p0.fEntries.length cp0_0] 26 (0, 0)) :: H, R, φ⟩ (fun _ h => h) ?_
 refine c_sta _ (fun W h => nilR h 3 9 1) ?_
 refine c_cut (ι := (List ByteArray) × Option Addr × Nat) [5] (fun ⟨l104, A105, c106⟩ => [(5, .slice A105 l104.length c106)]) (fun ⟨l104, A105, c106⟩ => ⟨w0, M, H, (3, ⟨.slice A105 l104.length c106, 9, 1, l104.length, l104.flatMap (fun x : ByteArray => [Value.string x])⟩) :: R, φ⟩) (fun ⟨l104, A105, c106⟩ => m_plog_entries_j1 l104 = some r ∧ l104.length ≤ c106) ?_ (fun ⟨l104, A105, c106⟩ u ⟨hm, hc106⟩ => ?_)
 ·
  refine c_block ?_
  replace hm := bnd hm
  obtain ⟨out2, hl2, hr2⟩ := hm
  obtain ⟨n137', hl2⟩ := loop_lp hl2
  refine c_loopU (ι := Nat × (List ByteArray) × Int × Int × Option Addr × Nat) [1, 2, 5, 11, 12] (fun ⟨n137, l120, i123, i124, A121, c122⟩ => [(5, .slice A121 l120.length c122), (11, .int .i64 i123), (12, .int .i64 i124)]) (fun ⟨n137, l120, i123, i124, A121, c122⟩ => ⟨w0, M, (100020, g1, .cells #[.int .i64 p0.fBase, .int .i64 p0.fBaseTerm, .slice Ap0_0 p0.fEntries.length cp0_0] 26 (0, 0)) :: H, (3, ⟨.slice A121 l120.length c122, 9, 1, l120.length, l120.flatMap (fun x : ByteArray => [Value.string x])⟩) :: R, φ⟩) (fun ⟨n137, l120, i123, i124, A121, c122⟩ => Lp (fun s => m_plog_entries_s2 p0 p1 s.1 s.2.1 s.2.2) n137 (l120, i123, i124) out2 ∧ l120.length ≤ c122) (fun ⟨n137, l120, i123, i124, A121, c122⟩ => n137) (n137', ([] : List ByteArray), w64 ((p0.fEntries.length : Int) - p1), 0, none, 0) ⟨hl2, (Nat.le_refl 0)⟩ ⟨rfl, rfl, rfl, rfl, rfl, trivial⟩ (fun W h => h.phi (fun W hφ => hφ)) (fun ⟨n137, l120, i123, i124, A121, c122⟩ u ⟨hlp, hc122⟩ => ?_)
  obtain ⟨o2, hm, hnx2⟩ := lp_step hlp
  clear hlp
  replace hm : m_plog_entries_s2 p0 p1 l120 i123 i124 = some o2 := hm
  unfold m_plog_entries_s2 at hm
  refine c_flat [(1, .int .i64 p1), (2, .pointer (some ⟨g1, 0, none⟩)), (5, .slice A121 l120.length c122), (11, .int .i64 i123), (12, .int .i64 i124)] ⟨rfl, rfl, rfl, rfl, rfl, trivial⟩ (fun u => ?_)
  refine c_sta ⟨w0, M, (100020, g1, .cells #[.int .i64 p0.fBase, .int .i64 p0.fBaseTerm, .slice Ap0_0 p0.fEntries.length cp0_0] 26 (0, 0)) :: H, (3, ⟨.slice A121 l120.length c122, 9, 1, l120.length, l120.flatMap (fun x : ByteArray => [Value.string x])⟩) :: R, φ⟩ (fun _ h => h) ?_
  refine c_seq ?_
  refine c_region ?_
  refine g_v rfl (r_lss rfl rfl) ?_
  refine g_nil ?_
  refine d_then ?_
  refine c_seq ?_
  refine c_cond rfl (fun h146 => ?_) (fun h146 => ?_)
  ·
   replace hm := ite_t hm (of_decide_eq_true h146)
   refine c_skip ?_
   refine d_then ?_
   refine c_seq ?_
   refine c_block ?_
   refine c_seq ?_
   refine c_region ?_
   refine g_v rfl r_move ?_
   refine g_v rfl r_assign ?_
   refine g_nil ?_
   refine d_then ?_
   refine c_region ?_
   refine g_v rfl r_move ?_
   refine g_v rfl (r_loadA (tag := 100020) rfl rfl Try.isAgg26 Try.sizeOf26 rfl rfl) ?_
   refine g_v rfl r_move ?_
   refine g_v rfl r_move ?_
   refine g_v rfl (r_add rfl rfl rfl) ?_
   replace hm := bnd hm
   obtain ⟨x147, hx148, hm⟩ := hm
   refine g_cn ⟨w0, M, _, _, φ⟩ (fun _ h => h) Try.call98 rfl rfl (c_plog_entry p0 Ap0_0 cp0_0 hcp0_0 (fun W hS => fp0_0 W (ok_pre (H1 := [_]) (R1 := [_]) hS (fun W h => h))) (w64 (p1 + i124)) _ hx148) (fun _ _ => ?_)
   refine g_e rfl (e_lit (tag := 100210) (l := [x147]) (enc := (fun x : ByteArray => [Value.string x])) (sz := 1) rfl Try.underlying58 (lit9_14 _) rfl rfl (fun _ => rfl)) (fun g149 _ => ?_)
   replace hm := bnd hm
   obtain ⟨l150, hl150, hm⟩ := hm
   refine g_e rfl (e_appR (enc := (fun x : ByteArray => [Value.string x])) (l := l120) (l1 := [x147]) (l2 := l150) (tag := 3) Try.underlying58 inf9_15 rfl (by decide) (by decide) (fun _ => rfl) (fun _ => rfl) rfl hc122 rfl rfl (fun W hS => rowCl (tag := 100210) rfl W hS) hl150) (fun ⟨A151, c152⟩ hc152 => ?_)
   refine g_v rfl r_assign ?_
   refine g_nil ?_
   refine d_normal_block ?_
   refine d_then ?_
   refine c_flat [(1, .int .i64 p1), (2, .pointer (some ⟨g1, 0, none⟩)), (5, .slice A151 l150.length c152), (11, .int .i64 i123), (12, .int .i64 i124)] ⟨rfl, rfl, rfl, rfl, rfl, trivial⟩ (fun u => ?_)
   refine c_sta ⟨w0, M, (100020, g1, .cells #[.int .i64 p0.fBase, .int .i64 p0.fBaseTerm, .slice Ap0_0 p0.fEntries.length cp0_0] 26 (0, 0)) :: H, (100210, ⟨.slice (some ⟨g149, 0, none⟩) [x147].length 1, 9, 1, [x147].length, [x147].flatMap (fun x : ByteArray => [Value.string x])⟩) :: (3, ⟨.slice A151 l150.length c152, 9, 1, l150.length, l150.flatMap (fun x : ByteArray => [Value.string x])⟩) :: R, φ⟩ (fun _ h => h) ?_
   refine c_region ?_
   refine g_v rfl (r_add rfl rfl rfl) ?_
   refine g_v rfl r_move ?_
   refine g_nil ?_
   obtain ⟨n153, hn153, hlp⟩ := nx_inl hm hnx2
   exact d_round (n153, l150, i123, w64 (i124 + 1), A151, c152) ⟨hlp, hc152⟩ hn153 ⟨rfl, rfl, rfl, rfl, rfl, trivial⟩ (fun W h => ((h.shut (t := 100210) rfl).phi (fun _ hh => hh.1)).phi (fun W hφ => hφ))
  ·
   replace hm := ite_f hm (of_decide_eq_false h146)
   refine c_exit ?_
   refine d_exit_then ?_
   refine d_exit_then ?_
   refine d_exit_block ?_
   replace hm := nx_out (C := (fun e => m_plog_entries_j1 e = some r)) hm hnx2 hr2
   exact d_round (l120, A121, c122) ⟨hm, hc122⟩ Nat.zero_lt_one ⟨rfl, trivial⟩ (fun W h => (h.dropH (t := 100020) rfl).phi (fun W hφ => hφ))
 ·
  unfold m_plog_entries_j1 at hm
  refine d_flat [(5, .slice A105 l104.length c106)] ⟨rfl, trivial⟩ (fun u => ?_)
  refine d_sta ⟨w0, M, H, (3, ⟨.slice A105 l104.length c106, 9, 1, l104.length, l104.flatMap (fun x : ByteArray => [Value.string x])⟩) :: R, φ⟩ (fun _ h => h) ?_
  refine d_then ?_
  refine c_seq ?_
  refine c_region ?_
  refine g_v rfl r_move ?_
  refine g_v rfl r_assign ?_
  refine g_nil ?_
  refine d_then ?_
  refine c_ret ?_
  replace hm := Option.some.inj hm
  subst hm
  refine d_sta _ (fun W h => ok_frontR (t := 3) (t' := 2000) h rfl) ?_
  refine d_retC (A105, c106) Try.results82 ?_ hc106 (fun W h => h.phi (fun W hφ => hφ)) (.inr rfl)
  refine res_tmp ?_
  refine res_nil ?_
  exact rfl

theorem lit3_16 (z0 : Int) (z1 : Int) (z2 : Int) (z3 : Int) (z4 : Int) : Try.prog.builtSlice 3 5 [(0, .int .i64 z0), (1, .int .i64 z1), (2, .int .i64 z2), (3, .int .i64 z3), (4, .int .i64 z4)] = some #[.int .i64 z0, .int .i64 z1, .int .i64 z2, .int .i64 z3, .int .i64 z4] := by kernel_rfl
noncomputable def m_plog_anew_j1 (p0 : GHard) (l120 : List Int) : Option (List ByteArray) :=
  (app 1 l120 (bytesI p0.fSnap)).bind fun l328 =>
  (m_plog_entries p0.fLog 0).bind fun x331 =>
  (app 16 [strOfNums l328] x331).bind fun l338 =>
  some l338
noncomputable def m_plog_anew (p0 : GHard) : Option (List ByteArray) :=
  (m_plog_numbers [87] [p0.fTerm, p0.fVote, p0.fLog.fBase, p0.fLog.fBaseTerm, (p0.fVoters.length : Int)]).bind fun x4 =>
  (m_plog_Data p0.fVoters).bind fun x245 =>
  (app 1 x4 (bytesI x245)).bind fun l248 =>
  (m_plog_numbers l248 [(p0.fSnap.size : Int)]).bind fun x252 =>
  m_plog_anew_j1 p0 x252
theorem c_plog_anew {w0 : World} {M : Nat → Prop} {H : List (Nat × Nat × Obj)} {R : List (Nat × Row)} {φ : World → Prop} (p0 : GHard) (Ap0_0 : Option Addr) (cp0_0 : Nat) (hcp0_0 : p0.fVoters.length ≤ cp0_0) (fp0_0 : ∀ W, (Sta.mk w0 M H R φ).ok W → Cl W Ap0_0 (p0.fVoters.flatMap (fun x : Int => [Value.int .i64 x]))) (Ap0_1 : Option Addr) (cp0_1 : Nat) (hcp0_1 : p0.fLog.fEntries.length ≤ cp0_1) (fp0_1 : ∀ W, (Sta.mk w0 M H R φ).ok W → Cl W Ap0_1 (p0.fLog.fEntries.flatMap GEntry.enc)) (r : (List ByteArray)) (hm : m_plog_anew p0 = some r) :
    Cn Try.prog 79 #[.agg #[.int .i64 p0.fTerm, .int .i64 p0.fVote, .slice Ap0_0 p0.fVoters.length cp0_0, .string p0.fSnap, .int .i64 p0.fLog.fBase, .int .i64 p0.fLog.fBaseTerm, .slice Ap0_1 p0.fLog.fEntries.length cp0_1]] ⟨w0, M, H, R, φ⟩ (fun x : Option Addr × Nat => .slice x.1 r.length x.2) (fun x => r.length ≤ x.2) (fun x => ⟨w0, M, H, (2000, ⟨.slice x.1 r.length x.2, 9, 1, r.length, r.flatMap (fun x : ByteArray => [Value.string x])⟩) :: R, φ⟩) := by
 unfold m_plog_anew at hm
 refine cn_intro (fn := Try.f79) (N := 40) Try.func79 rfl Try.ntmps79 rfl ?_
 refine c_seq ?_
 refine c_region ?_
 refine g_e rfl (e_box 100010 rfl) (fun g1 _ => ?_)
 refine g_v rfl r_assign ?_
 refine g_nil ?_
 refine d_then ?_
 refine c_seq ?_
 refine c_region ?_
 refine g_e rfl (e_lit (tag := 100040) (l := [87]) (enc := (fun x : Int => [Value.int .u8 x])) (sz := 1) rfl Try.underlying95 (lit5_13 _) rfl rfl (fun _ => rfl)) (fun g2 _ => ?_)
 refine g_v rfl (r_field (n := 0) Try.underlying44 rfl Try.sizeOf3 rfl rfl) ?_
 refine g_v rfl (r_load (tag := 100010) rfl rfl rfl Try.isAgg3) ?_
 refine g_v rfl (r_field (n := 1) Try.underlying44 rfl Try.sizeOf3 rfl rfl) ?_
 refine g_v rfl (r_load (tag := 100010) rfl rfl rfl Try.isAgg3) ?_
 refine g_v rfl (r_field (n := 4) Try.underlying44 rfl Try.sizeOf26 rfl rfl) ?_
 refine g_v rfl (r_field (n := 4) Try.underlying26 rfl Try.sizeOf3 rfl rfl) ?_
 refine g_v rfl (r_load (tag := 100010) rfl rfl rfl Try.isAgg3) ?_
 refine g_v rfl (r_field (n := 4) Try.underlying44 rfl Try.sizeOf26 rfl rfl) ?_
 refine g_v rfl (r_field (n := 5) Try.underlying26 rfl Try.sizeOf3 rfl rfl) ?_
 refine g_v rfl (r_load (tag := 100010) rfl rfl rfl Try.isAgg3) ?_
 refine g_v rfl (r_field (n := 2) Try.underlying44 rfl Try.sizeOf42 rfl rfl) ?_
 refine g_v rfl (r_load (tag := 100010) rfl rfl rfl Try.isAgg42) ?_
 refine g_v rfl (r_lenL Try.underlying42 rfl) ?_
 refine g_e rfl (e_lit (tag := 100180) (l := [p0.fTerm, p0.fVote, p0.fLog.fBase, p0.fLog.fBaseTerm, (p0.fVoters.length : Int)]) (enc := (fun x : Int => [Value.int .i64 x])) (sz := 1) rfl Try.underlying42 (lit3_16 _ _ _ _ _) rfl rfl (fun _ => rfl)) (fun g3 _ => ?_)
 replace hm := bnd hm
 obtain ⟨x4, hx5, hm⟩ := hm
 refine g_cn ⟨w0, M, (100010, g1, .cells #[.int .i64 p0.fTerm, .int .i64 p0.fVote, .slice Ap0_0 p0.fVoters.length cp0_0, .string p0.fSnap, .int .i64 p0.fLog.fBase, .int .i64 p0.fLog.fBaseTerm, .slice Ap0_1 p0.fLog.fEntries.length cp0_1] 44 (0, 0)) :: H, (1000, ⟨.slice (some ⟨g2, 0, none⟩) [87].length 1, 5, 1, [87].length, [87].flatMap (fun x : Int => [Value.int .u8 x])⟩) :: (100180, ⟨.slice (some ⟨g3, 0, none⟩) [p0.fTerm, p0.fVote, p0.fLog.fBase, p0.fLog.fBaseTerm, (p0.fVoters.length : Int)].length 5, 3, 1, [p0.fTerm, p0.fVote, p0.fLog.fBase, p0.fLog.fBaseTerm, (p0.fVoters.length : Int)].length, [p0.fTerm, p0.fVote, p0.fLog.fBase, p0.fLog.fBaseTerm, (p0.fVoters.length : Int)].flatMap (fun x : Int => [Value.int .i64 x])⟩) :: R, φ⟩ (fun W h => (ok_frontR (t := 100040) (t' := 1000) h rfl)) Try.call81 rfl rfl (c_plog_numbers [87] (some ⟨g2, 0, none⟩) 1 (Nat.le_refl _) [p0.fTerm, p0.fVote, p0.fLog.fBase, p0.fLog.fBaseTerm, (p0.fVoters.length : Int)] (some ⟨g3, 0, none⟩) 5 (Nat.le_refl _) (fun W hS => rowCl (tag := 100180) rfl W hS) _ hx5) (fun ⟨A6, c7⟩ hc7 => ?_)
 refine g_sta _ (fun W h => ok_frontR (t := 2000) (t' := 100190) h rfl) ?_
 refine g_v rfl r_assign ?_
 refine g_nil ?_
 refine d_then ?_
 refine c_flat [(1, .pointer (some ⟨g1, 0, none⟩)), (3, .slice A6 x4.length c7)] ⟨rfl, rfl, trivial⟩ (fun u => ?_)
 refine c_sta ⟨w0, M, (100010, g1, .cells #[.int .i64 p0.fTerm, .int .i64 p0.fVote, .slice Ap0_0 p0.fVoters.length cp0_0, .string p0.fSnap, .int .i64 p0.fLog.fBase, .int .i64 p0.fLog.fBaseTerm, .slice Ap0_1 p0.fLog.fEntries.length cp0_1] 44 (0, 0)) :: H, (100190, ⟨.slice A6 x4.length c7, 5, 1, x4.length, x4.flatMap (fun x : Int => [Value.int .u8 x])⟩) :: (100180, ⟨.slice (some ⟨g3, 0, none⟩) [p0.fTerm, p0.fVote, p0.fLog.fBase, p0.fLog.fBaseTerm, (p0.fVoters.length : Int)].length 5, 3, 1, [p0.fTerm, p0.fVote, p0.fLog.fBase, p0.fLog.fBaseTerm, (p0.fVoters.length : Int)].length, [p0.fTerm, p0.fVote, p0.fLog.fBase, p0.fLog.fBaseTerm, (p0.fVoters.length : Int)].flatMap (fun x : Int => [Value.int .i64 x])⟩) :: R, φ⟩ (fun _ h => h) ?_
 refine c_seq ?_
 refine c_cut (ι := (List Int) × Option Addr × Nat) [1, 3] (fun ⟨l120, A121, c122⟩ => [(3, .slice A121 l120.length c122)]) (fun ⟨l120, A121, c122⟩ => ⟨w0, M, (100010, g1, .cells #[.int .i64 p0.fTerm, .int .i64 p0.fVote, .slice Ap0_0 p0.fVoters.length cp0_0, .string p0.fSnap, .int .i64 p0.fLog.fBase, .int .i64 p0.fLog.fBaseTerm, .slice Ap0_1 p0.fLog.fEntries.length cp0_1] 44 (0, 0)) :: H, (100290, ⟨.slice A121 l120.length c122, 5, 1, l120.length, l120.flatMap (fun x : Int => [Value.int .u8 x])⟩) :: R, φ⟩) (fun ⟨l120, A121, c122⟩ => m_plog_anew_j1 p0 l120 = some r ∧ l120.length ≤ c122) ?_ (fun ⟨l120, A121, c122⟩ u ⟨hm, hc122⟩ => ?_)
 ·
  refine ga_start (n := 11) ⟨w0, M, (100010, g1, .cells #[.int .i64 p0.fTerm, .int .i64 p0.fVote, .slice Ap0_0 p0.fVoters.length cp0_0, .string p0.fSnap, .int .i64 p0.fLog.fBase, .int .i64 p0.fLog.fBaseTerm, .slice Ap0_1 p0.fLog.fEntries.length cp0_1] 44 (0, 0)) :: H, (100180, ⟨.slice (some ⟨g3, 0, none⟩) [p0.fTerm, p0.fVote, p0.fLog.fBase, p0.fLog.fBaseTerm, (p0.fVoters.length : Int)].length 5, 3, 1, [p0.fTerm, p0.fVote, p0.fLog.fBase, p0.fLog.fBaseTerm, (p0.fVoters.length : Int)].length, [p0.fTerm, p0.fVote, p0.fLog.fBase, p0.fLog.fBaseTerm, (p0.fVoters.length : Int)].flatMap (fun x : Int => [Value.int .i64 x])⟩) :: R, φ⟩ [] #[false, false, false, false, false, false, false, false, false, false, false] (fun W h => ((h.shut (t := 100190) rfl).phi (fun _ hh => hh.1)).phi (fun W hφ => hφ)) mixed rfl rfl ?_
  refine ga_v (i := 0) #[true, false, false, false, false, false, false, false, false, false, false] rfl (by kernel_rfl) (fun _ _ _ _ h => h) rfl (r_move) ?_
  refine ga_v (i := 1) #[true, true, false, false, false, false, false, false, false, false, false] rfl (by kernel_rfl) (fun _ _ _ _ h => h) rfl (r_field (n := 2) Try.underlying44 rfl Try.sizeOf42 rfl rfl) ?_
  refine ga_v (i := 2) #[true, true, true, false, false, false, false, false, false, false, false] rfl (by kernel_rfl) (fun _ _ _ _ h => h) rfl (r_load (tag := 100010) rfl rfl rfl Try.isAgg42) ?_
  refine ga_v (i := 5) #[true, true, true, false, false, true, false, false, false, false, false] rfl (by kernel_rfl) (fun _ _ _ _ h => h) rfl (r_field (n := 3) Try.underlying44 rfl Try.sizeOf9 rfl rfl) ?_
  refine ga_v (i := 6) #[true, true, true, false, false, true, true, false, false, false, false] rfl (by kernel_rfl) (fun _ _ _ _ h => h) rfl (r_load (tag := 100010) rfl rfl rfl Try.isAgg9) ?_
  refine ga_v (i := 7) #[true, true, true, false, false, true, true, true, false, false, false] rfl (by kernel_rfl) (fun _ _ _ _ h => h) rfl (r_len Try.underlying9 rfl) ?_
  replace hm := bnd hm
  obtain ⟨x245, hx246, hm⟩ := hm
  refine ga_two (i := 3) (j := 8) #[true, true, true, true, false, true, true, true, false, false, false] #[true, true, true, false, false, true, true, true, true, false, false] rfl rfl (by kernel_rfl) (by decide) (by decide) ?_ ?_
  ·
   refine ex_cn (first := #[]) ⟨w0, M, _, _, φ⟩ (fun _ h => h) Try.call28 rfl rfl rfl (c_plog_Data p0.fVoters Ap0_0 cp0_0 hcp0_0 (fun W hS => fp0_0 W (ok_pre (H1 := [_]) (R1 := [_, _]) hS (fun W h => h))) _ hx246) (fun _ W _ h => ((h.shut (t := 100190) rfl).phi (fun _ hh => hh.1)).phi (fun W hφ => hφ)) (fun _ _ => ?_)
   replace hm := bnd hm
   obtain ⟨l248, hl248, hm⟩ := hm
   refine ga_two (i := 4) (j := 8) #[true, true, true, true, true, true, true, true, false, false, false] #[true, true, true, true, false, true, true, true, true, false, false] rfl rfl (by kernel_rfl) (by decide) (by decide) ?_ ?_
   ·
    refine ex_e rfl (e_appRS (l := x4) (l2 := l248) (tag := 100190) Try.underlying95 Try.underlying9 inf5_4 rfl hc7 rfl rfl hl248) (fun ⟨A249, c250⟩ W hc250 h => ((h.shut (t := 100190) rfl).phi (fun _ hh => hh.1)).phi (fun W hφ => hφ)) (fun ⟨A249, c250⟩ hc250 => ?_)
    refine ga_e (i := 8) #[true, true, true, true, true, true, true, true, true, false, false] rfl (by kernel_rfl) (by decide) rfl  (e_lit (tag := 100280) (l := [(p0.fSnap.size : Int)]) (enc := (fun x : Int => [Value.int .i64 x])) (sz := 1) rfl Try.underlying42 (lit3_1 _) rfl rfl (fun _ => rfl)) (fun g251 W _ h => ((((h.shut (t := 100280) rfl).phi (fun _ hh => hh.1)).shut (t := 100190) rfl).phi (fun _ hh => hh.1)).phi (fun W hφ => hφ)) (fun g251 _ => ?_)
    replace hm := bnd hm
    obtain ⟨x252, hx253, hm⟩ := hm
    refine ga_cn (first := #[]) (i := 9) #[true, true, true, true, true, true, true, true, true, true, false] rfl (by kernel_rfl) (by decide)  ⟨w0, M, (100010, g1, .cells #[.int .i64 p0.fTerm, .int .i64 p0.fVote, .slice Ap0_0 p0.fVoters.length cp0_0, .string p0.fSnap, .int .i64 p0.fLog.fBase, .int .i64 p0.fLog.fBaseTerm, .slice Ap0_1 p0.fLog.fEntries.length cp0_1] 44 (0, 0)) :: H, (1000, ⟨.slice A249 l248.length c250, 5, 1, l248.length, l248.flatMap (fun x : Int => [Value.int .u8 x])⟩) :: (100280, ⟨.slice (some ⟨g251, 0, none⟩) [(p0.fSnap.size : Int)].length 1, 3, 1, [(p0.fSnap.size : Int)].length, [(p0.fSnap.size : Int)].flatMap (fun x : Int => [Value.int .i64 x])⟩) :: (100180, ⟨.slice (some ⟨g3, 0, none⟩) [p0.fTerm, p0.fVote, p0.fLog.fBase, p0.fLog.fBaseTerm, (p0.fVoters.length : Int)].length 5, 3, 1, [p0.fTerm, p0.fVote, p0.fLog.fBase, p0.fLog.fBaseTerm, (p0.fVoters.length : Int)].length, [p0.fTerm, p0.fVote, p0.fLog.fBase, p0.fLog.fBaseTerm, (p0.fVoters.length : Int)].flatMap (fun x : Int => [Value.int .i64 x])⟩) :: R, φ⟩ (fun W h => (ok_frontR (t := 100190) (t' := 1000) h rfl)) Try.call81 rfl rfl rfl (c_plog_numbers l248 A249 c250 hc250 [(p0.fSnap.size : Int)] (some ⟨g251, 0, none⟩) 1 (Nat.le_refl _) (fun W hS => rowCl (tag := 100280) rfl W hS) _ hx253) (fun ⟨A254, c255⟩ W hc255 h => ((((h.shut (t := 2000) rfl).phi (fun _ hh => hh.1)).shut (t := 100280) rfl).phi (fun _ hh => hh.1)).phi (fun W hφ => hφ)) (fun ⟨A254, c255⟩ hc255 => ?_)
    refine ga_sta _ (fun W h => ok_frontR (t := 2000) (t' := 100290) h rfl) ?_
    refine ga_r (i := 10) #[true, true, true, true, true, true, true, true, true, true, true] rfl (by kernel_rfl) (by decide) rfl (r_assign) ?_
    refine ga_done (by kernel_rfl) ?_
    exact d_round (x252, A254, c255) ⟨hm, hc255⟩ Nat.zero_lt_one ⟨rfl, rfl, trivial⟩ (fun W h => ((((h.shut (t := 100280) rfl).phi (fun _ hh => hh.1)).shut (t := 100180) rfl).phi (fun _ hh => hh.1)).phi (fun W hφ => hφ))
   ·
    refine ex_e rfl (e_lit (tag := 100280) (l := [(p0.fSnap.size : Int)]) (enc := (fun x : Int => [Value.int .i64 x])) (sz := 1) rfl Try.underlying42 (lit3_1 _) rfl rfl (fun _ => rfl)) (fun g257 W _ h => ((((h.shut (t := 100280) rfl).phi (fun _ hh => hh.1)).shut (t := 100190) rfl).phi (fun _ hh => hh.1)).phi (fun W hφ => hφ)) (fun g257 _ => ?_)
    refine ga_e (i := 4) #[true, true, true, true, true, true, true, true, true, false, false] rfl (by kernel_rfl) (by decide) rfl  (e_appRS (l := x4) (l2 := l248) (tag := 100190) Try.underlying95 Try.underlying9 inf5_4 rfl hc7 rfl rfl hl248) (fun ⟨A258, c259⟩ W hc259 h => ((((h.shut (t := 100280) rfl).phi (fun _ hh => hh.1)).shut (t := 100190) rfl).phi (fun _ hh => hh.1)).phi (fun W hφ => hφ)) (fun ⟨A258, c259⟩ hc259 => ?_)
    replace hm := bnd hm
    obtain ⟨x260, hx261, hm⟩ := hm
    refine ga_cn (first := #[]) (i := 9) #[true, true, true, true, true, true, true, true, true, true, false] rfl (by kernel_rfl) (by decide)  ⟨w0, M, (100010, g1, .cells #[.int .i64 p0.fTerm, .int .i64 p0.fVote, .slice Ap0_0 p0.fVoters.length cp0_0, .string p0.fSnap, .int .i64 p0.fLog.fBase, .int .i64 p0.fLog.fBaseTerm, .slice Ap0_1 p0.fLog.fEntries.length cp0_1] 44 (0, 0)) :: H, (1000, ⟨.slice A258 l248.length c259, 5, 1, l248.length, l248.flatMap (fun x : Int => [Value.int .u8 x])⟩) :: (100280, ⟨.slice (some ⟨g257, 0, none⟩) [(p0.fSnap.size : Int)].length 1, 3, 1, [(p0.fSnap.size : Int)].length, [(p0.fSnap.size : Int)].flatMap (fun x : Int => [Value.int .i64 x])⟩) :: (100180, ⟨.slice (some ⟨g3, 0, none⟩) [p0.fTerm, p0.fVote, p0.fLog.fBase, p0.fLog.fBaseTerm, (p0.fVoters.length : Int)].length 5, 3, 1, [p0.fTerm, p0.fVote, p0.fLog.fBase, p0.fLog.fBaseTerm, (p0.fVoters.length : Int)].length, [p0.fTerm, p0.fVote, p0.fLog.fBase, p0.fLog.fBaseTerm, (p0.fVoters.length : Int)].flatMap (fun x : Int => [Value.int .i64 x])⟩) :: R, φ⟩ (fun W h => (ok_frontR (t := 100190) (t' := 1000) h rfl)) Try.call81 rfl rfl rfl (c_plog_numbers l248 A258 c259 hc259 [(p0.fSnap.size : Int)] (some ⟨g257, 0, none⟩) 1 (Nat.le_refl _) (fun W hS => rowCl (tag := 100280) rfl W hS) _ hx261) (fun ⟨A262, c263⟩ W hc263 h => ((((h.shut (t := 2000) rfl).phi (fun _ hh => hh.1)).shut (t := 100280) rfl).phi (fun _ hh => hh.1)).phi (fun W hφ => hφ)) (fun ⟨A262, c263⟩ hc263 => ?_)
    refine ga_sta _ (fun W h => ok_frontR (t := 2000) (t' := 100290) h rfl) ?_
    refine ga_r (i := 10) #[true, true, true, true, true, true, true, true, true, true, true] rfl (by kernel_rfl) (by decide) rfl (r_assign) ?_
    refine ga_done (by kernel_rfl) ?_
    exact d_round (x260, A262, c263) ⟨hm, hc263⟩ Nat.zero_lt_one ⟨rfl, rfl, trivial⟩ (fun W h => ((((h.shut (t := 100280) rfl).phi (fun _ hh => hh.1)).shut (t := 100180) rfl).phi (fun _ hh => hh.1)).phi (fun W hφ => hφ))
  ·
   refine ex_e rfl (e_lit (tag := 100280) (l := [(p0.fSnap.size : Int)]) (enc := (fun x : Int => [Value.int .i64 x])) (sz := 1) rfl Try.underlying42 (lit3_1 _) rfl rfl (fun _ => rfl)) (fun g265 W _ h => ((((h.shut (t := 100280) rfl).phi (fun _ hh => hh.1)).shut (t := 100190) rfl).phi (fun _ hh => hh.1)).phi (fun W hφ => hφ)) (fun g265 _ => ?_)
   refine ga_cn (first := #[]) (i := 3) #[true, true, true, true, false, true, true, true, true, false, false] rfl (by kernel_rfl) (by decide)  ⟨w0, M, _, _, φ⟩ (fun _ h => h) Try.call28 rfl rfl rfl (c_plog_Data p0.fVoters Ap0_0 cp0_0 hcp0_0 (fun W hS => fp0_0 W (ok_pre (H1 := [_]) (R1 := [_, _, _]) hS (fun W h => h))) _ hx246) (fun _ W _ h => ((((h.shut (t := 100280) rfl).phi (fun _ hh => hh.1)).shut (t := 100190) rfl).phi (fun _ hh => hh.1)).phi (fun W hφ => hφ)) (fun _ _ => ?_)
   replace hm := bnd hm
   obtain ⟨l266, hl266, hm⟩ := hm
   refine ga_e (i := 4) #[true, true, true, true, true, true, true, true, true, false, false] rfl (by kernel_rfl) (by decide) rfl  (e_appRS (l := x4) (l2 := l266) (tag := 100190) Try.underlying95 Try.underlying9 inf5_4 rfl hc7 rfl rfl hl266) (fun ⟨A267, c268⟩ W hc268 h => ((((h.shut (t := 100280) rfl).phi (fun _ hh => hh.1)).shut (t := 100190) rfl).phi (fun _ hh => hh.1)).phi (fun W hφ => hφ)) (fun ⟨A267, c268⟩ hc268 => ?_)
   replace hm := bnd hm
   obtain ⟨x269, hx270, hm⟩ := hm
   refine ga_cn (first := #[]) (i := 9) #[true, true, true, true, true, true, true, true, true, true, false] rfl (by kernel_rfl) (by decide)  ⟨w0, M, (100010, g1, .cells #[.int .i64 p0.fTerm, .int .i64 p0.fVote, .slice Ap0_0 p0.fVoters.length cp0_0, .string p0.fSnap, .int .i64 p0.fLog.fBase, .int .i64 p0.fLog.fBaseTerm, .slice Ap0_1 p0.fLog.fEntries.length cp0_1] 44 (0, 0)) :: H, (1000, ⟨.slice A267 l266.length c268, 5, 1, l266.length, l266.flatMap (fun x : Int => [Value.int .u8 x])⟩) :: (100280, ⟨.slice (some ⟨g265, 0, none⟩) [(p0.fSnap.size : Int)].length 1, 3, 1, [(p0.fSnap.size : Int)].length, [(p0.fSnap.size : Int)].flatMap (fun x : Int => [Value.int .i64 x])⟩) :: (100180, ⟨.slice (some ⟨g3, 0, none⟩) [p0.fTerm, p0.fVote, p0.fLog.fBase, p0.fLog.fBaseTerm, (p0.fVoters.length : Int)].length 5, 3, 1, [p0.fTerm, p0.fVote, p0.fLog.fBase, p0.fLog.fBaseTerm, (p0.fVoters.length : Int)].length, [p0.fTerm, p0.fVote, p0.fLog.fBase, p0.fLog.fBaseTerm, (p0.fVoters.length : Int)].flatMap (fun x : Int => [Value.int .i64 x])⟩) :: R, φ⟩ (fun W h => (ok_frontR (t := 100190) (t' := 1000) h rfl)) Try.call81 rfl rfl rfl (c_plog_numbers l266 A267 c268 hc268 [(p0.fSnap.size : Int)] (some ⟨g265, 0, none⟩) 1 (Nat.le_refl _) (fun W hS => rowCl (tag := 100280) rfl W hS) _ hx270) (fun ⟨A271, c272⟩ W hc272 h => ((((h.shut (t := 2000) rfl).phi (fun _ hh => hh.1)).shut (t := 100280) rfl).phi (fun _ hh => hh.1)).phi (fun W hφ => hφ)) (fun ⟨A271, c272⟩ hc272 => ?_)
   refine ga_sta _ (fun W h => ok_frontR (t := 2000) (t' := 100290) h rfl) ?_
   refine ga_r (i := 10) #[true, true, true, true, true, true, true, true, true, true, true] rfl (by kernel_rfl) (by decide) rfl (r_assign) ?_
   refine ga_done (by kernel_rfl) ?_
   exact d_round (x269, A271, c272) ⟨hm, hc272⟩ Nat.zero_lt_one ⟨rfl, rfl, trivial⟩ (fun W h => ((((h.shut (t := 100280) rfl).phi (fun _ hh => hh.1)).shut (t := 100180) rfl).phi (fun _ hh => hh.1)).phi (fun W hφ => hφ))
 ·
  unfold m_plog_anew_j1 at hm
  refine d_flat [(1, .pointer (some ⟨g1, 0, none⟩)), (3, .slice A121 l120.length c122)] ⟨rfl, rfl, trivial⟩ (fun u => ?_)
  refine d_sta ⟨w0, M, (100010, g1, .cells #[.int .i64 p0.fTerm, .int .i64 p0.fVote, .slice Ap0_0 p0.fVoters.length cp0_0, .string p0.fSnap, .int .i64 p0.fLog.fBase, .int .i64 p0.fLog.fBaseTerm, .slice Ap0_1 p0.fLog.fEntries.length cp0_1] 44 (0, 0)) :: H, (100290, ⟨.slice A121 l120.length c122, 5, 1, l120.length, l120.flatMap (fun x : Int => [Value.int .u8 x])⟩) :: R, φ⟩ (fun _ h => h) ?_
  refine d_then ?_
  refine c_seq ?_
  refine ga_start (n := 11) ⟨w0, M, (100010, g1, .cells #[.int .i64 p0.fTerm, .int .i64 p0.fVote, .slice Ap0_0 p0.fVoters.length cp0_0, .string p0.fSnap, .int .i64 p0.fLog.fBase, .int .i64 p0.fLog.fBaseTerm, .slice Ap0_1 p0.fLog.fEntries.length cp0_1] 44 (0, 0)) :: H, R, φ⟩ [] #[false, false, false, false, false, false, false, false, false, false, false] (fun W h => ((h.shut (t := 100290) rfl).phi (fun _ hh => hh.1)).phi (fun W hφ => hφ)) mixed rfl rfl ?_
  refine ga_v (i := 0) #[true, false, false, false, false, false, false, false, false, false, false] rfl (by kernel_rfl) (fun _ _ _ _ h => h) rfl (r_move) ?_
  refine ga_v (i := 1) #[true, true, false, false, false, false, false, false, false, false, false] rfl (by kernel_rfl) (fun _ _ _ _ h => h) rfl (r_field (n := 3) Try.underlying44 rfl Try.sizeOf9 rfl rfl) ?_
  refine ga_v (i := 2) #[true, true, true, false, false, false, false, false, false, false, false] rfl (by kernel_rfl) (fun _ _ _ _ h => h) rfl (r_load (tag := 100010) rfl rfl rfl Try.isAgg9) ?_
  refine ga_v (i := 6) #[true, true, true, false, false, false, true, false, false, false, false] rfl (by kernel_rfl) (fun _ _ _ _ h => h) rfl (r_field (n := 4) Try.underlying44 rfl Try.sizeOf26 rfl rfl) ?_
  refine ga_v (i := 7) #[true, true, true, false, false, false, true, true, false, false, false] rfl (by kernel_rfl) (fun _ _ _ _ h => h) rfl (r_loadA (tag := 100010) rfl rfl Try.isAgg26 Try.sizeOf26 rfl rfl) ?_
  replace hm := bnd hm
  obtain ⟨l328, hl328, hm⟩ := hm
  refine ga_e (i := 3) #[true, true, true, true, false, false, true, true, false, false, false] rfl (by kernel_rfl) (by decide) rfl  (e_appRS (l := l120) (l2 := l328) (tag := 100290) Try.underlying95 Try.underlying9 inf5_4 rfl hc122 rfl rfl hl328) (fun ⟨A329, c330⟩ W hc330 h => ((h.shut (t := 100290) rfl).phi (fun _ hh => hh.1)).phi (fun W hφ => hφ)) (fun ⟨A329, c330⟩ hc330 => ?_)
  replace hm := bnd hm
  obtain ⟨x331, hx332, hm⟩ := hm
  refine ga_two (i := 4) (j := 8) #[true, true, true, true, true, false, true, true, false, false, false] #[true, true, true, true, false, false, true, true, true, false, false] rfl rfl (by kernel_rfl) (by decide) (by decide) ?_ ?_
  ·
   refine ex_r rfl (r_textE Try.underlying95 Try.underlying5 Try.underlying9 rfl (fun W hS => rowCl (tag := 100290) rfl W hS)) ?_
   refine ga_two (i := 5) (j := 8) #[true, true, true, true, true, true, true, true, false, false, false] #[true, true, true, true, true, false, true, true, true, false, false] rfl rfl (by kernel_rfl) (by decide) (by decide) ?_ ?_
   ·
    refine ex_e rfl (e_lit (tag := 100350) (l := [strOfNums l328]) (enc := (fun x : ByteArray => [Value.string x])) (sz := 1) rfl Try.underlying58 (lit9_14 _) rfl rfl (fun _ => rfl)) (fun g334 W _ h => ((((h.shut (t := 100350) rfl).phi (fun _ hh => hh.1)).shut (t := 100290) rfl).phi (fun _ hh => hh.1)).phi (fun W hφ => hφ)) (fun g334 _ => ?_)
    refine ga_cn (first := #[]) (i := 8) #[true, true, true, true, true, true, true, true, true, false, false] rfl (by kernel_rfl) (by decide)  ⟨w0, M, _, _, φ⟩ (fun _ h => h) Try.call82 rfl rfl rfl (c_plog_entries p0.fLog Ap0_1 cp0_1 hcp0_1 (fun W hS => fp0_1 W (ok_pre (H1 := [_]) (R1 := [_, _]) hS (fun W h => h))) 0 _ hx332) (fun ⟨A335, c336⟩ W hc336 h => ((((((h.shut (t := 2000) rfl).phi (fun _ hh => hh.1)).shut (t := 100350) rfl).phi (fun _ hh => hh.1)).shut (t := 100290) rfl).phi (fun _ hh => hh.1)).phi (fun W hφ => hφ)) (fun ⟨A335, c336⟩ hc336 => ?_)
    refine ga_sta _ (fun W h => ok_frontR (t := 2000) (t' := 100380) h rfl) ?_
    replace hm := bnd hm
    obtain ⟨l338, hl338, hm⟩ := hm
    refine ga_e (i := 9) #[true, true, true, true, true, true, true, true, true, true, false] rfl (by kernel_rfl) (by decide) rfl  (e_appR (enc := (fun x : ByteArray => [Value.string x])) (l := [strOfNums l328]) (l1 := x331) (l2 := l338) (tag := 100350) Try.underlying58 inf9_15 rfl (by decide) (by decide) (fun _ => rfl) (fun _ => rfl) rfl (Nat.le_refl _) rfl rfl (fun W hS => rowCl (tag := 100380) rfl W hS) hl338) (fun ⟨A339, c340⟩ W hc340 h => ((((((h.shut (t := 100380) rfl).phi (fun _ hh => hh.1)).shut (t := 100350) rfl).phi (fun _ hh => hh.1)).shut (t := 100290) rfl).phi (fun _ hh => hh.1)).phi (fun W hφ => hφ)) (fun ⟨A339, c340⟩ hc340 => ?_)
    refine ga_r (i := 10) #[true, true, true, true, true, true, true, true, true, true, true] rfl (by kernel_rfl) (by decide) rfl (r_assign) ?_
    refine ga_done (by kernel_rfl) ?_
    refine d_then ?_
    refine c_flat [(2, .slice A339 l338.length c340)] ⟨rfl, trivial⟩ (fun u => ?_)
    refine c_sta ⟨w0, M, (100010, g1, .cells #[.int .i64 p0.fTerm, .int .i64 p0.fVote, .slice Ap0_0 p0.fVoters.length cp0_0, .string p0.fSnap, .int .i64 p0.fLog.fBase, .int .i64 p0.fLog.fBaseTerm, .slice Ap0_1 p0.fLog.fEntries.length cp0_1] 44 (0, 0)) :: H, (100380, ⟨.slice A335 x331.length c336, 9, 1, x331.length, x331.flatMap (fun x : ByteArray => [Value.string x])⟩) :: (100350, ⟨.slice A339 l338.length c340, 9, 1, l338.length, l338.flatMap (fun x : ByteArray => [Value.string x])⟩) :: (100290, ⟨.slice A329 l328.length c330, 5, 1, l328.length, l328.flatMap (fun x : Int => [Value.int .u8 x])⟩) :: R, φ⟩ (fun _ h => h) ?_
    refine c_ret ?_
    replace hm := Option.some.inj hm
    subst hm
    refine d_sta _ (fun W h => ok_frontR (t := 100350) (t' := 2000) h rfl) ?_
    refine d_retC (A339, c340) Try.results79 ?_ hc340 (fun W h => (((((h.shut (t := 100380) rfl).phi (fun _ hh => hh.1)).shut (t := 100290) rfl).phi (fun _ hh => hh.1)).dropH (t := 100010) rfl).phi (fun W hφ => hφ)) (.inr rfl)
    refine res_tmp ?_
    refine res_nil ?_
    exact rfl
   ·
    refine ex_cn (first := #[]) ⟨w0, M, _, _, φ⟩ (fun _ h => h) Try.call82 rfl rfl rfl (c_plog_entries p0.fLog Ap0_1 cp0_1 hcp0_1 (fun W hS => fp0_1 W (ok_pre (H1 := [_]) (R1 := [_]) hS (fun W h => h))) 0 _ hx332) (fun ⟨A341, c342⟩ W hc342 h => ((((h.shut (t := 2000) rfl).phi (fun _ hh => hh.1)).shut (t := 100290) rfl).phi (fun _ hh => hh.1)).phi (fun W hφ => hφ)) (fun ⟨A341, c342⟩ hc342 => ?_)
    refine ga_sta _ (fun W h => ok_frontR (t := 2000) (t' := 100380) h rfl) ?_
    refine ga_e (i := 5) #[true, true, true, true, true, true, true, true, true, false, false] rfl (by kernel_rfl) (by decide) rfl  (e_lit (tag := 100350) (l := [strOfNums l328]) (enc := (fun x : ByteArray => [Value.string x])) (sz := 1) rfl Try.underlying58 (lit9_14 _) rfl rfl (fun _ => rfl)) (fun g344 W _ h => ((((((h.shut (t := 100350) rfl).phi (fun _ hh => hh.1)).shut (t := 100380) rfl).phi (fun _ hh => hh.1)).shut (t := 100290) rfl).phi (fun _ hh => hh.1)).phi (fun W hφ => hφ)) (fun g344 _ => ?_)
    replace hm := bnd hm
    obtain ⟨l345, hl345, hm⟩ := hm
    refine ga_e (i := 9) #[true, true, true, true, true, true, true, true, true, true, false] rfl (by kernel_rfl) (by decide) rfl  (e_appR (enc := (fun x : ByteArray => [Value.string x])) (l := [strOfNums l328]) (l1 := x331) (l2 := l345) (tag := 100350) Try.underlying58 inf9_15 rfl (by decide) (by decide) (fun _ => rfl) (fun _ => rfl) rfl (Nat.le_refl _) rfl rfl (fun W hS => rowCl (tag := 100380) rfl W hS) hl345) (fun ⟨A346, c347⟩ W hc347 h => ((((((h.shut (t := 100350) rfl).phi (fun _ hh => hh.1)).shut (t := 100380) rfl).phi (fun _ hh => hh.1)).shut (t := 100290) rfl).phi (fun _ hh => hh.1)).phi (fun W hφ => hφ)) (fun ⟨A346, c347⟩ hc347 => ?_)
    refine ga_r (i := 10) #[true, true, true, true, true, true, true, true, true, true, true] rfl (by kernel_rfl) (by decide) rfl (r_assign) ?_
    refine ga_done (by kernel_rfl) ?_
    refine d_then ?_
    refine c_flat [(2, .slice A346 l345.length c347)] ⟨rfl, trivial⟩ (fun u => ?_)
    refine c_sta ⟨w0, M, (100010, g1, .cells #[.int .i64 p0.fTerm, .int .i64 p0.fVote, .slice Ap0_0 p0.fVoters.length cp0_0, .string p0.fSnap, .int .i64 p0.fLog.fBase, .int .i64 p0.fLog.fBaseTerm, .slice Ap0_1 p0.fLog.fEntries.length cp0_1] 44 (0, 0)) :: H, (100350, ⟨.slice A346 l345.length c347, 9, 1, l345.length, l345.flatMap (fun x : ByteArray => [Value.string x])⟩) :: (100380, ⟨.slice A341 x331.length c342, 9, 1, x331.length, x331.flatMap (fun x : ByteArray => [Value.string x])⟩) :: (100290, ⟨.slice A329 l328.length c330, 5, 1, l328.length, l328.flatMap (fun x : Int => [Value.int .u8 x])⟩) :: R, φ⟩ (fun _ h => h) ?_
    refine c_ret ?_
    replace hm := Option.some.inj hm
    subst hm
    refine d_sta _ (fun W h => ok_frontR (t := 100350) (t' := 2000) h rfl) ?_
    refine d_retC (A346, c347) Try.results79 ?_ hc347 (fun W h => (((((h.shut (t := 100380) rfl).phi (fun _ hh => hh.1)).shut (t := 100290) rfl).phi (fun _ hh => hh.1)).dropH (t := 100010) rfl).phi (fun W hφ => hφ)) (.inr rfl)
    refine res_tmp ?_
    refine res_nil ?_
    exact rfl
  ·
   refine ex_cn (first := #[]) ⟨w0, M, _, _, φ⟩ (fun _ h => h) Try.call82 rfl rfl rfl (c_plog_entries p0.fLog Ap0_1 cp0_1 hcp0_1 (fun W hS => fp0_1 W (ok_pre (H1 := [_]) (R1 := [_]) hS (fun W h => h))) 0 _ hx332) (fun ⟨A348, c349⟩ W hc349 h => ((((h.shut (t := 2000) rfl).phi (fun _ hh => hh.1)).shut (t := 100290) rfl).phi (fun _ hh => hh.1)).phi (fun W hφ => hφ)) (fun ⟨A348, c349⟩ hc349 => ?_)
   refine ga_sta _ (fun W h => ok_frontR (t := 2000) (t' := 100380) h rfl) ?_
   refine ga_r (i := 4) #[true, true, true, true, true, false, true, true, true, false, false] rfl (by kernel_rfl) (by decide) rfl (r_textE Try.underlying95 Try.underlying5 Try.underlying9 rfl (fun W hS => rowCl (tag := 100290) rfl W hS)) ?_
   refine ga_e (i := 5) #[true, true, true, true, true, true, true, true, true, false, false] rfl (by kernel_rfl) (by decide) rfl  (e_lit (tag := 100350) (l := [strOfNums l328]) (enc := (fun x : ByteArray => [Value.string x])) (sz := 1) rfl Try.underlying58 (lit9_14 _) rfl rfl (fun _ => rfl)) (fun g351 W _ h => ((((((h.shut (t := 100350) rfl).phi (fun _ hh => hh.1)).shut (t := 100380) rfl).phi (fun _ hh => hh.1)).shut (t := 100290) rfl).phi (fun _ hh => hh.1)).phi (fun W hφ => hφ)) (fun g351 _ => ?_)
   replace hm := bnd hm
   obtain ⟨l352, hl352, hm⟩ := hm
   refine ga_e (i := 9) #[true, true, true, true, true, true, true, true, true, true, false] rfl (by kernel_rfl) (by decide) rfl  (e_appR (enc := (fun x : ByteArray => [Value.string x])) (l := [strOfNums l328]) (l1 := x331) (l2 := l352) (tag := 100350) Try.underlying58 inf9_15 rfl (by decide) (by decide) (fun _ => rfl) (fun _ => rfl) rfl (Nat.le_refl _) rfl rfl (fun W hS => rowCl (tag := 100380) rfl W hS) hl352) (fun ⟨A353, c354⟩ W hc354 h => ((((((h.shut (t := 100350) rfl).phi (fun _ hh => hh.1)).shut (t := 100380) rfl).phi (fun _ hh => hh.1)).shut (t := 100290) rfl).phi (fun _ hh => hh.1)).phi (fun W hφ => hφ)) (fun ⟨A353, c354⟩ hc354 => ?_)
   refine ga_r (i := 10) #[true, true, true, true, true, true, true, true, true, true, true] rfl (by kernel_rfl) (by decide) rfl (r_assign) ?_
   refine ga_done (by kernel_rfl) ?_
   refine d_then ?_
   refine c_flat [(2, .slice A353 l352.length c354)] ⟨rfl, trivial⟩ (fun u => ?_)
   refine c_sta ⟨w0, M, (100010, g1, .cells #[.int .i64 p0.fTerm, .int .i64 p0.fVote, .slice Ap0_0 p0.fVoters.length cp0_0, .string p0.fSnap, .int .i64 p0.fLog.fBase, .int .i64 p0.fLog.fBaseTerm, .slice Ap0_1 p0.fLog.fEntries.length cp0_1] 44 (0, 0)) :: H, (100350, ⟨.slice A353 l352.length c354, 9, 1, l352.length, l352.flatMap (fun x : ByteArray => [Value.string x])⟩) :: (100380, ⟨.slice A348 x331.length c349, 9, 1, x331.length, x331.flatMap (fun x : ByteArray => [Value.string x])⟩) :: (100290, ⟨.slice A329 l328.length c330, 5, 1, l328.length, l328.flatMap (fun x : Int => [Value.int .u8 x])⟩) :: R, φ⟩ (fun _ h => h) ?_
   refine c_ret ?_
   replace hm := Option.some.inj hm
   subst hm
   refine d_sta _ (fun W h => ok_frontR (t := 100350) (t' := 2000) h rfl) ?_
   refine d_retC (A353, c354) Try.results79 ?_ hc354 (fun W h => (((((h.shut (t := 100380) rfl).phi (fun _ hh => hh.1)).shut (t := 100290) rfl).phi (fun _ hh => hh.1)).dropH (t := 100010) rfl).phi (fun W hφ => hφ)) (.inr rfl)
   refine res_tmp ?_
   refine res_nil ?_
   exact rfl
end Go.Proofs.Ytildknbbpkbkeaa
