import Derived.Test.YtdcfemndfnfedaaWNCA
set_option maxRecDepth 100000
set_option maxHeartbeats 4000000
set_option linter.unusedVariables false
set_option linter.unusedSimpArgs false
namespace Go.Proofs.Ytdcfemndfnfedaa
open Go.RowKit Go.Proofs.YtdcfemndfnfedaaW.PrintLast
noncomputable def m_ref03_Make_j1  (s98 : ByteArray) : Option (ByteArray × Int) :=
  if 254 < (s98.size : Int) then
    some ((⟨#[]⟩ : ByteArray), 11)
  else
    (sadd s98 (strOfNums [0])).bind fun s101 =>
    some (s101, 0)
noncomputable def m_ref03_Make_s2 (p0 : List ByteArray) (s149 : ByteArray) (i150 : Int) : Option ((ByteArray × Int) ⊕ (ByteArray ⊕ (ByteArray × Int))) :=
  if i150 < (p0.length : Int) then
    (at_ p0 i150).bind fun x200 =>
    if (x200.size : Int) < 1 then
      some (.inr (.inr ((⟨#[]⟩ : ByteArray), 10)))
    else
      (at_ p0 i150).bind fun x205 =>
      if 63 < (x205.size : Int) then
        some (.inr (.inr ((⟨#[]⟩ : ByteArray), 10)))
      else
        if (s149.size : Int) ≤ 255 then
          (at_ p0 i150).bind fun x233 =>
          (at_ p0 i150).bind fun x237 =>
          (sadd s149 (strOfNums [IntKind.u8.wrap (x233.size : Int)])).bind fun s242 =>
          (sadd s242 x237).bind fun s243 =>
          some (.inl (s243, w64 (i150 + 1)))
        else
          some (.inl (s149, w64 (i150 + 1)))
  else
    some (.inr (.inl s149))
noncomputable def m_ref03_Make (p0 : List ByteArray) : Option (ByteArray × Int) :=
  (loop (fun s => m_ref03_Make_s2 p0 s.1 s.2) ((⟨#[]⟩ : ByteArray), 0)).bind fun e => Sum.elim (fun e => m_ref03_Make_j1 e) (fun x => some x) e
theorem c_ref03_Make {w0 : World} {M : Nat → Prop} {H : List (Nat × Nat × Obj)} {R : List (Nat × Row)} {φ : World → Prop} (p0 : List ByteArray) (Ap0_0 : Option Addr) (cp0_0 : Nat) (hcp0_0 : p0.length ≤ cp0_0) (fp0_0 : ∀ W, (Sta.mk w0 M H R φ).ok W → Cl W Ap0_0 (p0.flatMap (fun x : ByteArray => [Value.string x]))) (r : ByteArray × Int) (hm : m_ref03_Make p0 = some r) :
    Cn Try.prog 41 #[.slice Ap0_0 p0.length cp0_0] ⟨w0, M, H, R, φ⟩ (fun x : Unit => .tuple #[.string r.1, .int .i64 r.2]) (fun x => True) (fun x => ⟨w0, M, H, R, φ⟩) := by
 unfold m_ref03_Make at hm
 refine cn_intro (fn := Try.f41) (N := 51) Try.func41 rfl Try.ntmps41 rfl ?_
 refine c_seq ?_
 refine c_region ?_
 refine g_v rfl r_assign ?_
 refine g_v rfl r_assign ?_
 refine g_nil ?_
 refine d_then ?_
 refine c_seq ?_
 refine c_region ?_
 refine g_v rfl r_assign ?_
 refine g_nil ?_
 refine d_then ?_
 refine c_seq ?_
 refine c_seq ?_
 refine c_region ?_
 refine g_v rfl r_assign ?_
 refine g_nil ?_
 refine d_then ?_
 refine c_cut (ι := ByteArray) [4] (fun s98 => [(4, .string s98)]) (fun s98 => ⟨w0, M, H, R, φ⟩) (fun s98 => m_ref03_Make_j1 s98 = some r) ?_ (fun s98 u hm => ?_)
 ·
  refine c_block ?_
  replace hm := bnd hm
  obtain ⟨out2, hl2, hr2⟩ := hm
  obtain ⟨n198', hl2⟩ := loop_lp hl2
  refine c_loopU (ι := Nat × ByteArray × Int) [0, 4, 5] (fun ⟨n198, s149, i150⟩ => [(4, .string s149), (5, .int .i64 i150)]) (fun ⟨n198, s149, i150⟩ => ⟨w0, M, H, R, φ⟩) (fun ⟨n198, s149, i150⟩ => Lp (fun s => m_ref03_Make_s2 p0 s.1 s.2) n198 (s149, i150) out2) (fun ⟨n198, s149, i150⟩ => n198) (n198', (⟨#[]⟩ : ByteArray), 0) hl2 ⟨rfl, rfl, rfl, trivial⟩ (fun W h => h.phi (fun W hφ => hφ)) (fun ⟨n198, s149, i150⟩ u hlp => ?_)
  obtain ⟨o2, hm, hnx2⟩ := lp_step hlp
  clear hlp
  replace hm : m_ref03_Make_s2 p0 s149 i150 = some o2 := hm
  unfold m_ref03_Make_s2 at hm
  refine c_flat [(0, .slice Ap0_0 p0.length cp0_0), (4, .string s149), (5, .int .i64 i150)] ⟨rfl, rfl, rfl, trivial⟩ (fun u => ?_)
  refine c_sta ⟨w0, M, H, R, φ⟩ (fun _ h => h) ?_
  refine c_seq ?_
  refine c_seq ?_
  refine c_region ?_
  refine g_v rfl r_move ?_
  refine g_v rfl r_move ?_
  refine g_v rfl (r_lenL Try.underlying44 rfl) ?_
  refine g_v rfl (r_lss rfl rfl) ?_
  refine g_nil ?_
  refine d_then ?_
  refine c_cond rfl (fun h199 => ?_) (fun h199 => ?_)
  ·
   replace hm := ite_t hm (of_decide_eq_true h199)
   refine c_skip ?_
   refine d_then ?_
   refine c_seq ?_
   refine c_block ?_
   refine c_seq ?_
   refine c_seq ?_
   refine c_region ?_
   refine g_v rfl r_move ?_
   refine g_v rfl r_move ?_
   replace hm := bnd hm
   obtain ⟨x200, hx200, hm⟩ := hm
   refine g_know _ (fun W hS => cl_at (p := (Sta.mk w0 M H R φ).ok) (sz := 1) (fun _ => rfl) (by decide) (ok_pre (H1 := []) (R1 := []) hS (fun W h => h)) fp0_0 hx200) ?_
   rintro ⟨ad201, hA203, f202⟩
   refine g_v rfl (r_ix Try.underlying44 Try.sizeOf9 rfl hA203 rfl hx200) ?_
   refine g_v rfl (r_ld rfl Try.isAgg9 (fun W hS => Cl.head (f202 W (ok_pre (H1 := []) (R1 := []) hS (fun W h => h))))) ?_
   refine g_v rfl (r_len Try.underlying9 rfl) ?_
   refine g_v rfl (r_lss rfl rfl) ?_
   refine g_v rfl r_move ?_
   refine g_if rfl rfl rfl rfl rfl (fun h204 => ?_) (fun h204 => ?_)
   ·
    replace hm := ite_f hm (of_decide_eq_false h204)
    refine g_v rfl r_move ?_
    refine g_do rfl rfl rfl rfl rfl h204 ?_
    refine g_v rfl r_move ?_
    refine g_do rfl rfl rfl rfl rfl h204 ?_
    replace hm := bnd hm
    obtain ⟨x205, hx205, hm⟩ := hm
    refine g_know _ (fun W hS => cl_at (p := (Sta.mk w0 M H R φ).ok) (sz := 1) (fun _ => rfl) (by decide) (ok_pre (H1 := []) (R1 := []) hS (fun W h => h)) fp0_0 hx205) ?_
    rintro ⟨ad206, hA208, f207⟩
    refine g_v rfl (r_ix Try.underlying44 Try.sizeOf9 rfl hA208 rfl hx205) ?_
    refine g_do rfl rfl rfl rfl rfl h204 ?_
    refine g_v rfl (r_ld rfl Try.isAgg9 (fun W hS => Cl.head (f207 W (ok_pre (H1 := []) (R1 := []) hS (fun W h => h))))) ?_
    refine g_do rfl rfl rfl rfl rfl h204 ?_
    refine g_v rfl (r_len Try.underlying9 rfl) ?_
    refine g_do rfl rfl rfl rfl rfl h204 ?_
    refine g_v rfl (r_gtr rfl rfl) ?_
    refine g_v rfl (r_pick0 rfl h204) ?_
    refine g_nil ?_
    refine d_then ?_
    refine c_flat [(0, .slice Ap0_0 p0.length cp0_0), (4, .string s149), (5, .int .i64 i150), (25, .bool (decide (63 < (x205.size : Int))))] ⟨rfl, rfl, rfl, rfl, trivial⟩ (fun u => ?_)
    refine c_sta ⟨w0, M, H, R, φ⟩ (fun _ h => h) ?_
    refine c_cond rfl (fun h209 => ?_) (fun h209 => ?_)
    ·
     replace hm := ite_t hm (of_decide_eq_true h209)
     refine c_seq ?_
     refine c_region ?_
     refine g_v rfl r_assign ?_
     refine g_v rfl r_assign ?_
     refine g_nil ?_
     refine d_then ?_
     refine c_ret ?_
     refine d_ret_then ?_
     refine d_ret_block ?_
     refine d_ret_then ?_
     refine d_ret_then ?_
     refine d_ret_block ?_
     refine d_ret_then ?_
     refine d_ret_then ?_
     replace hm := nx_out (C := (fun e => Sum.elim (fun e => m_ref03_Make_j1 e) (fun x => some x) e = some r)) hm hnx2 hr2
     replace hm : some ((⟨#[]⟩ : ByteArray), 10) = some r := hm
     replace hm := Option.some.inj hm
     subst hm
     refine d_retC () Try.results41 ?_ trivial (fun W h => ok_pre (H1 := []) (R1 := []) h (fun W hφ => hφ)) (.inr rfl)
     refine res_tmp ?_
     refine res_tmp ?_
     refine res_nil ?_
     exact rfl
    ·
     replace hm := ite_f hm (of_decide_eq_false h209)
     refine c_skip ?_
     refine d_then ?_
     refine c_seq ?_
     refine c_region ?_
     refine g_v rfl r_move ?_
     refine g_v rfl (r_len Try.underlying9 rfl) ?_
     refine g_v rfl (r_leq rfl rfl) ?_
     refine g_nil ?_
     refine d_then ?_
     refine c_cond rfl (fun h210 => ?_) (fun h210 => ?_)
     ·
      replace hm := ite_t hm (of_decide_eq_true h210)
      refine ga_start (n := 16) ⟨w0, M, H, R, φ⟩ [] #[false, false, false, false, false, false, false, false, false, false, false, false, false, false, false, false] (fun W h => h.phi (fun W hφ => hφ)) mixed rfl rfl ?_
      refine ga_v (i := 0) #[true, false, false, false, false, false, false, false, false, false, false, false, false, false, false, false] rfl (by kernel_rfl) (fun _ _ _ _ h => h) rfl (r_move) ?_
      refine ga_v (i := 1) #[true, true, false, false, false, false, false, false, false, false, false, false, false, false, false, false] rfl (by kernel_rfl) (fun _ _ _ _ h => h) rfl (r_move) ?_
      refine ga_v (i := 2) #[true, true, true, false, false, false, false, false, false, false, false, false, false, false, false, false] rfl (by kernel_rfl) (fun _ _ _ _ h => h) rfl (r_move) ?_
      replace hm := bnd hm
      obtain ⟨x233, hx233, hm⟩ := hm
      refine ga_know _ (fun W hS => cl_at (p := (Sta.mk w0 M H R φ).ok) (sz := 1) (fun _ => rfl) (by decide) (ok_pre (H1 := []) (R1 := []) hS (fun W h => h)) fp0_0 hx233) ?_
      rintro ⟨ad234, hA236, f235⟩
      refine ga_v (i := 3) #[true, true, true, true, false, false, false, false, false, false, false, false, false, false, false, false] rfl (by kernel_rfl) (fun _ _ _ _ h => h) rfl (r_ix Try.underlying44 Try.sizeOf9 rfl hA236 rfl hx233) ?_
      refine ga_v (i := 4) #[true, true, true, true, true, false, false, false, false, false, false, false, false, false, false, false] rfl (by kernel_rfl) (fun _ _ _ _ h => h) rfl (r_ld rfl Try.isAgg9 (fun W hS => Cl.head (f235 W (ok_pre (H1 := []) (R1 := []) hS (fun W h => h))))) ?_
      refine ga_v (i := 5) #[true, true, true, true, true, true, false, false, false, false, false, false, false, false, false, false] rfl (by kernel_rfl) (fun _ _ _ _ h => h) rfl (r_len Try.underlying9 rfl) ?_
      refine ga_v (i := 6) #[true, true, true, true, true, true, true, false, false, false, false, false, false, false, false, false] rfl (by kernel_rfl) (fun _ _ _ _ h => h) rfl (r_conv Try.underlying3 Try.underlying5 rfl rfl) ?_
      refine ga_v (i := 10) #[true, true, true, true, true, true, true, false, false, false, true, false, false, false, false, false] rfl (by kernel_rfl) (fun _ _ _ _ h => h) rfl (r_move) ?_
      refine ga_v (i := 11) #[true, true, true, true, true, true, true, false, false, false, true, true, false, false, false, false] rfl (by kernel_rfl) (fun _ _ _ _ h => h) rfl (r_move) ?_
      replace hm := bnd hm
      obtain ⟨x237, hx237, hm⟩ := hm
      refine ga_know _ (fun W hS => cl_at (p := (Sta.mk w0 M H R φ).ok) (sz := 1) (fun _ => rfl) (by decide) (ok_pre (H1 := []) (R1 := []) hS (fun W h => h)) fp0_0 hx237) ?_
      rintro ⟨ad238, hA240, f239⟩
      refine ga_v (i := 12) #[true, true, true, true, true, true, true, false, false, false, true, true, true, false, false, false] rfl (by kernel_rfl) (fun _ _ _ _ h => h) rfl (r_ix Try.underlying44 Try.sizeOf9 rfl hA240 rfl hx237) ?_
      refine ga_v (i := 13) #[true, true, true, true, true, true, true, false, false, false, true, true, true, true, false, false] rfl (by kernel_rfl) (fun _ _ _ _ h => h) rfl (r_ld rfl Try.isAgg9 (fun W hS => Cl.head (f239 W (ok_pre (H1 := []) (R1 := []) hS (fun W h => h))))) ?_
      refine ga_e (i := 7) #[true, true, true, true, true, true, true, true, false, false, true, true, true, true, false, false] rfl (by kernel_rfl) (by decide) rfl  (e_lit (tag := 100360) (l := [IntKind.u8.wrap (x233.size : Int)]) (enc := (fun x : Int => [Value.int .u8 x])) (sz := 1) rfl Try.underlying58 (lit5_1 _) rfl rfl (fun _ => rfl)) (fun g241 W _ h => (h.dropR (t := 100360) rfl).phi (fun W hφ => hφ)) (fun g241 _ => ?_)
      refine ga_r (i := 8) #[true, true, true, true, true, true, true, true, true, false, true, true, true, true, false, false] rfl (by kernel_rfl) (by decide) rfl (r_textE Try.underlying58 Try.underlying5 Try.underlying9 rfl (fun W hS => rowCl (tag := 100360) rfl W hS)) ?_
      replace hm := bnd hm
      obtain ⟨s242, hs242, hm⟩ := hm
      refine ga_r (i := 9) #[true, true, true, true, true, true, true, true, true, true, true, true, true, true, false, false] rfl (by kernel_rfl) (by decide) rfl (r_addT rfl rfl hs242) ?_
      replace hm := bnd hm
      obtain ⟨s243, hs243, hm⟩ := hm
      refine ga_r (i := 14) #[true, true, true, true, true, true, true, true, true, true, true, true, true, true, true, false] rfl (by kernel_rfl) (by decide) rfl (r_addT rfl rfl hs243) ?_
      refine ga_r (i := 15) #[true, true, true, true, true, true, true, true, true, true, true, true, true, true, true, true] rfl (by kernel_rfl) (by decide) rfl (r_assign) ?_
      refine ga_done (by kernel_rfl) ?_
      refine d_normal_block ?_
      refine d_then ?_
      refine c_flat [(0, .slice Ap0_0 p0.length cp0_0), (4, .string s243), (5, .int .i64 i150)] ⟨rfl, rfl, rfl, trivial⟩ (fun u => ?_)
      refine c_sta ⟨w0, M, H, (100360, ⟨.slice (some ⟨g241, 0, none⟩) [IntKind.u8.wrap (x233.size : Int)].length 1, 5, 1, [IntKind.u8.wrap (x233.size : Int)].length, [IntKind.u8.wrap (x233.size : Int)].flatMap (fun x : Int => [Value.int .u8 x])⟩) :: R, φ⟩ (fun _ h => h) ?_
      refine c_region ?_
      refine g_v rfl r_move ?_
      refine g_v rfl (r_add rfl rfl rfl) ?_
      refine g_v rfl r_assign ?_
      refine g_nil ?_
      obtain ⟨n244, hn244, hlp⟩ := nx_inl hm hnx2
      exact d_round (n244, s243, w64 (i150 + 1)) hlp hn244 ⟨rfl, rfl, rfl, trivial⟩ (fun W h => (h.dropR (t := 100360) rfl).phi (fun W hφ => hφ))
     ·
      replace hm := ite_f hm (of_decide_eq_false h210)
      refine c_skip ?_
      refine d_normal_block ?_
      refine d_then ?_
      refine c_region ?_
      refine g_v rfl r_move ?_
      refine g_v rfl (r_add rfl rfl rfl) ?_
      refine g_v rfl r_assign ?_
      refine g_nil ?_
      obtain ⟨n245, hn245, hlp⟩ := nx_inl hm hnx2
      exact d_round (n245, s149, w64 (i150 + 1)) hlp hn245 ⟨rfl, rfl, rfl, trivial⟩ (fun W h => h.phi (fun W hφ => hφ))
   ·
    replace hm := ite_t hm (of_decide_eq_true h204)
    refine g_no rfl rfl rfl rfl rfl h204 ?_
    refine g_no rfl rfl rfl rfl rfl h204 ?_
    refine g_no rfl rfl rfl rfl rfl h204 ?_
    refine g_no rfl rfl rfl rfl rfl h204 ?_
    refine g_no rfl rfl rfl rfl rfl h204 ?_
    refine g_v rfl (r_pick1 rfl h204) ?_
    refine g_nil ?_
    refine d_then ?_
    refine c_flat [(0, .slice Ap0_0 p0.length cp0_0), (4, .string s149), (5, .int .i64 i150), (25, .bool true)] ⟨rfl, rfl, rfl, rfl, trivial⟩ (fun u => ?_)
    refine c_sta ⟨w0, M, H, R, φ⟩ (fun _ h => h) ?_
    refine c_cond1 rfl rfl ?_
    refine c_seq ?_
    refine c_region ?_
    refine g_v rfl r_assign ?_
    refine g_v rfl r_assign ?_
    refine g_nil ?_
    refine d_then ?_
    refine c_ret ?_
    refine d_ret_then ?_
    refine d_ret_block ?_
    refine d_ret_then ?_
    refine d_ret_then ?_
    refine d_ret_block ?_
    refine d_ret_then ?_
    refine d_ret_then ?_
    replace hm := nx_out (C := (fun e => Sum.elim (fun e => m_ref03_Make_j1 e) (fun x => some x) e = some r)) hm hnx2 hr2
    replace hm : some ((⟨#[]⟩ : ByteArray), 10) = some r := hm
    replace hm := Option.some.inj hm
    subst hm
    refine d_retC () Try.results41 ?_ trivial (fun W h => ok_pre (H1 := []) (R1 := []) h (fun W hφ => hφ)) (.inr rfl)
    refine res_tmp ?_
    refine res_tmp ?_
    refine res_nil ?_
    exact rfl
  ·
   replace hm := ite_f hm (of_decide_eq_false h199)
   refine c_exit ?_
   refine d_exit_then ?_
   refine d_exit_then ?_
   refine d_exit_block ?_
   replace hm := nx_out (C := (fun e => Sum.elim (fun e => m_ref03_Make_j1 e) (fun x => some x) e = some r)) hm hnx2 hr2
   exact d_round s149 hm Nat.zero_lt_one ⟨rfl, trivial⟩ (fun W h => h.phi (fun W hφ => hφ))
 ·
  unfold m_ref03_Make_j1 at hm
  refine d_flat [(4, .string s98)] ⟨rfl, trivial⟩ (fun u => ?_)
  refine d_sta ⟨w0, M, H, R, φ⟩ (fun _ h => h) ?_
  refine d_then ?_
  refine c_seq ?_
  refine c_seq ?_
  refine c_region ?_
  refine g_v rfl r_move ?_
  refine g_v rfl (r_len Try.underlying9 rfl) ?_
  refine g_v rfl (r_gtr rfl rfl) ?_
  refine g_nil ?_
  refine d_then ?_
  refine c_cond rfl (fun h99 => ?_) (fun h99 => ?_)
  ·
   replace hm := ite_t hm (of_decide_eq_true h99)
   refine c_seq ?_
   refine c_region ?_
   refine g_v rfl r_assign ?_
   refine g_v rfl r_assign ?_
   refine g_nil ?_
   refine d_then ?_
   refine c_ret ?_
   refine d_ret_then ?_
   replace hm := Option.some.inj hm
   subst hm
   refine d_retC () Try.results41 ?_ trivial (fun W h => ok_pre (H1 := []) (R1 := []) h (fun W hφ => hφ)) (.inr rfl)
   refine res_tmp ?_
   refine res_tmp ?_
   refine res_nil ?_
   exact rfl
  ·
   replace hm := ite_f hm (of_decide_eq_false h99)
   refine c_skip ?_
   refine d_then ?_
   refine c_seq ?_
   refine c_region ?_
   refine g_v rfl r_move ?_
   refine g_e rfl (e_lit (tag := 100480) (l := [0]) (enc := (fun x : Int => [Value.int .u8 x])) (sz := 1) rfl Try.underlying58 (lit5_1 _) rfl rfl (fun _ => rfl)) (fun g100 _ => ?_)
   refine g_v rfl (r_textE Try.underlying58 Try.underlying5 Try.underlying9 rfl (fun W hS => rowCl (tag := 100480) rfl W hS)) ?_
   replace hm := bnd hm
   obtain ⟨s101, hs101, hm⟩ := hm
   refine g_v rfl (r_addT rfl rfl hs101) ?_
   refine g_v rfl r_assign ?_
   refine g_v rfl r_assign ?_
   refine g_nil ?_
   refine d_then ?_
   refine c_flat [(2, .string s101), (3, .int .i64 0)] ⟨rfl, rfl, trivial⟩ (fun u => ?_)
   refine c_sta ⟨w0, M, H, (100480, ⟨.slice (some ⟨g100, 0, none⟩) [0].length 1, 5, 1, [0].length, [0].flatMap (fun x : Int => [Value.int .u8 x])⟩) :: R, φ⟩ (fun _ h => h) ?_
   refine c_ret ?_
   replace hm := Option.some.inj hm
   subst hm
   refine d_retC () Try.results41 ?_ trivial (fun W h => ok_pre (H1 := []) (R1 := [_]) h (fun W hφ => hφ)) (.inr rfl)
   refine res_tmp ?_
   refine res_tmp ?_
   refine res_nil ?_
   exact rfl

noncomputable def m_ref03_row_j1 (p0 : ByteArray) (l82 : List ByteArray) (i85 : Int) : Option ((List ByteArray) × Bool) :=
  some (l82, decide (i85 = w64 ((p0.size : Int) - 1)))
noncomputable def m_ref03_row_s2 (p0 : ByteArray) (l101 : List ByteArray) (i104 : Int) : Option (((List ByteArray) × Int) ⊕ (((List ByteArray) × Int) ⊕ ((List ByteArray) × Bool))) :=
  if i104 < (p0.size : Int) then
    (sat_ p0 i104).bind fun b122 =>
    if b122 ≠ 0 then
      (sat_ p0 i104).bind fun b124 =>
      if 63 < w64 b124 then
        some (.inr (.inr (([] : List ByteArray), false)))
      else
        if (p0.size : Int) < w64 ((w64 (i104 + 1)) + (w64 b124)) then
          some (.inr (.inr (([] : List ByteArray), false)))
        else
          (scutMid p0 (w64 (i104 + 1)) (w64 ((w64 (i104 + 1)) + (w64 b124)))).bind fun s127 =>
          (app 16 l101 [s127]).bind fun l129 =>
          some (.inl (l129, w64 ((w64 (i104 + 1)) + (w64 b124))))
    else
      some (.inr (.inl (l101, i104)))
  else
    some (.inr (.inl (l101, i104)))
noncomputable def m_ref03_row (p0 : ByteArray) : Option ((List ByteArray) × Bool) :=
  (loop (fun s => m_ref03_row_s2 p0 s.1 s.2) (([] : List ByteArray), 0)).bind fun e => Sum.elim (fun e => m_ref03_row_j1 p0 e.1 e.2) (fun x => some x) e
theorem c_ref03_row {w0 : World} {M : Nat → Prop} {H : List (Nat × Nat × Obj)} {R : List (Nat × Row)} {φ : World → Prop} (p0 : ByteArray) (r : (List ByteArray) × Bool) (hm : m_ref03_row p0 = some r) :
    Cn Try.prog 67 #[.string p0] ⟨w0, M, H, R, φ⟩ (fun x : Option Addr × Nat => .tuple #[.slice x.1 r.1.length x.2, .bool r.2]) (fun x => r.1.length ≤ x.2) (fun x => ⟨w0, M, H, (2000, ⟨.slice x.1 r.1.length x.2, 9, 1, r.1.length, r.1.flatMap (fun x : ByteArray => [Value.string x])⟩) :: R, φ⟩) := by
 unfold m_ref03_row at hm
 refine cn_intro (fn := Try.f67) (N := 53) Try.func67 rfl Try.ntmps67 rfl ?_
 refine c_seq ?_
 refine c_region ?_
 refine g_v rfl r_assign ?_
 refine g_v rfl r_assign ?_
 refine g_nil ?_
 refine d_then ?_
 refine c_seq ?_
 refine c_region ?_
 refine g_v rfl r_assign ?_
 refine g_nil ?_
 refine d_then ?_
 refine c_seq ?_
 refine c_region ?_
 refine g_v rfl r_assign ?_
 refine g_nil ?_
 refine d_then ?_
 refine c_seq ?_
 refine c_sta _ (fun W h => nilR h 19 9 1) ?_
 refine c_cut (ι := (List ByteArray) × Int × Option Addr × Nat) [0, 4, 5] (fun ⟨l82, i85, A83, c84⟩ => [(4, .slice A83 l82.length c84), (5, .int .i64 i85)]) (fun ⟨l82, i85, A83, c84⟩ => ⟨w0, M, H, (19, ⟨.slice A83 l82.length c84, 9, 1, l82.length, l82.flatMap (fun x : ByteArray => [Value.string x])⟩) :: R, φ⟩) (fun ⟨l82, i85, A83, c84⟩ => m_ref03_row_j1 p0 l82 i85 = some r ∧ l82.length ≤ c84) ?_ (fun ⟨l82, i85, A83, c84⟩ u ⟨hm, hc84⟩ => ?_)
 ·
  refine c_block ?_
  replace hm := bnd hm
  obtain ⟨out2, hl2, hr2⟩ := hm
  obtain ⟨n120', hl2⟩ := loop_lp hl2
  refine c_loopU (ι := Nat × (List ByteArray) × Int × Option Addr × Nat) [0, 4, 5] (fun ⟨n120, l101, i104, A102, c103⟩ => [(4, .slice A102 l101.length c103), (5, .int .i64 i104)]) (fun ⟨n120, l101, i104, A102, c103⟩ => ⟨w0, M, H, (19, ⟨.slice A102 l101.length c103, 9, 1, l101.length, l101.flatMap (fun x : ByteArray => [Value.string x])⟩) :: R, φ⟩) (fun ⟨n120, l101, i104, A102, c103⟩ => Lp (fun s => m_ref03_row_s2 p0 s.1 s.2) n120 (l101, i104) out2 ∧ l101.length ≤ c103) (fun ⟨n120, l101, i104, A102, c103⟩ => n120) (n120', ([] : List ByteArray), 0, none, 0) ⟨hl2, (Nat.le_refl 0)⟩ ⟨rfl, rfl, rfl, trivial⟩ (fun W h => h.phi (fun W hφ => hφ)) (fun ⟨n120, l101, i104, A102, c103⟩ u ⟨hlp, hc103⟩ => ?_)
  obtain ⟨o2, hm, hnx2⟩ := lp_step hlp
  clear hlp
  replace hm : m_ref03_row_s2 p0 l101 i104 = some o2 := hm
  unfold m_ref03_row_s2 at hm
  refine c_flat [(0, .string p0), (4, .slice A102 l101.length c103), (5, .int .i64 i104)] ⟨rfl, rfl, rfl, trivial⟩ (fun u => ?_)
  refine c_sta ⟨w0, M, H, (19, ⟨.slice A102 l101.length c103, 9, 1, l101.length, l101.flatMap (fun x : ByteArray => [Value.string x])⟩) :: R, φ⟩ (fun _ h => h) ?_
  refine c_seq ?_
  refine c_seq ?_
  refine c_region ?_
  refine g_v rfl r_move ?_
  refine g_v rfl r_move ?_
  refine g_v rfl (r_len Try.underlying9 rfl) ?_
  refine g_v rfl (r_lss rfl rfl) ?_
  refine g_v rfl r_move ?_
  refine g_if rfl rfl rfl rfl rfl (fun h121 => ?_) (fun h121 => ?_)
  ·
   replace hm := ite_t hm (of_decide_eq_true h121)
   refine g_v rfl r_move ?_
   refine g_do rfl rfl rfl rfl rfl h121 ?_
   refine g_v rfl r_move ?_
   refine g_do rfl rfl rfl rfl rfl h121 ?_
   replace hm := bnd hm
   obtain ⟨b122, hb122, hm⟩ := hm
   refine g_v rfl (r_sat Try.underlying9 rfl rfl hb122) ?_
   refine g_do rfl rfl rfl rfl rfl h121 ?_
   refine g_v rfl (r_neq rfl rfl) ?_
   refine g_v rfl (r_pick1 rfl h121) ?_
   refine g_nil ?_
   refine d_then ?_
   refine c_flat [(0, .string p0), (4, .slice A102 l101.length c103), (5, .int .i64 i104), (16, .bool (decide (b122 ≠ 0)))] ⟨rfl, rfl, rfl, rfl, trivial⟩ (fun u => ?_)
   refine c_sta ⟨w0, M, H, (19, ⟨.slice A102 l101.length c103, 9, 1, l101.length, l101.flatMap (fun x : ByteArray => [Value.string x])⟩) :: R, φ⟩ (fun _ h => h) ?_
   refine c_cond rfl (fun h123 => ?_) (fun h123 => ?_)
   ·
    replace hm := ite_t hm (of_decide_eq_true h123)
    refine c_skip ?_
    refine d_then ?_
    refine c_block ?_
    refine c_seq ?_
    refine c_region ?_
    refine g_v rfl r_move ?_
    refine g_v rfl r_move ?_
    replace hm := bnd hm
    obtain ⟨b124, hb124, hm⟩ := hm
    refine g_v rfl (r_sat Try.underlying9 rfl rfl hb124) ?_
    refine g_v rfl (r_conv Try.underlying5 Try.underlying3 rfl rfl) ?_
    refine g_v rfl r_assign ?_
    refine g_nil ?_
    refine d_then ?_
    refine c_seq ?_
    refine c_seq ?_
    refine c_region ?_
    refine g_v rfl r_move ?_
    refine g_v rfl (r_gtr rfl rfl) ?_
    refine g_v rfl r_move ?_
    refine g_if rfl rfl rfl rfl rfl (fun h125 => ?_) (fun h125 => ?_)
    ·
     replace hm := ite_f hm (of_decide_eq_false h125)
     refine g_v rfl r_move ?_
     refine g_do rfl rfl rfl rfl rfl h125 ?_
     refine g_v rfl (r_add rfl rfl rfl) ?_
     refine g_do rfl rfl rfl rfl rfl h125 ?_
     refine g_v rfl r_move ?_
     refine g_do rfl rfl rfl rfl rfl h125 ?_
     refine g_v rfl (r_add rfl rfl rfl) ?_
     refine g_do rfl rfl rfl rfl rfl h125 ?_
     refine g_v rfl r_move ?_
     refine g_do rfl rfl rfl rfl rfl h125 ?_
     refine g_v rfl (r_len Try.underlying9 rfl) ?_
     refine g_do rfl rfl rfl rfl rfl h125 ?_
     refine g_v rfl (r_gtr rfl rfl) ?_
     refine g_v rfl (r_pick0 rfl h125) ?_
     refine g_nil ?_
     refine d_then ?_
     refine c_flat [(0, .string p0), (4, .slice A102 l101.length c103), (5, .int .i64 i104), (6, .int .i64 (w64 b124)), (31, .bool (decide ((p0.size : Int) < w64 ((w64 (i104 + 1)) + (w64 b124)))))] ⟨rfl, rfl, rfl, rfl, rfl, trivial⟩ (fun u => ?_)
     refine c_sta ⟨w0, M, H, (19, ⟨.slice A102 l101.length c103, 9, 1, l101.length, l101.flatMap (fun x : ByteArray => [Value.string x])⟩) :: R, φ⟩ (fun _ h => h) ?_
     refine c_cond rfl (fun h126 => ?_) (fun h126 => ?_)
     ·
      replace hm := ite_t hm (of_decide_eq_true h126)
      refine c_seq ?_
      refine c_region ?_
      refine g_v rfl r_assign ?_
      refine g_v rfl r_assign ?_
      refine g_nil ?_
      refine d_then ?_
      refine c_ret ?_
      refine d_ret_then ?_
      refine d_ret_block ?_
      refine d_ret_then ?_
      refine d_ret_block ?_
      refine d_ret_then ?_
      refine d_ret_then ?_
      replace hm := nx_out (C := (fun e => Sum.elim (fun e => m_ref03_row_j1 p0 e.1 e.2) (fun x => some x) e = some r)) hm hnx2 hr2
      replace hm : some (([] : List ByteArray), false) = some r := hm
      replace hm := Option.some.inj hm
      subst hm
      refine d_sta _ (fun W h => nilR h 28 9 1) ?_
      refine d_sta _ (fun W h => ok_frontR (t := 28) (t' := 2000) h rfl) ?_
      refine d_retC (none, 0) Try.results67 ?_ (Nat.le_refl 0) (fun W h => (h.dropR (t := 19) rfl).phi (fun W hφ => hφ)) (.inr rfl)
      refine res_tmp ?_
      refine res_tmp ?_
      refine res_nil ?_
      exact rfl
     ·
      replace hm := ite_f hm (of_decide_eq_false h126)
      refine c_skip ?_
      refine d_then ?_
      refine c_seq ?_
      refine c_region ?_
      refine g_v rfl r_move ?_
      refine g_v rfl r_move ?_
      refine g_v rfl r_move ?_
      refine g_v rfl (r_add rfl rfl rfl) ?_
      refine g_v rfl r_move ?_
      refine g_v rfl (r_add rfl rfl rfl) ?_
      refine g_v rfl r_move ?_
      refine g_v rfl (r_add rfl rfl rfl) ?_
      replace hm := bnd hm
      obtain ⟨s127, hs127, hm⟩ := hm
      refine g_v rfl (r_scutMid Try.underlying9 rfl rfl rfl hs127) ?_
      refine g_e rfl (e_lit (tag := 100410) (l := [s127]) (enc := (fun x : ByteArray => [Value.string x])) (sz := 1) rfl Try.underlying44 (lit9_3 _) rfl rfl (fun _ => rfl)) (fun g128 _ => ?_)
      replace hm := bnd hm
      obtain ⟨l129, hl129, hm⟩ := hm
      refine g_e rfl (e_appR (enc := (fun x : ByteArray => [Value.string x])) (l := l101) (l1 := [s127]) (l2 := l129) (tag := 19) Try.underlying44 inf9_4 rfl (by decide) (by decide) (fun _ => rfl) (fun _ => rfl) rfl hc103 rfl rfl (fun W hS => rowCl (tag := 100410) rfl W hS) hl129) (fun ⟨A130, c131⟩ hc131 => ?_)
      refine g_v rfl r_assign ?_
      refine g_nil ?_
      refine d_then ?_
      refine c_flat [(0, .string p0), (4, .slice A130 l129.length c131), (5, .int .i64 i104), (6, .int .i64 (w64 b124))] ⟨rfl, rfl, rfl, rfl, trivial⟩ (fun u => ?_)
      refine c_sta ⟨w0, M, H, (100410, ⟨.slice (some ⟨g128, 0, none⟩) [s127].length 1, 9, 1, [s127].length, [s127].flatMap (fun x : ByteArray => [Value.string x])⟩) :: (19, ⟨.slice A130 l129.length c131, 9, 1, l129.length, l129.flatMap (fun x : ByteArray => [Value.string x])⟩) :: R, φ⟩ (fun _ h => h) ?_
      refine c_region ?_
      refine g_v rfl r_move ?_
      refine g_v rfl (r_add rfl rfl rfl) ?_
      refine g_v rfl r_move ?_
      refine g_v rfl (r_add rfl rfl rfl) ?_
      refine g_v rfl r_assign ?_
      refine g_nil ?_
      refine d_normal_block ?_
      obtain ⟨n132, hn132, hlp⟩ := nx_inl hm hnx2
      exact d_round (n132, l129, w64 ((w64 (i104 + 1)) + (w64 b124)), A130, c131) ⟨hlp, hc131⟩ hn132 ⟨rfl, rfl, rfl, trivial⟩ (fun W h => (h.dropR (t := 100410) rfl).phi (fun W hφ => hφ))
    ·
     replace hm := ite_t hm (of_decide_eq_true h125)
     refine g_no rfl rfl rfl rfl rfl h125 ?_
     refine g_no rfl rfl rfl rfl rfl h125 ?_
     refine g_no rfl rfl rfl rfl rfl h125 ?_
     refine g_no rfl rfl rfl rfl rfl h125 ?_
     refine g_no rfl rfl rfl rfl rfl h125 ?_
     refine g_no rfl rfl rfl rfl rfl h125 ?_
     refine g_v rfl (r_pick1 rfl h125) ?_
     refine g_nil ?_
     refine d_then ?_
     refine c_flat [(0, .string p0), (4, .slice A102 l101.length c103), (5, .int .i64 i104), (6, .int .i64 (w64 b124)), (31, .bool true)] ⟨rfl, rfl, rfl, rfl, rfl, trivial⟩ (fun u => ?_)
     refine c_sta ⟨w0, M, H, (19, ⟨.slice A102 l101.length c103, 9, 1, l101.length, l101.flatMap (fun x : ByteArray => [Value.string x])⟩) :: R, φ⟩ (fun _ h => h) ?_
     refine c_cond1 rfl rfl ?_
     refine c_seq ?_
     refine c_region ?_
     refine g_v rfl r_assign ?_
     refine g_v rfl r_assign ?_
     refine g_nil ?_
     refine d_then ?_
     refine c_ret ?_
     refine d_ret_then ?_
     refine d_ret_block ?_
     refine d_ret_then ?_
     refine d_ret_block ?_
     refine d_ret_then ?_
     refine d_ret_then ?_
     replace hm := nx_out (C := (fun e => Sum.elim (fun e => m_ref03_row_j1 p0 e.1 e.2) (fun x => some x) e = some r)) hm hnx2 hr2
     replace hm : some (([] : List ByteArray), false) = some r := hm
     replace hm := Option.some.inj hm
     subst hm
     refine d_sta _ (fun W h => nilR h 29 9 1) ?_
     refine d_sta _ (fun W h => ok_frontR (t := 29) (t' := 2000) h rfl) ?_
     refine d_retC (none, 0) Try.results67 ?_ (Nat.le_refl 0) (fun W h => (h.dropR (t := 19) rfl).phi (fun W hφ => hφ)) (.inr rfl)
     refine res_tmp ?_
     refine res_tmp ?_
     refine res_nil ?_
     exact rfl
   ·
    replace hm := ite_f hm (of_decide_eq_false h123)
    refine c_exit ?_
    refine d_exit_then ?_
    refine d_exit_then ?_
    refine d_exit_block ?_
    replace hm := nx_out (C := (fun e => Sum.elim (fun e => m_ref03_row_j1 p0 e.1 e.2) (fun x => some x) e = some r)) hm hnx2 hr2
    exact d_round (l101, i104, A102, c103) ⟨hm, hc103⟩ Nat.zero_lt_one ⟨rfl, rfl, rfl, trivial⟩ (fun W h => h.phi (fun W hφ => hφ))
  ·
   replace hm := ite_f hm (of_decide_eq_false h121)
   refine g_no rfl rfl rfl rfl rfl h121 ?_
   refine g_no rfl rfl rfl rfl rfl h121 ?_
   refine g_no rfl rfl rfl rfl rfl h121 ?_
   refine g_v rfl (r_pick0 rfl h121) ?_
   refine g_nil ?_
   refine d_then ?_
   refine c_cond0 rfl rfl ?_
   refine c_exit ?_
   refine d_exit_then ?_
   refine d_exit_then ?_
   refine d_exit_block ?_
   replace hm := nx_out (C := (fun e => Sum.elim (fun e => m_ref03_row_j1 p0 e.1 e.2) (fun x => some x) e = some r)) hm hnx2 hr2
   exact d_round (l101, i104, A102, c103) ⟨hm, hc103⟩ Nat.zero_lt_one ⟨rfl, rfl, rfl, trivial⟩ (fun W h => h.phi (fun W hφ => hφ))
 ·
  unfold m_ref03_row_j1 at hm
  refine d_flat [(0, .string p0), (4, .slice A83 l82.length c84), (5, .int .i64 i85)] ⟨rfl, rfl, rfl, trivial⟩ (fun u => ?_)
  refine d_sta ⟨w0, M, H, (19, ⟨.slice A83 l82.length c84, 9, 1, l82.length, l82.flatMap (fun x : ByteArray => [Value.string x])⟩) :: R, φ⟩ (fun _ h => h) ?_
  refine d_then ?_
  refine c_seq ?_
  refine c_region ?_
  refine g_v rfl r_move ?_
  refine g_v rfl r_move ?_
  refine g_v rfl r_move ?_
  refine g_v rfl (r_len Try.underlying9 rfl) ?_
  refine g_v rfl (r_sub rfl rfl rfl) ?_
  refine g_v rfl (r_eql rfl rfl) ?_
  refine g_v rfl r_assign ?_
  refine g_v rfl r_assign ?_
  refine g_nil ?_
  refine d_then ?_
  refine c_ret ?_
  replace hm := Option.some.inj hm
  subst hm
  refine d_sta _ (fun W h => ok_frontR (t := 19) (t' := 2000) h rfl) ?_
  refine d_retC (A83, c84) Try.results67 ?_ hc84 (fun W h => h.phi (fun W hφ => hφ)) (.inr rfl)
  refine res_tmp ?_
  refine res_tmp ?_
  refine res_nil ?_
  exact rfl

noncomputable def m_ref03_Check (p0 : ByteArray) : Option Int :=
  (m_ref03_row p0).bind fun (z7 : (List ByteArray) × Bool) =>
  if z7.2 = true then
    if 255 < (p0.size : Int) then
      some 11
    else
      some 0
  else
    some 10
theorem c_ref03_Check {w0 : World} {M : Nat → Prop} {H : List (Nat × Nat × Obj)} {R : List (Nat × Row)} {φ : World → Prop} (p0 : ByteArray) (r : Int) (hm : m_ref03_Check p0 = some r) :
    Cn Try.prog 45 #[.string p0] ⟨w0, M, H, R, φ⟩ (fun x : Unit => .int .i64 r) (fun x => True) (fun x => ⟨w0, M, H, R, φ⟩) := by
 unfold m_ref03_Check at hm
 refine cn_intro (fn := Try.f45) (N := 15) Try.func45 rfl Try.ntmps45 rfl ?_
 refine c_seq ?_
 refine c_region ?_
 refine g_v rfl r_assign ?_
 refine g_nil ?_
 refine d_then ?_
 refine c_seq ?_
 refine c_region ?_
 refine g_v rfl r_move ?_
 replace hm := bnd hm
 obtain ⟨⟨x1, x2⟩, hx3, hm⟩ := hm
 refine g_cn ⟨w0, M, _, _, φ⟩ (fun _ h => h) Try.call67 rfl rfl (c_ref03_row p0 _ hx3) (fun ⟨A4, c5⟩ hc5 => ?_)
 refine g_sta _ (fun W h => (ok_frontR (t := 2000) (t' := 100070) h rfl)) ?_
 refine g_v rfl r_move ?_
 refine g_v rfl (r_extract rfl rfl) ?_
 refine g_v rfl (r_extract rfl rfl) ?_
 refine g_v rfl r_assign ?_
 refine g_v rfl r_assign ?_
 refine g_nil ?_
 refine d_then ?_
 refine c_seq ?_
 refine c_seq ?_
 refine c_region ?_
 refine g_v rfl r_move ?_
 refine g_v rfl (r_not rfl) ?_
 refine g_nil ?_
 refine d_then ?_
 refine c_flat [(0, .string p0), (11, .bool (!x2))] ⟨rfl, rfl, trivial⟩ (fun u => ?_)
 refine c_sta ⟨w0, M, H, (100070, ⟨.slice A4 x1.length c5, 9, 1, x1.length, x1.flatMap (fun x : ByteArray => [Value.string x])⟩) :: R, φ⟩ (fun _ h => h) ?_
 refine c_cond rfl (fun h8 => ?_) (fun h8 => ?_)
 ·
  have h8' : x2 = false := by revert h8; cases x2 <;> simp
  replace hm := ite_f hm (bool_nt h8')
  refine c_seq ?_
  refine c_region ?_
  refine g_v rfl r_assign ?_
  refine g_nil ?_
  refine d_then ?_
  refine c_ret ?_
  refine d_ret_then ?_
  replace hm := Option.some.inj hm
  subst hm
  refine d_retC () Try.results45 ?_ trivial (fun W h => ok_pre (H1 := []) (R1 := [_]) h (fun W hφ => hφ)) (.inr rfl)
  refine res_tmp ?_
  refine res_nil ?_
  exact rfl
 ·
  have h8' : x2 = true := by revert h8; cases x2 <;> simp
  replace hm := ite_t hm h8'
  refine c_skip ?_
  refine d_then ?_
  refine c_seq ?_
  refine c_seq ?_
  refine c_region ?_
  refine g_v rfl r_move ?_
  refine g_v rfl (r_len Try.underlying9 rfl) ?_
  refine g_v rfl (r_gtr rfl rfl) ?_
  refine g_nil ?_
  refine d_then ?_
  refine c_cond rfl (fun h9 => ?_) (fun h9 => ?_)
  ·
   replace hm := ite_t hm (of_decide_eq_true h9)
   refine c_seq ?_
   refine c_region ?_
   refine g_v rfl r_assign ?_
   refine g_nil ?_
   refine d_then ?_
   refine c_ret ?_
   refine d_ret_then ?_
   replace hm := Option.some.inj hm
   subst hm
   refine d_retC () Try.results45 ?_ trivial (fun W h => ok_pre (H1 := []) (R1 := [_]) h (fun W hφ => hφ)) (.inr rfl)
   refine res_tmp ?_
   refine res_nil ?_
   exact rfl
  ·
   replace hm := ite_f hm (of_decide_eq_false h9)
   refine c_skip ?_
   refine d_then ?_
   refine c_seq ?_
   refine c_region ?_
   refine g_v rfl r_assign ?_
   refine g_nil ?_
   refine d_then ?_
   refine c_ret ?_
   replace hm := Option.some.inj hm
   subst hm
   refine d_retC () Try.results45 ?_ trivial (fun W h => ok_pre (H1 := []) (R1 := [_]) h (fun W hφ => hφ)) (.inr rfl)
   refine res_tmp ?_
   refine res_nil ?_
   exact rfl

noncomputable def m_ref03_Labels (p0 : ByteArray) : Option ((List ByteArray) × Int) :=
  (m_ref03_Check p0).bind fun x1 =>
  if x1 ≠ 0 then
    some (([] : List ByteArray), x1)
  else
    (m_ref03_row p0).bind fun (z10 : (List ByteArray) × Bool) =>
    some (z10.1, 0)
theorem c_ref03_Labels {w0 : World} {M : Nat → Prop} {H : List (Nat × Nat × Obj)} {R : List (Nat × Row)} {φ : World → Prop} (p0 : ByteArray) (r : (List ByteArray) × Int) (hm : m_ref03_Labels p0 = some r) :
    Cn Try.prog 43 #[.string p0] ⟨w0, M, H, R, φ⟩ (fun x : Option Addr × Nat => .tuple #[.slice x.1 r.1.length x.2, .int .i64 r.2]) (fun x => r.1.length ≤ x.2) (fun x => ⟨w0, M, H, (2000, ⟨.slice x.1 r.1.length x.2, 9, 1, r.1.length, r.1.flatMap (fun x : ByteArray => [Value.string x])⟩) :: R, φ⟩) := by
 unfold m_ref03_Labels at hm
 refine cn_intro (fn := Try.f43) (N := 18) Try.func43 rfl Try.ntmps43 rfl ?_
 refine c_seq ?_
 refine c_region ?_
 refine g_v rfl r_assign ?_
 refine g_v rfl r_assign ?_
 refine g_nil ?_
 refine d_then ?_
 refine c_seq ?_
 refine c_region ?_
 refine g_v rfl r_move ?_
 replace hm := bnd hm
 obtain ⟨x1, hx2, hm⟩ := hm
 refine g_cn ⟨w0, M, _, _, φ⟩ (fun _ h => h) Try.call45 rfl rfl (c_ref03_Check p0 _ hx2) (fun _ _ => ?_)
 refine g_v rfl r_assign ?_
 refine g_nil ?_
 refine d_then ?_
 refine c_seq ?_
 refine c_seq ?_
 refine c_region ?_
 refine g_v rfl r_move ?_
 refine g_v rfl (r_neq rfl rfl) ?_
 refine g_nil ?_
 refine d_then ?_
 refine c_cond rfl (fun h3 => ?_) (fun h3 => ?_)
 ·
  replace hm := ite_t hm (of_decide_eq_true h3)
  refine c_seq ?_
  refine c_region ?_
  refine g_v rfl r_move ?_
  refine g_v rfl r_assign ?_
  refine g_v rfl r_assign ?_
  refine g_nil ?_
  refine d_then ?_
  refine c_flat [(2, .slice none 0 0), (3, .int .i64 x1)] ⟨rfl, rfl, trivial⟩ (fun u => ?_)
  refine c_sta ⟨w0, M, H, R, φ⟩ (fun _ h => h) ?_
  refine c_ret ?_
  refine d_ret_then ?_
  replace hm := Option.some.inj hm
  subst hm
  refine d_sta _ (fun W h => nilR h 11 9 1) ?_
  refine d_sta _ (fun W h => ok_frontR (t := 11) (t' := 2000) h rfl) ?_
  refine d_retC (none, 0) Try.results43 ?_ (Nat.le_refl 0) (fun W h => h.phi (fun W hφ => hφ)) (.inr rfl)
  refine res_tmp ?_
  refine res_tmp ?_
  refine res_nil ?_
  exact rfl
 ·
  replace hm := ite_f hm (of_decide_eq_false h3)
  refine c_skip ?_
  refine d_then ?_
  refine c_seq ?_
  refine c_region ?_
  refine g_v rfl r_move ?_
  replace hm := bnd hm
  obtain ⟨⟨x4, x5⟩, hx6, hm⟩ := hm
  refine g_cn ⟨w0, M, _, _, φ⟩ (fun _ h => h) Try.call67 rfl rfl (c_ref03_row p0 _ hx6) (fun ⟨A7, c8⟩ hc8 => ?_)
  refine g_sta _ (fun W h => (ok_frontR (t := 2000) (t' := 100140) h rfl)) ?_
  refine g_v rfl r_move ?_
  refine g_v rfl (r_extract rfl rfl) ?_
  refine g_v rfl (r_extract rfl rfl) ?_
  refine g_v rfl r_assign ?_
  refine g_v rfl r_assign ?_
  refine g_nil ?_
  refine d_then ?_
  refine c_flat [(5, .slice A7 x4.length c8)] ⟨rfl, trivial⟩ (fun u => ?_)
  refine c_sta ⟨w0, M, H, (100140, ⟨.slice A7 x4.length c8, 9, 1, x4.length, x4.flatMap (fun x : ByteArray => [Value.string x])⟩) :: R, φ⟩ (fun _ h => h) ?_
  refine c_seq ?_
  refine c_region ?_
  refine g_v rfl r_move ?_
  refine g_v rfl r_assign ?_
  refine g_v rfl r_assign ?_
  refine g_nil ?_
  refine d_then ?_
  refine c_ret ?_
  replace hm := Option.some.inj hm
  subst hm
  refine d_sta _ (fun W h => ok_frontR (t := 100140) (t' := 2000) h rfl) ?_
  refine d_retC (A7, c8) Try.results43 ?_ hc8 (fun W h => h.phi (fun W hφ => hφ)) (.inr rfl)
  refine res_tmp ?_
  refine res_tmp ?_
  refine res_nil ?_
  exact rfl

noncomputable def m_law03_same_j1  : Option Bool :=
  some true
noncomputable def m_law03_same_s2 (p0 : List ByteArray) (p1 : List ByteArray) (i85 : Int) : Option (Int ⊕ (Unit ⊕ Bool)) :=
  if i85 < (p0.length : Int) then
    (at_ p0 i85).bind fun x131 =>
    (at_ p1 i85).bind fun x135 =>
    if x131 = x135 then
      some (.inl (w64 (i85 + 1)))
    else
      some (.inr (.inr false))
  else
    some (.inr (.inl ()))
noncomputable def m_law03_same (p0 : List ByteArray) (p1 : List ByteArray) : Option Bool :=
  if (p0.length : Int) ≠ (p1.length : Int) then
    some false
  else
    (loop (fun s => m_law03_same_s2 p0 p1 s) 0).bind fun e => Sum.elim (fun e => m_law03_same_j1) (fun x => some x) e
theorem c_law03_same {w0 : World} {M : Nat → Prop} {H : List (Nat × Nat × Obj)} {R : List (Nat × Row)} {φ : World → Prop} (p0 : List ByteArray) (Ap0_0 : Option Addr) (cp0_0 : Nat) (hcp0_0 : p0.length ≤ cp0_0) (fp0_0 : ∀ W, (Sta.mk w0 M H R φ).ok W → Cl W Ap0_0 (p0.flatMap (fun x : ByteArray => [Value.string x]))) (p1 : List ByteArray) (Ap1_0 : Option Addr) (cp1_0 : Nat) (hcp1_0 : p1.length ≤ cp1_0) (fp1_0 : ∀ W, (Sta.mk w0 M H R φ).ok W → Cl W Ap1_0 (p1.flatMap (fun x : ByteArray => [Value.string x]))) (r : Bool) (hm : m_law03_same p0 p1 = some r) :
    Cn Try.prog 44 #[.slice Ap0_0 p0.length cp0_0, .slice Ap1_0 p1.length cp1_0] ⟨w0, M, H, R, φ⟩ (fun x : Unit => .bool r) (fun x => True) (fun x => ⟨w0, M, H, R, φ⟩) := by
 unfold m_law03_same at hm
 refine cn_intro (fn := Try.f44) (N := 26) Try.func44 rfl Try.ntmps44 rfl ?_
 refine c_seq ?_
 refine c_region ?_
 refine g_v rfl r_assign ?_
 refine g_nil ?_
 refine d_then ?_
 refine c_seq ?_
 refine c_seq ?_
 refine c_region ?_
 refine g_v rfl r_move ?_
 refine g_v rfl (r_lenL Try.underlying44 rfl) ?_
 refine g_v rfl r_move ?_
 refine g_v rfl (r_lenL Try.underlying44 rfl) ?_
 refine g_v rfl (r_neq rfl rfl) ?_
 refine g_nil ?_
 refine d_then ?_
 refine c_cond rfl (fun h1 => ?_) (fun h1 => ?_)
 ·
  replace hm := ite_t hm (of_decide_eq_true h1)
  refine c_seq ?_
  refine c_region ?_
  refine g_v rfl r_assign ?_
  refine g_nil ?_
  refine d_then ?_
  refine c_ret ?_
  refine d_ret_then ?_
  replace hm := Option.some.inj hm
  subst hm
  refine d_retC () Try.results44 ?_ trivial (fun W h => ok_pre (H1 := []) (R1 := []) h (fun W hφ => hφ)) (.inr rfl)
  refine res_tmp ?_
  refine res_nil ?_
  exact rfl
 ·
  replace hm := ite_f hm (of_decide_eq_false h1)
  refine c_skip ?_
  refine d_then ?_
  refine c_seq ?_
  refine c_seq ?_
  refine c_region ?_
  refine g_v rfl r_assign ?_
  refine g_nil ?_
  refine d_then ?_
  refine c_cut (ι := Unit) [] (fun _ => []) (fun _ => ⟨w0, M, H, R, φ⟩) (fun _ => m_law03_same_j1 = some r) ?_ (fun _ u hm => ?_)
  ·
   refine c_block ?_
   replace hm := bnd hm
   obtain ⟨out2, hl2, hr2⟩ := hm
   obtain ⟨n113', hl2⟩ := loop_lp hl2
   refine c_loopU (ι := Nat × Int) [0, 1, 5] (fun ⟨n113, i85⟩ => [(5, .int .i64 i85)]) (fun ⟨n113, i85⟩ => ⟨w0, M, H, R, φ⟩) (fun ⟨n113, i85⟩ => Lp (fun s => m_law03_same_s2 p0 p1 s) n113 i85 out2) (fun ⟨n113, i85⟩ => n113) (n113', 0) hl2 ⟨rfl, rfl, rfl, trivial⟩ (fun W h => h.phi (fun W hφ => hφ)) (fun ⟨n113, i85⟩ u hlp => ?_)
   obtain ⟨o2, hm, hnx2⟩ := lp_step hlp
   clear hlp
   replace hm : m_law03_same_s2 p0 p1 i85 = some o2 := hm
   unfold m_law03_same_s2 at hm
   refine c_flat [(0, .slice Ap0_0 p0.length cp0_0), (1, .slice Ap1_0 p1.length cp1_0), (5, .int .i64 i85)] ⟨rfl, rfl, rfl, trivial⟩ (fun u => ?_)
   refine c_sta ⟨w0, M, H, R, φ⟩ (fun _ h => h) ?_
   refine c_seq ?_
   refine c_seq ?_
   refine c_region ?_
   refine g_v rfl r_move ?_
   refine g_v rfl r_move ?_
   refine g_v rfl (r_lenL Try.underlying44 rfl) ?_
   refine g_v rfl (r_lss rfl rfl) ?_
   refine g_nil ?_
   refine d_then ?_
   refine c_cond rfl (fun h114 => ?_) (fun h114 => ?_)
   ·
    replace hm := ite_t hm (of_decide_eq_true h114)
    refine c_skip ?_
    refine d_then ?_
    refine c_seq ?_
    refine c_block ?_
    refine c_seq ?_
    refine ga_start (n := 9) ⟨w0, M, H, R, φ⟩ [] #[false, false, false, false, false, false, false, false, false] (fun W h => h.phi (fun W hφ => hφ)) mixed rfl rfl ?_
    refine ga_v (i := 0) #[true, false, false, false, false, false, false, false, false] rfl (by kernel_rfl) (fun _ _ _ _ h => h) rfl (r_move) ?_
    refine ga_v (i := 1) #[true, true, false, false, false, false, false, false, false] rfl (by kernel_rfl) (fun _ _ _ _ h => h) rfl (r_move) ?_
    replace hm := bnd hm
    obtain ⟨x131, hx131, hm⟩ := hm
    refine ga_know _ (fun W hS => cl_at (p := (Sta.mk w0 M H R φ).ok) (sz := 1) (fun _ => rfl) (by decide) (ok_pre (H1 := []) (R1 := []) hS (fun W h => h)) fp0_0 hx131) ?_
    rintro ⟨ad132, hA134, f133⟩
    refine ga_v (i := 2) #[true, true, true, false, false, false, false, false, false] rfl (by kernel_rfl) (fun _ _ _ _ h => h) rfl (r_ix Try.underlying44 Try.sizeOf9 rfl hA134 rfl hx131) ?_
    refine ga_v (i := 3) #[true, true, true, true, false, false, false, false, false] rfl (by kernel_rfl) (fun _ _ _ _ h => h) rfl (r_ld rfl Try.isAgg9 (fun W hS => Cl.head (f133 W (ok_pre (H1 := []) (R1 := []) hS (fun W h => h))))) ?_
    refine ga_v (i := 4) #[true, true, true, true, true, false, false, false, false] rfl (by kernel_rfl) (fun _ _ _ _ h => h) rfl (r_move) ?_
    refine ga_r (i := 5) #[true, true, true, true, true, true, false, false, false] rfl (by kernel_rfl) (by decide) rfl (r_move) ?_
    replace hm := bnd hm
    obtain ⟨x135, hx135, hm⟩ := hm
    refine ga_know _ (fun W hS => cl_at (p := (Sta.mk w0 M H R φ).ok) (sz := 1) (fun _ => rfl) (by decide) (ok_pre (H1 := []) (R1 := []) hS (fun W h => h)) fp1_0 hx135) ?_
    rintro ⟨ad136, hA138, f137⟩
    refine ga_r (i := 6) #[true, true, true, true, true, true, true, false, false] rfl (by kernel_rfl) (by decide) rfl (r_ix Try.underlying44 Try.sizeOf9 rfl hA138 rfl hx135) ?_
    refine ga_r (i := 7) #[true, true, true, true, true, true, true, true, false] rfl (by kernel_rfl) (by decide) rfl (r_ld rfl Try.isAgg9 (fun W hS => Cl.head (f137 W (ok_pre (H1 := []) (R1 := []) hS (fun W h => h))))) ?_
    refine ga_r (i := 8) #[true, true, true, true, true, true, true, true, true] rfl (by kernel_rfl) (by decide) rfl (r_neqT rfl rfl) ?_
    refine ga_done (by kernel_rfl) ?_
    refine d_then ?_
    refine c_flat [(0, .slice Ap0_0 p0.length cp0_0), (1, .slice Ap1_0 p1.length cp1_0), (5, .int .i64 i85), (25, .bool (!(decide (x131 = x135))))] ⟨rfl, rfl, rfl, rfl, trivial⟩ (fun u => ?_)
    refine c_sta ⟨w0, M, H, R, φ⟩ (fun _ h => h) ?_
    refine c_cond rfl (fun h139 => ?_) (fun h139 => ?_)
    ·
     have h139' : (decide (x131 = x135)) = false := by revert h139; cases (decide (x131 = x135)) <;> simp
     replace hm := ite_f hm (of_decide_eq_false h139')
     refine c_seq ?_
     refine c_region ?_
     refine g_v rfl r_assign ?_
     refine g_nil ?_
     refine d_then ?_
     refine c_ret ?_
     refine d_ret_block ?_
     refine d_ret_then ?_
     refine d_ret_then ?_
     refine d_ret_block ?_
     refine d_ret_then ?_
     refine d_ret_then ?_
     replace hm := nx_out (C := (fun e => Sum.elim (fun e => m_law03_same_j1) (fun x => some x) e = some r)) hm hnx2 hr2
     replace hm : some false = some r := hm
     replace hm := Option.some.inj hm
     subst hm
     refine d_retC () Try.results44 ?_ trivial (fun W h => ok_pre (H1 := []) (R1 := []) h (fun W hφ => hφ)) (.inr rfl)
     refine res_tmp ?_
     refine res_nil ?_
     exact rfl
    ·
     have h139' : (decide (x131 = x135)) = true := by revert h139; cases (decide (x131 = x135)) <;> simp
     replace hm := ite_t hm (of_decide_eq_true h139')
     refine c_skip ?_
     refine d_normal_block ?_
     refine d_then ?_
     refine c_region ?_
     refine g_v rfl r_move ?_
     refine g_v rfl (r_add rfl rfl rfl) ?_
     refine g_v rfl r_assign ?_
     refine g_nil ?_
     obtain ⟨n140, hn140, hlp⟩ := nx_inl hm hnx2
     exact d_round (n140, w64 (i85 + 1)) hlp hn140 ⟨rfl, rfl, rfl, trivial⟩ (fun W h => h.phi (fun W hφ => hφ))
   ·
    replace hm := ite_f hm (of_decide_eq_false h114)
    refine c_exit ?_
    refine d_exit_then ?_
    refine d_exit_then ?_
    refine d_exit_block ?_
    replace hm := nx_out (C := (fun e => Sum.elim (fun e => m_law03_same_j1) (fun x => some x) e = some r)) hm hnx2 hr2
    exact d_round () hm Nat.zero_lt_one trivial (fun W h => h.phi (fun W hφ => hφ))
  ·
   unfold m_law03_same_j1 at hm
   refine d_flat [] trivial (fun u => ?_)
   refine d_sta ⟨w0, M, H, R, φ⟩ (fun _ h => h) ?_
   refine d_then ?_
   refine c_seq ?_
   refine c_region ?_
   refine g_v rfl r_assign ?_
   refine g_nil ?_
   refine d_then ?_
   refine c_ret ?_
   replace hm := Option.some.inj hm
   subst hm
   refine d_retC () Try.results44 ?_ trivial (fun W h => ok_pre (H1 := []) (R1 := []) h (fun W hφ => hφ)) (.inr rfl)
   refine res_tmp ?_
   refine res_nil ?_
   exact rfl

noncomputable def m_ref03_Depth (p0 : ByteArray) : Option Int :=
  (m_ref03_Labels p0).bind fun (z7 : (List ByteArray) × Int) =>
  if z7.2 ≠ 0 then
    some (-1)
  else
    some (z7.1.length : Int)
theorem c_ref03_Depth {w0 : World} {M : Nat → Prop} {H : List (Nat × Nat × Obj)} {R : List (Nat × Row)} {φ : World → Prop} (p0 : ByteArray) (r : Int) (hm : m_ref03_Depth p0 = some r) :
    Cn Try.prog 47 #[.string p0] ⟨w0, M, H, R, φ⟩ (fun x : Unit => .int .i64 r) (fun x => True) (fun x => ⟨w0, M, H, R, φ⟩) := by
 unfold m_ref03_Depth at hm
 refine cn_intro (fn := Try.f47) (N := 14) Try.func47 rfl Try.ntmps47 rfl ?_
 refine c_seq ?_
 refine c_region ?_
 refine g_v rfl r_assign ?_
 refine g_nil ?_
 refine d_then ?_
 refine c_seq ?_
 refine c_region ?_
 refine g_v rfl r_move ?_
 replace hm := bnd hm
 obtain ⟨⟨x1, x2⟩, hx3, hm⟩ := hm
 refine g_cn ⟨w0, M, _, _, φ⟩ (fun _ h => h) Try.call43 rfl rfl (c_ref03_Labels p0 _ hx3) (fun ⟨A4, c5⟩ hc5 => ?_)
 refine g_sta _ (fun W h => (ok_frontR (t := 2000) (t' := 100070) h rfl)) ?_
 refine g_v rfl r_move ?_
 refine g_v rfl (r_extract rfl rfl) ?_
 refine g_v rfl (r_extract rfl rfl) ?_
 refine g_v rfl r_assign ?_
 refine g_v rfl r_assign ?_
 refine g_nil ?_
 refine d_then ?_
 refine c_seq ?_
 refine c_seq ?_
 refine c_region ?_
 refine g_v rfl r_move ?_
 refine g_v rfl (r_neq rfl rfl) ?_
 refine g_nil ?_
 refine d_then ?_
 refine c_flat [(3, .slice A4 x1.length c5), (11, .bool (decide (x2 ≠ 0)))] ⟨rfl, rfl, trivial⟩ (fun u => ?_)
 refine c_sta ⟨w0, M, H, (100070, ⟨.slice A4 x1.length c5, 9, 1, x1.length, x1.flatMap (fun x : ByteArray => [Value.string x])⟩) :: R, φ⟩ (fun _ h => h) ?_
 refine c_cond rfl (fun h8 => ?_) (fun h8 => ?_)
 ·
  replace hm := ite_t hm (of_decide_eq_true h8)
  refine c_seq ?_
  refine c_region ?_
  refine g_v rfl r_assign ?_
  refine g_nil ?_
  refine d_then ?_
  refine c_ret ?_
  refine d_ret_then ?_
  replace hm := Option.some.inj hm
  subst hm
  refine d_retC () Try.results47 ?_ trivial (fun W h => ok_pre (H1 := []) (R1 := [_]) h (fun W hφ => hφ)) (.inr rfl)
  refine res_tmp ?_
  refine res_nil ?_
  exact rfl
 ·
  replace hm := ite_f hm (of_decide_eq_false h8)
  refine c_skip ?_
  refine d_then ?_
  refine c_seq ?_
  refine c_region ?_
  refine g_v rfl r_move ?_
  refine g_v rfl (r_lenL Try.underlying44 rfl) ?_
  refine g_v rfl r_assign ?_
  refine g_nil ?_
  refine d_then ?_
  refine c_ret ?_
  replace hm := Option.some.inj hm
  subst hm
  refine d_retC () Try.results47 ?_ trivial (fun W h => ok_pre (H1 := []) (R1 := [_]) h (fun W hφ => hφ)) (.inr rfl)
  refine res_tmp ?_
  refine res_nil ?_
  exact rfl

noncomputable def m_law03_NameChecks (p0 : ByteArray) (p1 : List ByteArray) : Option Bool :=
  (m_law03_awake).bind fun x1 =>
  (m_law03_short p0 400).bind fun x3 =>
  (m_law03_few p1).bind fun x5 =>
  (m_name_Make x5).bind fun (z13 : ByteArray × Int) =>
  (m_ref03_Make x5).bind fun (z17 : ByteArray × Int) =>
  (m_name_Labels x3).bind fun (z24 : (List ByteArray) × Int) =>
  (m_ref03_Labels x3).bind fun (z31 : (List ByteArray) × Int) =>
  (m_law03_same z24.1 z31.1).bind fun x32 =>
  if x1 = true then
    (m_name_Check x3).bind fun x35 =>
    (m_ref03_Check x3).bind fun x37 =>
    if x35 = x37 then
      if z13.1 = z17.1 then
        if z13.2 = z17.2 then
          if x32 = true then
            if z24.2 = z31.2 then
              (m_name_Depth x3).bind fun x44 =>
              (m_ref03_Depth x3).bind fun x46 =>
              some (decide (x44 = x46))
            else
              some false
          else
            some false
        else
          some false
      else
        some false
    else
      some false
  else
    some false
theorem c_law03_NameChecks {w0 : World} {M : Nat → Prop} {H : List (Nat × Nat × Obj)} {R : List (Nat × Row)} {φ : World → Prop} (p0 : ByteArray) (p1 : List ByteArray) (Ap1_0 : Option Addr) (cp1_0 : Nat) (hcp1_0 : p1.length ≤ cp1_0) (fp1_0 : ∀ W, (Sta.mk w0 M H R φ).ok W → Cl W Ap1_0 (p1.flatMap (fun x : ByteArray => [Value.string x]))) (r : Bool) (hm : m_law03_NameChecks p0 p1 = some r) :
    Cn Try.prog 9 #[.string p0, .slice Ap1_0 p1.length cp1_0] ⟨w0, M, H, R, φ⟩ (fun x : Unit => .bool r) (fun x => True) (fun x => ⟨w0, M, H, R, φ⟩) := by
 unfold m_law03_NameChecks at hm
 refine cn_intro (fn := Try.f9) (N := 77) Try.func9 rfl Try.ntmps9 rfl ?_
 refine c_seq ?_
 refine c_region ?_
 refine g_v rfl r_assign ?_
 refine g_nil ?_
 refine d_then ?_
 refine c_seq ?_
 refine c_region ?_
 replace hm := bnd hm
 obtain ⟨x1, hx2, hm⟩ := hm
 refine g_cn ⟨w0, M, _, _, φ⟩ (fun _ h => h) Try.call37 rfl rfl (c_law03_awake  _ hx2) (fun _ _ => ?_)
 refine g_v rfl r_assign ?_
 refine g_nil ?_
 refine d_then ?_
 refine c_seq ?_
 refine c_region ?_
 refine g_v rfl r_move ?_
 replace hm := bnd hm
 obtain ⟨x3, hx4, hm⟩ := hm
 refine g_cn ⟨w0, M, _, _, φ⟩ (fun _ h => h) Try.call38 rfl rfl (c_law03_short p0 400 _ hx4) (fun _ _ => ?_)
 refine g_v rfl r_assign ?_
 refine g_nil ?_
 refine d_then ?_
 refine c_seq ?_
 refine c_region ?_
 refine g_v rfl r_move ?_
 replace hm := bnd hm
 obtain ⟨x5, hx6, hm⟩ := hm
 refine g_cn ⟨w0, M, _, _, φ⟩ (fun _ h => h) Try.call39 rfl rfl (c_law03_few p1 Ap1_0 cp1_0 hcp1_0 (fun W hS => fp1_0 W (ok_pre (H1 := []) (R1 := []) hS (fun W h => h))) _ hx6) (fun ⟨A7, c8⟩ hc8 => ?_)
 refine g_sta _ (fun W h => (ok_frontR (t := 2000) (t' := 100200) h rfl)) ?_
 refine g_v rfl r_assign ?_
 refine g_nil ?_
 refine d_then ?_
 refine c_flat [(0, .string x3), (5, .bool x1), (6, .slice A7 x5.length c8)] ⟨rfl, rfl, rfl, trivial⟩ (fun u => ?_)
 refine c_sta ⟨w0, M, H, (100200, ⟨.slice A7 x5.length c8, 9, 1, x5.length, x5.flatMap (fun x : ByteArray => [Value.string x])⟩) :: R, φ⟩ (fun _ h => h) ?_
 refine c_seq ?_
 refine c_region ?_
 refine g_v rfl r_move ?_
 replace hm := bnd hm
 obtain ⟨⟨x10, x11⟩, hx12, hm⟩ := hm
 refine g_cn ⟨w0, M, _, _, φ⟩ (fun _ h => h) Try.call40 rfl rfl (c_name_Make x5 A7 c8 hc8 (fun W hS => rowCl (tag := 100200) rfl W hS) _ hx12) (fun _ _ => ?_)
 refine g_v rfl r_move ?_
 refine g_v rfl (r_extract rfl rfl) ?_
 refine g_v rfl (r_extract rfl rfl) ?_
 refine g_v rfl r_assign ?_
 refine g_v rfl r_assign ?_
 refine g_nil ?_
 refine d_then ?_
 refine c_seq ?_
 refine c_region ?_
 refine g_v rfl r_move ?_
 replace hm := bnd hm
 obtain ⟨⟨x14, x15⟩, hx16, hm⟩ := hm
 refine g_cn ⟨w0, M, _, _, φ⟩ (fun _ h => h) Try.call41 rfl rfl (c_ref03_Make x5 A7 c8 hc8 (fun W hS => rowCl (tag := 100200) rfl W hS) _ hx16) (fun _ _ => ?_)
 refine g_v rfl r_move ?_
 refine g_v rfl (r_extract rfl rfl) ?_
 refine g_v rfl (r_extract rfl rfl) ?_
 refine g_v rfl r_assign ?_
 refine g_v rfl r_assign ?_
 refine g_nil ?_
 refine d_then ?_
 refine c_flat [(0, .string x3), (5, .bool x1), (7, .string x10), (8, .int .i64 x11), (9, .string x14), (10, .int .i64 x15)] ⟨rfl, rfl, rfl, rfl, rfl, rfl, trivial⟩ (fun u => ?_)
 refine c_sta ⟨w0, M, H, (100200, ⟨.slice A7 x5.length c8, 9, 1, x5.length, x5.flatMap (fun x : ByteArray => [Value.string x])⟩) :: R, φ⟩ (fun _ h => h) ?_
 refine c_seq ?_
 refine c_region ?_
 refine g_v rfl r_move ?_
 replace hm := bnd hm
 obtain ⟨⟨x18, x19⟩, hx20, hm⟩ := hm
 refine g_cn ⟨w0, M, _, _, φ⟩ (fun _ h => h) Try.call42 rfl rfl (c_name_Labels x3 _ hx20) (fun ⟨A21, c22⟩ hc22 => ?_)
 refine g_sta _ (fun W h => (ok_frontR (t := 2000) (t' := 100330) h rfl)) ?_
 refine g_v rfl r_move ?_
 refine g_v rfl (r_extract rfl rfl) ?_
 refine g_v rfl (r_extract rfl rfl) ?_
 refine g_v rfl r_assign ?_
 refine g_v rfl r_assign ?_
 refine g_nil ?_
 refine d_then ?_
 refine c_seq ?_
 refine c_region ?_
 refine g_v rfl r_move ?_
 replace hm := bnd hm
 obtain ⟨⟨x25, x26⟩, hx27, hm⟩ := hm
 refine g_cn ⟨w0, M, _, _, φ⟩ (fun _ h => h) Try.call43 rfl rfl (c_ref03_Labels x3 _ hx27) (fun ⟨A28, c29⟩ hc29 => ?_)
 refine g_sta _ (fun W h => (ok_frontR (t := 2000) (t' := 100380) h rfl)) ?_
 refine g_v rfl r_move ?_
 refine g_v rfl (r_extract rfl rfl) ?_
 refine g_v rfl (r_extract rfl rfl) ?_
 refine g_v rfl r_assign ?_
 refine g_v rfl r_assign ?_
 refine g_nil ?_
 refine d_then ?_
 refine c_flat [(0, .string x3), (5, .bool x1), (7, .string x10), (8, .int .i64 x11), (9, .string x14), (10, .int .i64 x15), (11, .slice A21 x18.length c22), (12, .int .i64 x19), (13, .slice A28 x25.length c29), (14, .int .i64 x26)] ⟨rfl, rfl, rfl, rfl, rfl, rfl, rfl, rfl, rfl, rfl, trivial⟩ (fun u => ?_)
 refine c_sta ⟨w0, M, H, (100380, ⟨.slice A28 x25.length c29, 9, 1, x25.length, x25.flatMap (fun x : ByteArray => [Value.string x])⟩) :: (100330, ⟨.slice A21 x18.length c22, 9, 1, x18.length, x18.flatMap (fun x : ByteArray => [Value.string x])⟩) :: (100200, ⟨.slice A7 x5.length c8, 9, 1, x5.length, x5.flatMap (fun x : ByteArray => [Value.string x])⟩) :: R, φ⟩ (fun _ h => h) ?_
 refine c_seq ?_
 refine c_region ?_
 refine g_v rfl r_move ?_
 refine g_v rfl r_move ?_
 replace hm := bnd hm
 obtain ⟨x32, hx33, hm⟩ := hm
 refine g_cn ⟨w0, M, _, _, φ⟩ (fun _ h => h) Try.call44 rfl rfl (c_law03_same x18 A21 c22 hc22 (fun W hS => rowCl (tag := 100330) rfl W hS) x25 A28 c29 hc29 (fun W hS => rowCl (tag := 100380) rfl W hS) _ hx33) (fun _ _ => ?_)
 refine g_v rfl r_assign ?_
 refine g_nil ?_
 refine d_then ?_
 refine c_seq ?_
 refine c_region ?_
 refine g_v rfl r_move ?_
 refine g_v rfl r_move ?_
 refine g_if rfl rfl rfl rfl rfl (fun h34 => ?_) (fun h34 => ?_)
 ·
  replace hm := ite_t hm h34
  refine g_v rfl r_move ?_
  refine g_do rfl rfl rfl rfl rfl h34 ?_
  replace hm := bnd hm
  obtain ⟨x35, hx36, hm⟩ := hm
  refine g_cn ⟨w0, M, _, _, φ⟩ (fun _ h => h) Try.call18 rfl rfl (c_name_Check x3 _ hx36) (fun _ _ => ?_)
  refine g_do rfl rfl rfl rfl rfl h34 ?_
  refine g_v rfl r_move ?_
  refine g_do rfl rfl rfl rfl rfl h34 ?_
  replace hm := bnd hm
  obtain ⟨x37, hx38, hm⟩ := hm
  refine g_cn ⟨w0, M, _, _, φ⟩ (fun _ h => h) Try.call45 rfl rfl (c_ref03_Check x3 _ hx38) (fun _ _ => ?_)
  refine g_do rfl rfl rfl rfl rfl h34 ?_
  refine g_v rfl (r_eql rfl rfl) ?_
  refine g_v rfl (r_pick1 rfl h34) ?_
  refine g_v rfl r_move ?_
  refine g_if rfl rfl rfl rfl rfl (fun h39 => ?_) (fun h39 => ?_)
  ·
   replace hm := ite_t hm (of_decide_eq_true h39)
   refine g_v rfl r_move ?_
   refine g_do rfl rfl rfl rfl rfl h39 ?_
   refine g_v rfl r_move ?_
   refine g_do rfl rfl rfl rfl rfl h39 ?_
   refine g_v rfl (r_eqlT rfl rfl) ?_
   refine g_v rfl (r_pick1 rfl h39) ?_
   refine g_v rfl r_move ?_
   refine g_if rfl rfl rfl rfl rfl (fun h40 => ?_) (fun h40 => ?_)
   ·
    replace hm := ite_t hm (of_decide_eq_true h40)
    refine g_v rfl r_move ?_
    refine g_do rfl rfl rfl rfl rfl h40 ?_
    refine g_v rfl r_move ?_
    refine g_do rfl rfl rfl rfl rfl h40 ?_
    refine g_v rfl (r_eql rfl rfl) ?_
    refine g_v rfl (r_pick1 rfl h40) ?_
    refine g_v rfl r_move ?_
    refine g_if rfl rfl rfl rfl rfl (fun h41 => ?_) (fun h41 => ?_)
    ·
     replace hm := ite_t hm (of_decide_eq_true h41)
     refine g_v rfl r_move ?_
     refine g_v rfl (r_pick1 rfl h41) ?_
     refine g_v rfl r_move ?_
     refine g_if rfl rfl rfl rfl rfl (fun h42 => ?_) (fun h42 => ?_)
     ·
      replace hm := ite_t hm h42
      refine g_v rfl r_move ?_
      refine g_do rfl rfl rfl rfl rfl h42 ?_
      refine g_v rfl r_move ?_
      refine g_do rfl rfl rfl rfl rfl h42 ?_
      refine g_v rfl (r_eql rfl rfl) ?_
      refine g_v rfl (r_pick1 rfl h42) ?_
      refine g_v rfl r_move ?_
      refine g_if rfl rfl rfl rfl rfl (fun h43 => ?_) (fun h43 => ?_)
      ·
       replace hm := ite_t hm (of_decide_eq_true h43)
       refine g_v rfl r_move ?_
       refine g_do rfl rfl rfl rfl rfl h43 ?_
       replace hm := bnd hm
       obtain ⟨x44, hx45, hm⟩ := hm
       refine g_cn ⟨w0, M, _, _, φ⟩ (fun _ h => h) Try.call46 rfl rfl (c_name_Depth x3 _ hx45) (fun _ _ => ?_)
       refine g_do rfl rfl rfl rfl rfl h43 ?_
       refine g_v rfl r_move ?_
       refine g_do rfl rfl rfl rfl rfl h43 ?_
       replace hm := bnd hm
       obtain ⟨x46, hx47, hm⟩ := hm
       refine g_cn ⟨w0, M, _, _, φ⟩ (fun _ h => h) Try.call47 rfl rfl (c_ref03_Depth x3 _ hx47) (fun _ _ => ?_)
       refine g_do rfl rfl rfl rfl rfl h43 ?_
       refine g_v rfl (r_eql rfl rfl) ?_
       refine g_v rfl (r_pick1 rfl h43) ?_
       refine g_v rfl r_assign ?_
       refine g_nil ?_
       refine d_then ?_
       refine c_flat [(4, .bool (decide (x44 = x46)))] ⟨rfl, trivial⟩ (fun u => ?_)
       refine c_sta ⟨w0, M, H, (100380, ⟨.slice A28 x25.length c29, 9, 1, x25.length, x25.flatMap (fun x : ByteArray => [Value.string x])⟩) :: (100330, ⟨.slice A21 x18.length c22, 9, 1, x18.length, x18.flatMap (fun x : ByteArray => [Value.string x])⟩) :: (100200, ⟨.slice A7 x5.length c8, 9, 1, x5.length, x5.flatMap (fun x : ByteArray => [Value.string x])⟩) :: R, φ⟩ (fun _ h => h) ?_
       refine c_ret ?_
       replace hm := Option.some.inj hm
       subst hm
       refine d_retC () Try.results9 ?_ trivial (fun W h => ok_pre (H1 := []) (R1 := [_, _, _]) h (fun W hφ => hφ)) (.inr rfl)
       refine res_tmp ?_
       refine res_nil ?_
       exact rfl
      ·
       replace hm := ite_f hm (of_decide_eq_false h43)
       refine g_no rfl rfl rfl rfl rfl h43 ?_
       refine g_no rfl rfl rfl rfl rfl h43 ?_
       refine g_no rfl rfl rfl rfl rfl h43 ?_
       refine g_no rfl rfl rfl rfl rfl h43 ?_
       refine g_v rfl (r_pick0 rfl h43) ?_
       refine g_v rfl r_assign ?_
       refine g_nil ?_
       refine d_then ?_
       refine c_flat [(4, .bool false)] ⟨rfl, trivial⟩ (fun u => ?_)
       refine c_sta ⟨w0, M, H, (100380, ⟨.slice A28 x25.length c29, 9, 1, x25.length, x25.flatMap (fun x : ByteArray => [Value.string x])⟩) :: (100330, ⟨.slice A21 x18.length c22, 9, 1, x18.length, x18.flatMap (fun x : ByteArray => [Value.string x])⟩) :: (100200, ⟨.slice A7 x5.length c8, 9, 1, x5.length, x5.flatMap (fun x : ByteArray => [Value.string x])⟩) :: R, φ⟩ (fun _ h => h) ?_
       refine c_ret ?_
       replace hm := Option.some.inj hm
       subst hm
       refine d_retC () Try.results9 ?_ trivial (fun W h => ok_pre (H1 := []) (R1 := [_, _, _]) h (fun W hφ => hφ)) (.inr rfl)
       refine res_tmp ?_
       refine res_nil ?_
       exact rfl
     ·
      replace hm := ite_f hm (bool_nt h42)
      refine g_no rfl rfl rfl rfl rfl h42 ?_
      refine g_no rfl rfl rfl rfl rfl h42 ?_
      refine g_v rfl (r_pick0 rfl h42) ?_
      refine g_v rfl r_move ?_
      refine g_no rfl rfl rfl rfl rfl rfl ?_
      refine g_no rfl rfl rfl rfl rfl rfl ?_
      refine g_no rfl rfl rfl rfl rfl rfl ?_
      refine g_no rfl rfl rfl rfl rfl rfl ?_
      refine g_no rfl rfl rfl rfl rfl rfl ?_
      refine g_v rfl (r_pick0 rfl rfl) ?_
      refine g_v rfl r_assign ?_
      refine g_nil ?_
      refine d_then ?_
      refine c_flat [(4, .bool false)] ⟨rfl, trivial⟩ (fun u => ?_)
      refine c_sta ⟨w0, M, H, (100380, ⟨.slice A28 x25.length c29, 9, 1, x25.length, x25.flatMap (fun x : ByteArray => [Value.string x])⟩) :: (100330, ⟨.slice A21 x18.length c22, 9, 1, x18.length, x18.flatMap (fun x : ByteArray => [Value.string x])⟩) :: (100200, ⟨.slice A7 x5.length c8, 9, 1, x5.length, x5.flatMap (fun x : ByteArray => [Value.string x])⟩) :: R, φ⟩ (fun _ h => h) ?_
      refine c_ret ?_
      replace hm := Option.some.inj hm
      subst hm
      refine d_retC () Try.results9 ?_ trivial (fun W h => ok_pre (H1 := []) (R1 := [_, _, _]) h (fun W hφ => hφ)) (.inr rfl)
      refine res_tmp ?_
      refine res_nil ?_
      exact rfl
    ·
     replace hm := ite_f hm (of_decide_eq_false h41)
     refine g_v rfl (r_pick0 rfl h41) ?_
     refine g_v rfl r_move ?_
     refine g_no rfl rfl rfl rfl rfl rfl ?_
     refine g_no rfl rfl rfl rfl rfl rfl ?_
     refine g_no rfl rfl rfl rfl rfl rfl ?_
     refine g_v rfl (r_pick0 rfl rfl) ?_
     refine g_v rfl r_move ?_
     refine g_no rfl rfl rfl rfl rfl rfl ?_
     refine g_no rfl rfl rfl rfl rfl rfl ?_
     refine g_no rfl rfl rfl rfl rfl rfl ?_
     refine g_no rfl rfl rfl rfl rfl rfl ?_
     refine g_no rfl rfl rfl rfl rfl rfl ?_
     refine g_v rfl (r_pick0 rfl rfl) ?_
     refine g_v rfl r_assign ?_
     refine g_nil ?_
     refine d_then ?_
     refine c_flat [(4, .bool false)] ⟨rfl, trivial⟩ (fun u => ?_)
     refine c_sta ⟨w0, M, H, (100380, ⟨.slice A28 x25.length c29, 9, 1, x25.length, x25.flatMap (fun x : ByteArray => [Value.string x])⟩) :: (100330, ⟨.slice A21 x18.length c22, 9, 1, x18.length, x18.flatMap (fun x : ByteArray => [Value.string x])⟩) :: (100200, ⟨.slice A7 x5.length c8, 9, 1, x5.length, x5.flatMap (fun x : ByteArray => [Value.string x])⟩) :: R, φ⟩ (fun _ h => h) ?_
     refine c_ret ?_
     replace hm := Option.some.inj hm
     subst hm
     refine d_retC () Try.results9 ?_ trivial (fun W h => ok_pre (H1 := []) (R1 := [_, _, _]) h (fun W hφ => hφ)) (.inr rfl)
     refine res_tmp ?_
     refine res_nil ?_
     exact rfl
   ·
    replace hm := ite_f hm (of_decide_eq_false h40)
    refine g_no rfl rfl rfl rfl rfl h40 ?_
    refine g_no rfl rfl rfl rfl rfl h40 ?_
    refine g_v rfl (r_pick0 rfl h40) ?_
    refine g_v rfl r_move ?_
    refine g_no rfl rfl rfl rfl rfl rfl ?_
    refine g_v rfl (r_pick0 rfl rfl) ?_
    refine g_v rfl r_move ?_
    refine g_no rfl rfl rfl rfl rfl rfl ?_
    refine g_no rfl rfl rfl rfl rfl rfl ?_
    refine g_no rfl rfl rfl rfl rfl rfl ?_
    refine g_v rfl (r_pick0 rfl rfl) ?_
    refine g_v rfl r_move ?_
    refine g_no rfl rfl rfl rfl rfl rfl ?_
    refine g_no rfl rfl rfl rfl rfl rfl ?_
    refine g_no rfl rfl rfl rfl rfl rfl ?_
    refine g_no rfl rfl rfl rfl rfl rfl ?_
    refine g_no rfl rfl rfl rfl rfl rfl ?_
    refine g_v rfl (r_pick0 rfl rfl) ?_
    refine g_v rfl r_assign ?_
    refine g_nil ?_
    refine d_then ?_
    refine c_flat [(4, .bool false)] ⟨rfl, trivial⟩ (fun u => ?_)
    refine c_sta ⟨w0, M, H, (100380, ⟨.slice A28 x25.length c29, 9, 1, x25.length, x25.flatMap (fun x : ByteArray => [Value.string x])⟩) :: (100330, ⟨.slice A21 x18.length c22, 9, 1, x18.length, x18.flatMap (fun x : ByteArray => [Value.string x])⟩) :: (100200, ⟨.slice A7 x5.length c8, 9, 1, x5.length, x5.flatMap (fun x : ByteArray => [Value.string x])⟩) :: R, φ⟩ (fun _ h => h) ?_
    refine c_ret ?_
    replace hm := Option.some.inj hm
    subst hm
    refine d_retC () Try.results9 ?_ trivial (fun W h => ok_pre (H1 := []) (R1 := [_, _, _]) h (fun W hφ => hφ)) (.inr rfl)
    refine res_tmp ?_
    refine res_nil ?_
    exact rfl
  ·
   replace hm := ite_f hm (of_decide_eq_false h39)
   refine g_no rfl rfl rfl rfl rfl h39 ?_
   refine g_no rfl rfl rfl rfl rfl h39 ?_
   refine g_v rfl (r_pick0 rfl h39) ?_
   refine g_v rfl r_move ?_
   refine g_no rfl rfl rfl rfl rfl rfl ?_
   refine g_no rfl rfl rfl rfl rfl rfl ?_
   refine g_no rfl rfl rfl rfl rfl rfl ?_
   refine g_v rfl (r_pick0 rfl rfl) ?_
   refine g_v rfl r_move ?_
   refine g_no rfl rfl rfl rfl rfl rfl ?_
   refine g_v rfl (r_pick0 rfl rfl) ?_
   refine g_v rfl r_move ?_
   refine g_no rfl rfl rfl rfl rfl rfl ?_
   refine g_no rfl rfl rfl rfl rfl rfl ?_
   refine g_no rfl rfl rfl rfl rfl rfl ?_
   refine g_v rfl (r_pick0 rfl rfl) ?_
   refine g_v rfl r_move ?_
   refine g_no rfl rfl rfl rfl rfl rfl ?_
   refine g_no rfl rfl rfl rfl rfl rfl ?_
   refine g_no rfl rfl rfl rfl rfl rfl ?_
   refine g_no rfl rfl rfl rfl rfl rfl ?_
   refine g_no rfl rfl rfl rfl rfl rfl ?_
   refine g_v rfl (r_pick0 rfl rfl) ?_
   refine g_v rfl r_assign ?_
   refine g_nil ?_
   refine d_then ?_
   refine c_flat [(4, .bool false)] ⟨rfl, trivial⟩ (fun u => ?_)
   refine c_sta ⟨w0, M, H, (100380, ⟨.slice A28 x25.length c29, 9, 1, x25.length, x25.flatMap (fun x : ByteArray => [Value.string x])⟩) :: (100330, ⟨.slice A21 x18.length c22, 9, 1, x18.length, x18.flatMap (fun x : ByteArray => [Value.string x])⟩) :: (100200, ⟨.slice A7 x5.length c8, 9, 1, x5.length, x5.flatMap (fun x : ByteArray => [Value.string x])⟩) :: R, φ⟩ (fun _ h => h) ?_
   refine c_ret ?_
   replace hm := Option.some.inj hm
   subst hm
   refine d_retC () Try.results9 ?_ trivial (fun W h => ok_pre (H1 := []) (R1 := [_, _, _]) h (fun W hφ => hφ)) (.inr rfl)
   refine res_tmp ?_
   refine res_nil ?_
   exact rfl
 ·
  replace hm := ite_f hm (bool_nt h34)
  refine g_no rfl rfl rfl rfl rfl h34 ?_
  refine g_no rfl rfl rfl rfl rfl h34 ?_
  refine g_no rfl rfl rfl rfl rfl h34 ?_
  refine g_no rfl rfl rfl rfl rfl h34 ?_
  refine g_v rfl (r_pick0 rfl h34) ?_
  refine g_v rfl r_move ?_
  refine g_no rfl rfl rfl rfl rfl rfl ?_
  refine g_no rfl rfl rfl rfl rfl rfl ?_
  refine g_no rfl rfl rfl rfl rfl rfl ?_
  refine g_v rfl (r_pick0 rfl rfl) ?_
  refine g_v rfl r_move ?_
  refine g_no rfl rfl rfl rfl rfl rfl ?_
  refine g_no rfl rfl rfl rfl rfl rfl ?_
  refine g_no rfl rfl rfl rfl rfl rfl ?_
  refine g_v rfl (r_pick0 rfl rfl) ?_
  refine g_v rfl r_move ?_
  refine g_no rfl rfl rfl rfl rfl rfl ?_
  refine g_v rfl (r_pick0 rfl rfl) ?_
  refine g_v rfl r_move ?_
  refine g_no rfl rfl rfl rfl rfl rfl ?_
  refine g_no rfl rfl rfl rfl rfl rfl ?_
  refine g_no rfl rfl rfl rfl rfl rfl ?_
  refine g_v rfl (r_pick0 rfl rfl) ?_
  refine g_v rfl r_move ?_
  refine g_no rfl rfl rfl rfl rfl rfl ?_
  refine g_no rfl rfl rfl rfl rfl rfl ?_
  refine g_no rfl rfl rfl rfl rfl rfl ?_
  refine g_no rfl rfl rfl rfl rfl rfl ?_
  refine g_no rfl rfl rfl rfl rfl rfl ?_
  refine g_v rfl (r_pick0 rfl rfl) ?_
  refine g_v rfl r_assign ?_
  refine g_nil ?_
  refine d_then ?_
  refine c_flat [(4, .bool false)] ⟨rfl, trivial⟩ (fun u => ?_)
  refine c_sta ⟨w0, M, H, (100380, ⟨.slice A28 x25.length c29, 9, 1, x25.length, x25.flatMap (fun x : ByteArray => [Value.string x])⟩) :: (100330, ⟨.slice A21 x18.length c22, 9, 1, x18.length, x18.flatMap (fun x : ByteArray => [Value.string x])⟩) :: (100200, ⟨.slice A7 x5.length c8, 9, 1, x5.length, x5.flatMap (fun x : ByteArray => [Value.string x])⟩) :: R, φ⟩ (fun _ h => h) ?_
  refine c_ret ?_
  replace hm := Option.some.inj hm
  subst hm
  refine d_retC () Try.results9 ?_ trivial (fun W h => ok_pre (H1 := []) (R1 := [_, _, _]) h (fun W hφ => hφ)) (.inr rfl)
  refine res_tmp ?_
  refine res_nil ?_
  exact rfl

end Go.Proofs.Ytdcfemndfnfedaa
