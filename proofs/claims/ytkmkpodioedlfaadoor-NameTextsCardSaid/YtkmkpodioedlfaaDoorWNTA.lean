import Derived.Test.YtkmkpodioedlfaaDoorQL
import Derived.Test.YtkmkpodioedlfaaDoorSV
import Derived.Test.YtkmkpodioedlfaaDoorSL
import Derived.Test.YtkmkpodioedlfaaDoorSH
import Derived.Test.YtkmkpodioedlfaaDoorSE
import Derived.Test.YtkmkpodioedlfaaDoorRG
import Derived.Test.YtkmkpodioedlfaaDoorRB
import Derived.Test.YtkmkpodioedlfaaDoorIK
set_option maxRecDepth 100000
set_option maxHeartbeats 4000000
set_option linter.unusedVariables false
set_option linter.unusedSimpArgs false
namespace Go.Proofs.YtkmkpodioedlfaaDoor
open Go.RowKit Go.Proofs.YtkmkpodioedlfaaDoorW.PrintLast
theorem lit9_0 (z0 : ByteArray) (z1 : ByteArray) : Tryd.prog.builtSlice 9 2 [(0, .string z0), (1, .string z1)] = some #[.string z0, .string z1] := by kernel_rfl
theorem lit5_1 (z0 : Int) : Tryd.prog.builtSlice 5 1 [(0, .int .u8 z0)] = some #[.int .u8 z0] := by kernel_rfl
theorem inf5_2  : (Tryd.prog.info? 5).map (fun i => (i.zero, i.size, i.bytes)) = some (some (.int .u8 0), 1, 1) := by kernel_rfl
noncomputable def m_name_Make_j1  (l108 : List Int) (i111 : Int) : Option (ByteArray × Int) :=
  if 255 < i111 then
    some ((⟨#[]⟩ : ByteArray), 11)
  else
    (app 1 l108 [0]).bind fun l114 =>
    some (strOfNums l114, 0)
noncomputable def m_name_Make_s2 (p0 : List ByteArray) (l137 : List Int) (i140 : Int) (i141 : Int) : Option (((List Int) × Int × Int) ⊕ (((List Int) × Int) ⊕ (ByteArray × Int))) :=
  if i141 < (p0.length : Int) then
    (at_ p0 i141).bind fun x164 =>
    if x164 = (⟨#[]⟩ : ByteArray) then
      some (.inr (.inr ((⟨#[]⟩ : ByteArray), 10)))
    else
      if 63 < (x164.size : Int) then
        some (.inr (.inr ((⟨#[]⟩ : ByteArray), 10)))
      else
        if (min (w64 ((w64 (i140 + 1)) + (x164.size : Int))) 256) ≤ 255 then
          (app 1 l137 [IntKind.u8.wrap (x164.size : Int)]).bind fun l172 =>
          (app 1 l172 (bytesI x164)).bind fun l175 =>
          some (.inl (l175, (min (w64 ((w64 (i140 + 1)) + (x164.size : Int))) 256), w64 (i141 + 1)))
        else
          some (.inl (l137, (min (w64 ((w64 (i140 + 1)) + (x164.size : Int))) 256), w64 (i141 + 1)))
  else
    some (.inr (.inl (l137, i140)))
noncomputable def m_name_Make (p0 : List ByteArray) : Option (ByteArray × Int) :=
  (loop (fun s => m_name_Make_s2 p0 s.1 s.2.1 s.2.2) (([] : List Int), 1, 0)).bind fun e => Sum.elim (fun e => m_name_Make_j1 e.1 e.2) (fun x => some x) e
theorem c_name_Make {w0 : World} {M : Nat → Prop} {H : List (Nat × Nat × Obj)} {R : List (Nat × Row)} {φ : World → Prop} (p0 : List ByteArray) (Ap0_0 : Option Addr) (cp0_0 : Nat) (hcp0_0 : p0.length ≤ cp0_0) (fp0_0 : ∀ W, (Sta.mk w0 M H R φ).ok W → Cl W Ap0_0 (p0.flatMap (fun x : ByteArray => [Value.string x]))) (r : ByteArray × Int) (hm : m_name_Make p0 = some r) :
    Cn Tryd.prog 10 #[.slice Ap0_0 p0.length cp0_0] ⟨w0, M, H, R, φ⟩ (fun x : Unit => .tuple #[.string r.1, .int .i64 r.2]) (fun x => True) (fun x => ⟨w0, M, H, R, φ⟩) := by
 unfold m_name_Make at hm
 refine cn_intro (fn := Tryd.f10) (N := 44) Tryd.func10 rfl Tryd.ntmps10 rfl <| c_seq <| c_region <| g_v rfl r_assign <| g_v rfl r_assign <| g_nil <| d_then <| c_seq <| c_region <| g_v rfl r_assign ?_
 refine g_nil <| d_then <| c_seq <| c_region <| g_v rfl r_assign <| g_nil <| d_then <| c_seq <| c_seq <| c_region ?_
 refine g_v rfl r_move <| g_v rfl (r_lenL Tryd.underlying30 rfl) <| g_v rfl r_move <| g_nil <| d_then <| c_sta _ (fun W h => nilR h 13 5 1) ?_
 refine c_cut (ι := (List Int) × Int × Option Addr × Nat) [4, 5] (fun ⟨l108, i111, A109, c110⟩ => [(4, .slice A109 l108.length c110), (5, .int .i64 i111)]) (fun ⟨l108, i111, A109, c110⟩ => ⟨w0, M, H, (13, ⟨.slice A109 l108.length c110, 5, 1, l108.length, l108.flatMap (fun x : Int => [Value.int .u8 x])⟩) :: R, φ⟩) (fun ⟨l108, i111, A109, c110⟩ => m_name_Make_j1 l108 i111 = some r ∧ l108.length ≤ c110) ?_ (fun ⟨l108, i111, A109, c110⟩ u ⟨hm, hc110⟩ => ?_)
 ·
  refine c_block ?_
  replace hm := bnd hm
  obtain ⟨out2, hl2, hr2⟩ := hm
  obtain ⟨n162', hl2⟩ := loop_lp hl2
  refine c_loopU (ι := Nat × (List Int) × Int × Int × Option Addr × Nat) [4, 5, 8, 9, 10] (fun ⟨n162, l137, i140, i141, A138, c139⟩ => [(4, .slice A138 l137.length c139), (5, .int .i64 i140), (10, .int .i64 i141)]) (fun ⟨n162, l137, i140, i141, A138, c139⟩ => ⟨w0, M, H, (13, ⟨.slice A138 l137.length c139, 5, 1, l137.length, l137.flatMap (fun x : Int => [Value.int .u8 x])⟩) :: R, φ⟩) (fun ⟨n162, l137, i140, i141, A138, c139⟩ => Lp (fun s => m_name_Make_s2 p0 s.1 s.2.1 s.2.2) n162 (l137, i140, i141) out2 ∧ l137.length ≤ c139) (fun ⟨n162, l137, i140, i141, A138, c139⟩ => n162) (n162', ([] : List Int), 1, 0, none, 0) ⟨hl2, (Nat.le_refl 0)⟩ ⟨rfl, rfl, rfl, rfl, rfl, trivial⟩ (fun W h => h.phi (fun W hφ => hφ)) (fun ⟨n162, l137, i140, i141, A138, c139⟩ u ⟨hlp, hc139⟩ => ?_)
  obtain ⟨o2, hm, hnx2⟩ := lp_step hlp
  clear hlp
  replace hm : m_name_Make_s2 p0 l137 i140 i141 = some o2 := hm
  unfold m_name_Make_s2 at hm
  refine c_flat [(4, .slice A138 l137.length c139), (5, .int .i64 i140), (8, .slice Ap0_0 p0.length cp0_0), (9, .int .i64 (p0.length : Int)), (10, .int .i64 i141)] ⟨rfl, rfl, rfl, rfl, rfl, trivial⟩ (fun u => ?_)
  refine c_sta ⟨w0, M, H, (13, ⟨.slice A138 l137.length c139, 5, 1, l137.length, l137.flatMap (fun x : Int => [Value.int .u8 x])⟩) :: R, φ⟩ (fun _ h => h) <| c_seq <| c_region <| g_v rfl (r_lss rfl rfl) <| g_nil <| d_then <| c_seq ?_
  refine c_cond rfl (fun h163 => ?_) (fun h163 => ?_)
  ·
   replace hm := ite_t hm (of_decide_eq_true h163)
   refine c_skip <| d_then <| c_seq <| c_block <| c_seq <| c_region ?_
   replace hm := bnd hm
   obtain ⟨x164, hx164, hm⟩ := hm
   refine g_know _ (fun W hS => cl_at (p := (Sta.mk w0 M H R φ).ok) (sz := 1) (fun _ => rfl) (by decide) (ok_pre (H1 := []) (R1 := [_]) hS (fun W h => h)) fp0_0 hx164) ?_
   rintro ⟨ad165, hA167, f166⟩
   refine g_v rfl (r_ix Tryd.underlying30 Tryd.sizeOf9 rfl hA167 rfl hx164) <| g_v rfl (r_ld rfl Tryd.isAgg9 (fun W hS => Cl.head (f166 W (ok_pre (H1 := []) (R1 := [_]) hS (fun W h => h))))) <| g_v rfl r_assign <| g_nil <| d_then <| c_seq <| c_seq <| c_region <| g_v rfl r_move <| g_v rfl (r_eqlT rfl rfl) ?_
   refine g_v rfl r_move ?_
   refine g_if rfl rfl rfl rfl rfl (fun h168 => ?_) (fun h168 => ?_)
   ·
    replace hm := ite_f hm (of_decide_eq_false h168)
    refine g_v rfl r_move <| g_do rfl rfl rfl rfl rfl h168 <| g_v rfl (r_len Tryd.underlying9 rfl) <| g_do rfl rfl rfl rfl rfl h168 <| g_v rfl (r_gtr rfl rfl) <| g_v rfl (r_pick0 rfl h168) <| g_nil <| d_then ?_
    refine c_flat [(4, .slice A138 l137.length c139), (5, .int .i64 i140), (7, .string x164), (8, .slice Ap0_0 p0.length cp0_0), (9, .int .i64 (p0.length : Int)), (10, .int .i64 i141), (20, .bool (decide (63 < (x164.size : Int))))] ⟨rfl, rfl, rfl, rfl, rfl, rfl, rfl, trivial⟩ (fun u => ?_)
    refine c_cond rfl (fun h169 => ?_) (fun h169 => ?_)
    ·
     replace hm := ite_t hm (of_decide_eq_true h169)
     refine c_seq <| c_region <| g_v rfl r_assign <| g_v rfl r_assign <| g_nil <| d_then <| c_ret <| d_ret_then <| d_ret_block <| d_ret_then ?_
     refine d_ret_then <| d_ret_block <| d_ret_then <| d_ret_then ?_
     replace hm := nx_out (C := (fun e : ((List Int) × Int) ⊕ (ByteArray × Int) => Sum.elim (fun e => m_name_Make_j1 e.1 e.2) (fun x => some x) e = some r)) hm hnx2 hr2
     replace hm : some ((⟨#[]⟩ : ByteArray), 10) = some r := hm
     cases hm
     exact d_retC () Tryd.results10 (res_tmp (res_tmp (res_nil rfl))) trivial (fun W h => ok_pre (H1 := []) (R1 := [_]) h (fun W hφ => hφ)) (.inr rfl)
    replace hm := ite_f hm (of_decide_eq_false h169)
    refine c_skip <| d_then <| c_seq <| c_region <| g_v rfl r_move <| g_v rfl (r_add rfl rfl rfl) <| g_v rfl r_move <| g_v rfl (r_len Tryd.underlying9 rfl) <| g_v rfl (r_add rfl rfl rfl) <| g_v rfl (r_min rfl rfl) ?_
    refine g_v rfl r_assign <| g_nil <| d_then <| c_seq <| c_region <| g_v rfl r_move <| g_v rfl (r_leq rfl rfl) <| g_nil <| d_then ?_
    refine c_flat [(4, .slice A138 l137.length c139), (5, .int .i64 (min (w64 ((w64 (i140 + 1)) + (x164.size : Int))) 256)), (7, .string x164), (8, .slice Ap0_0 p0.length cp0_0), (9, .int .i64 (p0.length : Int)), (10, .int .i64 i141), (28, .bool (decide ((min (w64 ((w64 (i140 + 1)) + (x164.size : Int))) 256) ≤ 255)))] ⟨rfl, rfl, rfl, rfl, rfl, rfl, rfl, trivial⟩ (fun u => ?_)
    refine c_cond rfl (fun h170 => ?_) (fun h170 => ?_)
    ·
     replace hm := ite_t hm (of_decide_eq_true h170)
     refine c_region <| g_v rfl r_move <| g_v rfl r_move <| g_v rfl (r_len Tryd.underlying9 rfl) <| g_v rfl (r_conv Tryd.underlying3 Tryd.underlying5 rfl rfl) ?_
     refine g_e rfl (e_lit (tag := 100330) (l := [IntKind.u8.wrap (x164.size : Int)]) (enc := (fun x : Int => [Value.int .u8 x])) (sz := 1) rfl Tryd.underlying35 (lit5_1 _) rfl rfl (fun _ => rfl)) (fun g171 _ => ?_)
     replace hm := bnd hm
     obtain ⟨l172, hl172, hm⟩ := hm
     refine g_e rfl (e_appR (enc := (fun x : Int => [Value.int .u8 x])) (l := l137) (l1 := [IntKind.u8.wrap (x164.size : Int)]) (l2 := l172) (tag := 13) Tryd.underlying35 inf5_2 rfl (by decide) (by decide) (fun _ => rfl) (fun _ => rfl) rfl hc139 rfl rfl (fun W hS => rowCl (tag := 100330) rfl W hS) hl172) (fun ⟨A173, c174⟩ hc174 => ?_)
     refine g_v rfl r_move ?_
     replace hm := bnd hm
     obtain ⟨l175, hl175, hm⟩ := hm
     refine g_e rfl (e_appRS (l := l172) (l2 := l175) (tag := 13) Tryd.underlying35 Tryd.underlying9 inf5_2 rfl hc174 rfl rfl hl175) (fun ⟨A176, c177⟩ hc177 => ?_)
     refine g_v rfl r_assign <| g_nil <| d_normal_block <| d_then ?_
     refine c_flat [(4, .slice A176 l175.length c177), (5, .int .i64 (min (w64 ((w64 (i140 + 1)) + (x164.size : Int))) 256)), (8, .slice Ap0_0 p0.length cp0_0), (9, .int .i64 (p0.length : Int)), (10, .int .i64 i141)] ⟨rfl, rfl, rfl, rfl, rfl, trivial⟩ (fun u => ?_)
     refine c_sta ⟨w0, M, H, (100330, ⟨.slice (some ⟨g171, 0, none⟩) [IntKind.u8.wrap (x164.size : Int)].length 1, 5, 1, [IntKind.u8.wrap (x164.size : Int)].length, [IntKind.u8.wrap (x164.size : Int)].flatMap (fun x : Int => [Value.int .u8 x])⟩) :: (13, ⟨.slice A176 l175.length c177, 5, 1, l175.length, l175.flatMap (fun x : Int => [Value.int .u8 x])⟩) :: R, φ⟩ (fun _ h => h) <| c_region <| g_v rfl (r_add rfl rfl rfl) <| g_v rfl r_move <| g_nil ?_
     obtain ⟨n178, hn178, hlp⟩ := nx_inl hm hnx2
     exact d_round (n178, l175, (min (w64 ((w64 (i140 + 1)) + (x164.size : Int))) 256), w64 (i141 + 1), A176, c177) ⟨hlp, hc177⟩ hn178 ⟨rfl, rfl, rfl, rfl, rfl, trivial⟩ (fun W h => (h.dropR (t := 100330) rfl).phi (fun W hφ => hφ))
    replace hm := ite_f hm (of_decide_eq_false h170)
    refine c_skip <| d_normal_block <| d_then <| c_region <| g_v rfl (r_add rfl rfl rfl) <| g_v rfl r_move <| g_nil ?_
    obtain ⟨n179, hn179, hlp⟩ := nx_inl hm hnx2
    exact d_round (n179, l137, (min (w64 ((w64 (i140 + 1)) + (x164.size : Int))) 256), w64 (i141 + 1), A138, c139) ⟨hlp, hc139⟩ hn179 ⟨rfl, rfl, rfl, rfl, rfl, trivial⟩ (fun W h => h.phi (fun W hφ => hφ))
   replace hm := ite_t hm (of_decide_eq_true h168)
   refine g_no rfl rfl rfl rfl rfl h168 <| g_no rfl rfl rfl rfl rfl h168 <| g_v rfl (r_pick1 rfl h168) <| g_nil <| d_then <| c_cond1 rfl rfl <| c_seq <| c_region <| g_v rfl r_assign <| g_v rfl r_assign ?_
   refine g_nil <| d_then ?_
   refine c_flat [(2, .string (⟨#[]⟩ : ByteArray)), (3, .int .i64 10)] ⟨rfl, rfl, trivial⟩ (fun u => ?_)
   refine c_ret <| d_ret_then <| d_ret_block <| d_ret_then <| d_ret_then <| d_ret_block <| d_ret_then <| d_ret_then ?_
   replace hm := nx_out (C := (fun e : ((List Int) × Int) ⊕ (ByteArray × Int) => Sum.elim (fun e => m_name_Make_j1 e.1 e.2) (fun x => some x) e = some r)) hm hnx2 hr2
   replace hm : some ((⟨#[]⟩ : ByteArray), 10) = some r := hm
   cases hm
   exact d_retC () Tryd.results10 (res_tmp (res_tmp (res_nil rfl))) trivial (fun W h => ok_pre (H1 := []) (R1 := [_]) h (fun W hφ => hφ)) (.inr rfl)
  replace hm := ite_f hm (of_decide_eq_false h163)
  refine c_exit <| d_exit_then <| d_exit_then <| d_exit_block ?_
  replace hm := nx_out (C := (fun e : ((List Int) × Int) ⊕ (ByteArray × Int) => Sum.elim (fun e => m_name_Make_j1 e.1 e.2) (fun x => some x) e = some r)) hm hnx2 hr2
  exact d_round (l137, i140, A138, c139) ⟨hm, hc139⟩ Nat.zero_lt_one ⟨rfl, rfl, trivial⟩ (fun W h => h.phi (fun W hφ => hφ))
 unfold m_name_Make_j1 at hm
 refine d_flat [(4, .slice A109 l108.length c110), (5, .int .i64 i111)] ⟨rfl, rfl, trivial⟩ (fun u => ?_)
 refine d_sta ⟨w0, M, H, (13, ⟨.slice A109 l108.length c110, 5, 1, l108.length, l108.flatMap (fun x : Int => [Value.int .u8 x])⟩) :: R, φ⟩ (fun _ h => h) <| d_then <| c_seq <| c_seq <| c_region <| g_v rfl r_move <| g_v rfl (r_gtr rfl rfl) <| g_nil <| d_then ?_
 refine c_cond rfl (fun h112 => ?_) (fun h112 => ?_)
 ·
  replace hm := ite_t hm (of_decide_eq_true h112)
  refine c_seq <| c_region <| g_v rfl r_assign <| g_v rfl r_assign <| g_nil <| d_then <| c_ret <| d_ret_then ?_
  cases hm
  exact d_retC () Tryd.results10 (res_tmp (res_tmp (res_nil rfl))) trivial (fun W h => ok_pre (H1 := []) (R1 := [_]) h (fun W hφ => hφ)) (.inr rfl)
 replace hm := ite_f hm (of_decide_eq_false h112)
 refine c_skip <| d_then <| c_seq <| c_region <| g_v rfl r_move ?_
 refine g_e rfl (e_lit (tag := 100410) (l := [0]) (enc := (fun x : Int => [Value.int .u8 x])) (sz := 1) rfl Tryd.underlying35 (lit5_1 _) rfl rfl (fun _ => rfl)) (fun g113 _ => ?_)
 replace hm := bnd hm
 obtain ⟨l114, hl114, hm⟩ := hm
 refine g_e rfl (e_appR (enc := (fun x : Int => [Value.int .u8 x])) (l := l108) (l1 := [0]) (l2 := l114) (tag := 13) Tryd.underlying35 inf5_2 rfl (by decide) (by decide) (fun _ => rfl) (fun _ => rfl) rfl hc110 rfl rfl (fun W hS => rowCl (tag := 100410) rfl W hS) hl114) (fun ⟨A115, c116⟩ hc116 => ?_)
 refine g_v rfl (r_textE Tryd.underlying35 Tryd.underlying5 Tryd.underlying9 rfl (fun W hS => rowCl (tag := 13) rfl W hS)) <| g_v rfl r_assign <| g_v rfl r_assign <| g_nil <| d_then <| c_ret ?_
 cases hm
 exact d_retC () Tryd.results10 (res_tmp (res_tmp (res_nil rfl))) trivial (fun W h => ok_pre (H1 := []) (R1 := [_, _]) h (fun W hφ => hφ)) (.inr rfl)
theorem lit9_3 (z0 : ByteArray) : Tryd.prog.builtSlice 9 1 [(0, .string z0)] = some #[.string z0] := by kernel_rfl
theorem inf9_4  : (Tryd.prog.info? 9).map (fun i => (i.zero, i.size, i.bytes)) = some (some (.string (⟨#[]⟩ : ByteArray)), 1, 16) := by kernel_rfl
noncomputable def m_name_octet_c1 (p0 : Int) (o0 : ByteArray) : Option (Int × Bool) :=
  if (o0.size : Int) ≤ p0 then
    some (0, false)
  else
    (sat_ o0 p0).bind fun b2 =>
    if b2 < 48 then
      some (0, false)
    else
      (sat_ o0 p0).bind fun b4 =>
      if 57 < b4 then
        some (0, false)
      else
        (sat_ o0 p0).bind fun b6 =>
        some (w64 (IntKind.u8.wrap (b6 - 48)), true)
theorem c_name_octet_c1 {w0 : World} {M : Nat → Prop} {H : List (Nat × Nat × Obj)} {R : List (Nat × Row)} {φ : World → Prop} (p0 : Int) (go0 : Nat) (o0 : ByteArray) (r : Int × Bool) (hm : m_name_octet_c1 p0 o0 = some r) :
    Cn Tryd.prog 26 #[.int .i64 p0, .pointer (some ⟨go0, 0, none⟩)] ⟨w0, M, (1000, go0, .cells #[.string o0] 9 (0, 0)) :: H, R, φ⟩ (fun x : Unit => .tuple #[.int .i64 r.1, .bool r.2]) (fun x => True) (fun x => ⟨w0, M, (1000, go0, .cells #[.string o0] 9 (0, 0)) :: H, R, φ⟩) := by
 unfold m_name_octet_c1 at hm
 refine cn_intro (fn := Tryd.f26) (N := 26) Tryd.func26 rfl Tryd.ntmps26 rfl <| c_seq <| c_region <| g_v rfl r_assign <| g_v rfl r_assign <| g_nil <| d_then <| c_seq <| c_seq <| c_region ?_
 refine g_v rfl r_move <| g_v rfl (r_load (tag := 1000) rfl rfl rfl Tryd.isAgg9) <| g_v rfl (r_len Tryd.underlying9 rfl) <| g_v rfl (r_geq rfl rfl) <| g_v rfl r_move ?_
 refine g_if rfl rfl rfl rfl rfl (fun h1 => ?_) (fun h1 => ?_)
 ·
  replace hm := ite_f hm (of_decide_eq_false h1)
  refine g_v rfl (r_load (tag := 1000) rfl rfl rfl Tryd.isAgg9) <| g_do rfl rfl rfl rfl rfl h1 <| g_v rfl r_move <| g_do rfl rfl rfl rfl rfl h1 ?_
  replace hm := bnd hm
  obtain ⟨b2, hb2, hm⟩ := hm
  refine g_v rfl (r_sat Tryd.underlying9 rfl rfl hb2) <| g_do rfl rfl rfl rfl rfl h1 <| g_v rfl (r_lss rfl rfl) <| g_v rfl (r_pick0 rfl h1) <| g_v rfl r_move ?_
  refine g_if rfl rfl rfl rfl rfl (fun h3 => ?_) (fun h3 => ?_)
  ·
   replace hm := ite_f hm (of_decide_eq_false h3)
   refine g_v rfl (r_load (tag := 1000) rfl rfl rfl Tryd.isAgg9) <| g_do rfl rfl rfl rfl rfl h3 <| g_v rfl r_move <| g_do rfl rfl rfl rfl rfl h3 ?_
   replace hm := bnd hm
   obtain ⟨b4, hb4, hm⟩ := hm
   refine g_v rfl (r_sat Tryd.underlying9 rfl rfl hb4) <| g_do rfl rfl rfl rfl rfl h3 <| g_v rfl (r_gtr rfl rfl) <| g_v rfl (r_pick0 rfl h3) <| g_nil <| d_then ?_
   refine c_flat [(0, .int .i64 p0), (1, .pointer (some ⟨go0, 0, none⟩)), (20, .bool (decide (57 < b4)))] ⟨rfl, rfl, rfl, trivial⟩ (fun u => ?_)
   refine c_sta ⟨w0, M, (1000, go0, .cells #[.string o0] 9 (0, 0)) :: H, R, φ⟩ (fun _ h => h) ?_
   refine c_cond rfl (fun h5 => ?_) (fun h5 => ?_)
   ·
    replace hm := ite_t hm (of_decide_eq_true h5)
    refine c_seq <| c_region <| g_v rfl r_assign <| g_v rfl r_assign <| g_nil <| d_then <| c_ret <| d_ret_then ?_
    cases hm
    exact d_retC () Tryd.results26 (res_tmp (res_tmp (res_nil rfl))) trivial (fun W h => h.phi (fun W hφ => hφ)) (.inr rfl)
   replace hm := ite_f hm (of_decide_eq_false h5)
   refine c_skip <| d_then <| c_seq <| c_region <| g_v rfl (r_load (tag := 1000) rfl rfl rfl Tryd.isAgg9) <| g_v rfl r_move ?_
   replace hm := bnd hm
   obtain ⟨b6, hb6, hm⟩ := hm
   refine g_v rfl (r_sat Tryd.underlying9 rfl rfl hb6) <| g_v rfl (r_sub rfl rfl rfl) <| g_v rfl (r_conv Tryd.underlying5 Tryd.underlying3 rfl rfl) <| g_v rfl r_assign <| g_v rfl r_assign <| g_nil <| d_then <| c_ret ?_
   cases hm
   exact d_retC () Tryd.results26 (res_tmp (res_tmp (res_nil rfl))) trivial (fun W h => h.phi (fun W hφ => hφ)) (.inr rfl)
  replace hm := ite_t hm (of_decide_eq_true h3)
  iterate 3 refine g_no rfl rfl rfl rfl rfl h3 ?_
  refine g_v rfl (r_pick1 rfl h3) <| g_nil <| d_then ?_
  refine c_flat [(0, .int .i64 p0), (1, .pointer (some ⟨go0, 0, none⟩)), (20, .bool true)] ⟨rfl, rfl, rfl, trivial⟩ (fun u => ?_)
  refine c_sta ⟨w0, M, (1000, go0, .cells #[.string o0] 9 (0, 0)) :: H, R, φ⟩ (fun _ h => h) <| c_cond1 rfl rfl <| c_seq <| c_region <| g_v rfl r_assign <| g_v rfl r_assign <| g_nil <| d_then <| c_ret <| d_ret_then ?_
  cases hm
  exact d_retC () Tryd.results26 (res_tmp (res_tmp (res_nil rfl))) trivial (fun W h => h.phi (fun W hφ => hφ)) (.inr rfl)
 replace hm := ite_t hm (of_decide_eq_true h1)
 iterate 3 refine g_no rfl rfl rfl rfl rfl h1 ?_
 refine g_v rfl (r_pick1 rfl h1) <| g_v rfl r_move ?_
 iterate 4 refine g_no rfl rfl rfl rfl rfl rfl ?_
 refine g_v rfl (r_pick1 rfl rfl) <| g_nil <| d_then ?_
 refine c_flat [(0, .int .i64 p0), (1, .pointer (some ⟨go0, 0, none⟩)), (20, .bool true)] ⟨rfl, rfl, rfl, trivial⟩ (fun u => ?_)
 refine c_sta ⟨w0, M, (1000, go0, .cells #[.string o0] 9 (0, 0)) :: H, R, φ⟩ (fun _ h => h) <| c_cond1 rfl rfl <| c_seq <| c_region <| g_v rfl r_assign <| g_v rfl r_assign <| g_nil <| d_then <| c_ret <| d_ret_then ?_
 cases hm
 exact d_retC () Tryd.results26 (res_tmp (res_tmp (res_nil rfl))) trivial (fun W h => h.phi (fun W hφ => hφ)) (.inr rfl)
noncomputable def m_name_octet (p0 : ByteArray) : Option (Int × Int × Bool) :=
  if p0 = (⟨#[]⟩ : ByteArray) then
    some (0, 0, false)
  else
    (m_name_octet_c1 0 p0).bind fun (z6 : Int × Bool) =>
    if z6.2 = true then
      (m_name_octet_c1 1 p0).bind fun (z12 : Int × Bool) =>
      (m_name_octet_c1 2 p0).bind fun (z16 : Int × Bool) =>
      if z12.2 = true then
        if z16.2 = true then
          some (IntKind.u8.wrap (w64 ((w64 ((w64 (100 * z6.1)) + (w64 (10 * z12.1)))) + z16.1)), 3, decide (w64 ((w64 ((w64 (100 * z6.1)) + (w64 (10 * z12.1)))) + z16.1) ≤ 255))
        else
          some (IntKind.u8.wrap (w64 ((w64 ((w64 (100 * z6.1)) + (w64 (10 * z12.1)))) + z16.1)), 3, false)
      else
        some (IntKind.u8.wrap (w64 ((w64 ((w64 (100 * z6.1)) + (w64 (10 * z12.1)))) + z16.1)), 3, false)
    else
      (sat_ p0 0).bind fun b8 =>
      some (b8, 1, true)
theorem c_name_octet {w0 : World} {M : Nat → Prop} {H : List (Nat × Nat × Obj)} {R : List (Nat × Row)} {φ : World → Prop} (p0 : ByteArray) (r : Int × Int × Bool) (hm : m_name_octet p0 = some r) :
    Cn Tryd.prog 16 #[.string p0] ⟨w0, M, H, R, φ⟩ (fun x : Unit => .tuple #[.int .u8 r.1, .int .i64 r.2.1, .bool r.2.2]) (fun x => True) (fun x => ⟨w0, M, H, R, φ⟩) := by
 unfold m_name_octet at hm
 refine cn_intro (fn := Tryd.f16) (N := 52) Tryd.func16 rfl Tryd.ntmps16 rfl <| c_seq <| c_region ?_
 refine g_e rfl (e_box 100010 rfl) (fun g1 _ => ?_)
 iterate 3 refine g_v rfl r_assign ?_
 refine g_nil <| d_then <| c_seq <| c_region <| g_v rfl (r_mkf rfl) <| g_v rfl r_assign <| g_nil <| d_then <| c_seq <| c_seq ?_
 refine c_region <| g_v rfl (r_load (tag := 100010) rfl rfl rfl Tryd.isAgg9) <| g_v rfl (r_eqlT rfl rfl) <| g_nil <| d_then ?_
 refine c_cond rfl (fun h2 => ?_) (fun h2 => ?_)
 ·
  replace hm := ite_t hm (of_decide_eq_true h2)
  refine c_seq <| c_region ?_
  iterate 3 refine g_v rfl r_assign ?_
  refine g_nil <| d_then ?_
  refine c_flat [(2, .int .u8 0), (3, .int .i64 0), (4, .bool false)] ⟨rfl, rfl, rfl, trivial⟩ (fun u => ?_)
  refine c_sta ⟨w0, M, (100010, g1, .cells #[.string p0] 9 (0, 0)) :: H, R, φ⟩ (fun _ h => h) <| c_ret <| d_ret_then ?_
  cases hm
  exact d_retC () Tryd.results16 (res_tmp (res_tmp (res_tmp (res_nil rfl)))) trivial (fun W h => ok_pre (H1 := [_]) (R1 := []) h (fun W hφ => hφ)) (.inr rfl)
 replace hm := ite_f hm (of_decide_eq_false h2)
 refine c_skip <| d_then <| c_seq <| c_region <| g_v rfl r_move ?_
 replace hm := bnd hm
 obtain ⟨⟨x3, x4⟩, hx5, hm⟩ := hm
 refine g_cnv ⟨w0, M, (1000, g1, .cells #[.string p0] 9 (0, 0)) :: H, R, φ⟩ (fun W h => (ok_front (t := 100010) (t' := 1000) h rfl)) Tryd.call26 rfl rfl rfl (c_name_octet_c1 0 g1 p0 _ hx5) (fun _ _ => ?_)
 refine g_sta _ (fun W h => (ok_front (t := 1000) (t' := 100010) h rfl)) <| g_v rfl r_move <| g_v rfl (r_extract rfl rfl) <| g_v rfl (r_extract rfl rfl) <| g_v rfl r_assign <| g_v rfl r_assign <| g_nil <| d_then ?_
 refine c_flat [(1, .pointer (some ⟨g1, 0, none⟩)), (5, .func (.func 26) #[] #[.pointer (some ⟨g1, 0, none⟩)]), (6, .int .i64 x3), (7, .bool x4)] ⟨rfl, rfl, rfl, rfl, trivial⟩ (fun u => ?_)
 refine c_sta ⟨w0, M, (100010, g1, .cells #[.string p0] 9 (0, 0)) :: H, R, φ⟩ (fun _ h => h) <| c_seq <| c_seq <| c_region <| g_v rfl r_move <| g_v rfl (r_not rfl) <| g_nil <| d_then ?_
 refine c_cond rfl (fun h7 => ?_) (fun h7 => ?_)
 ·
  have h7' : x4 = false := by revert h7; cases x4 <;> simp
  replace hm := ite_f hm (bool_nt h7')
  refine c_seq <| c_region <| g_v rfl (r_load (tag := 100010) rfl rfl rfl Tryd.isAgg9) ?_
  replace hm := bnd hm
  obtain ⟨b8, hb8, hm⟩ := hm
  refine g_v rfl (r_sat Tryd.underlying9 rfl rfl hb8) ?_
  iterate 3 refine g_v rfl r_assign ?_
  refine g_nil <| d_then <| c_ret <| d_ret_then ?_
  cases hm
  exact d_retC () Tryd.results16 (res_tmp (res_tmp (res_tmp (res_nil rfl)))) trivial (fun W h => ok_pre (H1 := [_]) (R1 := []) h (fun W hφ => hφ)) (.inr rfl)
 have h7' : x4 = true := by revert h7; cases x4 <;> simp
 replace hm := ite_t hm h7'
 refine c_skip <| d_then <| c_seq <| c_region <| g_v rfl r_move ?_
 replace hm := bnd hm
 obtain ⟨⟨x9, x10⟩, hx11, hm⟩ := hm
 refine g_cnv ⟨w0, M, (1000, g1, .cells #[.string p0] 9 (0, 0)) :: H, R, φ⟩ (fun W h => (ok_front (t := 100010) (t' := 1000) h rfl)) Tryd.call26 rfl rfl rfl (c_name_octet_c1 1 g1 p0 _ hx11) (fun _ _ => ?_)
 refine g_sta _ (fun W h => (ok_front (t := 1000) (t' := 100010) h rfl)) <| g_v rfl r_move <| g_v rfl (r_extract rfl rfl) <| g_v rfl (r_extract rfl rfl) <| g_v rfl r_assign <| g_v rfl r_assign <| g_nil <| d_then ?_
 refine c_flat [(5, .func (.func 26) #[] #[.pointer (some ⟨g1, 0, none⟩)]), (6, .int .i64 x3), (8, .int .i64 x9), (9, .bool x10)] ⟨rfl, rfl, rfl, rfl, trivial⟩ (fun u => ?_)
 refine c_seq <| c_region <| g_v rfl r_move ?_
 replace hm := bnd hm
 obtain ⟨⟨x13, x14⟩, hx15, hm⟩ := hm
 refine g_cnv ⟨w0, M, (1000, g1, .cells #[.string p0] 9 (0, 0)) :: H, R, φ⟩ (fun W h => (ok_front (t := 100010) (t' := 1000) h rfl)) Tryd.call26 rfl rfl rfl (c_name_octet_c1 2 g1 p0 _ hx15) (fun _ _ => ?_)
 refine g_sta _ (fun W h => (ok_front (t := 1000) (t' := 100010) h rfl)) <| g_v rfl r_move <| g_v rfl (r_extract rfl rfl) <| g_v rfl (r_extract rfl rfl) <| g_v rfl r_assign <| g_v rfl r_assign <| g_nil <| d_then <| c_seq <| c_region ?_
 refine g_v rfl r_move <| g_v rfl (r_mul rfl rfl rfl) <| g_v rfl r_move <| g_v rfl (r_mul rfl rfl rfl) <| g_v rfl (r_add rfl rfl rfl) <| g_v rfl r_move <| g_v rfl (r_add rfl rfl rfl) <| g_v rfl r_assign <| g_nil <| d_then ?_
 refine c_flat [(9, .bool x10), (11, .bool x14), (12, .int .i64 (w64 ((w64 ((w64 (100 * x3)) + (w64 (10 * x9)))) + x13)))] ⟨rfl, rfl, rfl, trivial⟩ (fun u => ?_)
 refine c_seq <| c_region <| g_v rfl r_move <| g_v rfl (r_conv Tryd.underlying3 Tryd.underlying5 rfl rfl) <| g_v rfl r_move <| g_v rfl r_move ?_
 refine g_if rfl rfl rfl rfl rfl (fun h17 => ?_) (fun h17 => ?_)
 ·
  replace hm := ite_t hm h17
  refine g_v rfl r_move <| g_v rfl (r_pick1 rfl h17) <| g_v rfl r_move ?_
  refine g_if rfl rfl rfl rfl rfl (fun h18 => ?_) (fun h18 => ?_)
  ·
   replace hm := ite_t hm h18
   refine g_v rfl r_move <| g_do rfl rfl rfl rfl rfl h18 <| g_v rfl (r_leq rfl rfl) <| g_v rfl (r_pick1 rfl h18) ?_
   iterate 3 refine g_v rfl r_assign ?_
   refine g_nil <| d_then ?_
   refine c_flat [(2, .int .u8 (IntKind.u8.wrap (w64 ((w64 ((w64 (100 * x3)) + (w64 (10 * x9)))) + x13)))), (3, .int .i64 3), (4, .bool (decide (w64 ((w64 ((w64 (100 * x3)) + (w64 (10 * x9)))) + x13) ≤ 255)))] ⟨rfl, rfl, rfl, trivial⟩ (fun u => ?_)
   refine c_ret ?_
   cases hm
   exact d_retC () Tryd.results16 (res_tmp (res_tmp (res_tmp (res_nil rfl)))) trivial (fun W h => ok_pre (H1 := [_]) (R1 := []) h (fun W hφ => hφ)) (.inr rfl)
  replace hm := ite_f hm (bool_nt h18)
  refine g_no rfl rfl rfl rfl rfl h18 <| g_v rfl (r_pick0 rfl h18) ?_
  iterate 3 refine g_v rfl r_assign ?_
  refine g_nil <| d_then ?_
  refine c_flat [(2, .int .u8 (IntKind.u8.wrap (w64 ((w64 ((w64 (100 * x3)) + (w64 (10 * x9)))) + x13)))), (3, .int .i64 3), (4, .bool false)] ⟨rfl, rfl, rfl, trivial⟩ (fun u => ?_)
  refine c_ret ?_
  cases hm
  exact d_retC () Tryd.results16 (res_tmp (res_tmp (res_tmp (res_nil rfl)))) trivial (fun W h => ok_pre (H1 := [_]) (R1 := []) h (fun W hφ => hφ)) (.inr rfl)
 replace hm := ite_f hm (bool_nt h17)
 refine g_v rfl (r_pick0 rfl h17) <| g_v rfl r_move <| g_no rfl rfl rfl rfl rfl rfl <| g_no rfl rfl rfl rfl rfl rfl <| g_v rfl (r_pick0 rfl rfl) ?_
 iterate 3 refine g_v rfl r_assign ?_
 refine g_nil <| d_then ?_
 refine c_flat [(2, .int .u8 (IntKind.u8.wrap (w64 ((w64 ((w64 (100 * x3)) + (w64 (10 * x9)))) + x13)))), (3, .int .i64 3), (4, .bool false)] ⟨rfl, rfl, rfl, trivial⟩ (fun u => ?_)
 refine c_ret ?_
 cases hm
 exact d_retC () Tryd.results16 (res_tmp (res_tmp (res_tmp (res_nil rfl)))) trivial (fun W h => ok_pre (H1 := [_]) (R1 := []) h (fun W hφ => hφ)) (.inr rfl)
noncomputable def m_name_Parse_j2  (l317 : List ByteArray) : Option (ByteArray × Int) :=
  if (l317.length : Int) = 0 then
    some ((⟨#[]⟩ : ByteArray), 10)
  else
    (m_name_Make l317).bind fun (z324 : ByteArray × Int) =>
    some (z324.1, z324.2)
noncomputable def m_name_Parse_j1  (l306 : List Int) (l309 : List ByteArray) : Option (ByteArray × Int) :=
  if 0 < (l306.length : Int) then
    (app 16 l309 [strOfNums l306]).bind fun l327 =>
    m_name_Parse_j2 l327
  else
    m_name_Parse_j2 l309
noncomputable def m_name_Parse_s3 (p0 : ByteArray) (l362 : List Int) (l365 : List ByteArray) (i368 : Int) : Option (((List Int) × (List ByteArray) × Int) ⊕ (((List Int) × (List ByteArray)) ⊕ (ByteArray × Int))) :=
  if i368 < (p0.size : Int) then
    (sat_ p0 i368).bind fun b403 =>
    if b403 = 46 then
      if (l362.length : Int) = 0 then
        some (.inr (.inr ((⟨#[]⟩ : ByteArray), 10)))
      else
        (app 16 l365 [strOfNums l362]).bind fun l407 =>
        some (.inl (([] : List Int), l407, w64 (i368 + 1)))
    else
      if b403 = 92 then
        (scutLo p0 (w64 (i368 + 1))).bind fun s412 =>
        (m_name_octet s412).bind fun (z417 : Int × Int × Bool) =>
        if z417.2.2 = true then
          (app 1 l362 [z417.1]).bind fun l420 =>
          some (.inl (l420, l365, w64 ((w64 (i368 + z417.2.1)) + 1)))
        else
          some (.inr (.inr ((⟨#[]⟩ : ByteArray), 10)))
      else
        (sat_ p0 i368).bind fun b424 =>
        (app 1 l362 [b424]).bind fun l426 =>
        some (.inl (l426, l365, w64 (i368 + 1)))
  else
    some (.inr (.inl (l362, l365)))
noncomputable def m_name_Parse (p0 : ByteArray) : Option (ByteArray × Int) :=
  if p0 = (⟨#[46]⟩ : ByteArray) then
    (m_name_Make ([] : List ByteArray)).bind fun (z5 : ByteArray × Int) =>
    some (z5.1, z5.2)
  else
    (loop (fun s => m_name_Parse_s3 p0 s.1 s.2.1 s.2.2) (([] : List Int), ([] : List ByteArray), 0)).bind fun e => Sum.elim (fun e => m_name_Parse_j1 e.1 e.2) (fun x => some x) e
theorem c_name_Parse {w0 : World} {M : Nat → Prop} {H : List (Nat × Nat × Obj)} {R : List (Nat × Row)} {φ : World → Prop} (p0 : ByteArray) (r : ByteArray × Int) (hm : m_name_Parse p0 = some r) :
    Cn Tryd.prog 6 #[.string p0] ⟨w0, M, H, R, φ⟩ (fun x : Unit => .tuple #[.string r.1, .int .i64 r.2]) (fun x => True) (fun x => ⟨w0, M, H, R, φ⟩) := by
 unfold m_name_Parse at hm
 refine cn_intro (fn := Tryd.f6) (N := 75) Tryd.func6 rfl Tryd.ntmps6 rfl <| c_seq <| c_region <| g_v rfl r_assign <| g_v rfl r_assign <| g_nil <| d_then <| c_seq <| c_seq <| c_region ?_
 refine g_v rfl r_move <| g_v rfl (r_eqlT rfl rfl) <| g_nil <| d_then ?_
 refine c_cond rfl (fun h1 => ?_) (fun h1 => ?_)
 ·
  replace hm := ite_t hm (of_decide_eq_true h1)
  refine c_seq <| c_region ?_
  replace hm := bnd hm
  obtain ⟨⟨x2, x3⟩, hx4, hm⟩ := hm
  refine g_cn ⟨w0, M, _, _, φ⟩ (fun _ h => h) Tryd.call10 rfl rfl (c_name_Make ([] : List ByteArray) none 0 (Nat.le_refl 0) (fun W _ => Cl.nil _ _) _ hx4) (fun _ _ => ?_)
  refine g_v rfl (r_extract rfl rfl) <| g_v rfl (r_extract rfl rfl) <| g_v rfl r_assign <| g_v rfl r_assign <| g_nil <| d_then ?_
  refine c_flat [(2, .string x2), (3, .int .i64 x3)] ⟨rfl, rfl, trivial⟩ (fun u => ?_)
  refine c_sta ⟨w0, M, H, R, φ⟩ (fun _ h => h) <| c_ret <| d_ret_then ?_
  cases hm
  exact d_retC () Tryd.results6 (res_tmp (res_tmp (res_nil rfl))) trivial (fun W h => ok_pre (H1 := []) (R1 := []) h (fun W hφ => hφ)) (.inr rfl)
 replace hm := ite_f hm (of_decide_eq_false h1)
 refine c_skip <| d_then <| c_seq <| c_region <| g_v rfl r_assign <| g_nil <| d_then <| c_seq <| c_region <| g_v rfl r_assign ?_
 refine g_nil <| d_then <| c_seq <| c_seq <| c_region <| g_v rfl r_assign <| g_nil <| d_then <| c_sta _ (fun W h => nilR h 18 9 1) <| c_sta _ (fun W h => nilR h 22 5 1) ?_
 refine c_cut (ι := (List Int) × (List ByteArray) × Option Addr × Nat × Option Addr × Nat) [4, 5] (fun ⟨l306, l309, A307, c308, A310, c311⟩ => [(4, .slice A310 l309.length c311), (5, .slice A307 l306.length c308)]) (fun ⟨l306, l309, A307, c308, A310, c311⟩ => ⟨w0, M, H, (22, ⟨.slice A307 l306.length c308, 5, 1, l306.length, l306.flatMap (fun x : Int => [Value.int .u8 x])⟩) :: (18, ⟨.slice A310 l309.length c311, 9, 1, l309.length, l309.flatMap (fun x : ByteArray => [Value.string x])⟩) :: R, φ⟩) (fun ⟨l306, l309, A307, c308, A310, c311⟩ => m_name_Parse_j1 l306 l309 = some r ∧ l306.length ≤ c308 ∧ l309.length ≤ c311) ?_ (fun ⟨l306, l309, A307, c308, A310, c311⟩ u ⟨hm, hc308, hc311⟩ => ?_)
 ·
  refine c_block ?_
  replace hm := bnd hm
  obtain ⟨out3, hl3, hr3⟩ := hm
  obtain ⟨n401', hl3⟩ := loop_lp hl3
  refine c_loopU (ι := Nat × (List Int) × (List ByteArray) × Int × Option Addr × Nat × Option Addr × Nat) [0, 4, 5, 6] (fun ⟨n401, l362, l365, i368, A363, c364, A366, c367⟩ => [(4, .slice A366 l365.length c367), (5, .slice A363 l362.length c364), (6, .int .i64 i368)]) (fun ⟨n401, l362, l365, i368, A363, c364, A366, c367⟩ => ⟨w0, M, H, (22, ⟨.slice A363 l362.length c364, 5, 1, l362.length, l362.flatMap (fun x : Int => [Value.int .u8 x])⟩) :: (18, ⟨.slice A366 l365.length c367, 9, 1, l365.length, l365.flatMap (fun x : ByteArray => [Value.string x])⟩) :: R, φ⟩) (fun ⟨n401, l362, l365, i368, A363, c364, A366, c367⟩ => Lp (fun s => m_name_Parse_s3 p0 s.1 s.2.1 s.2.2) n401 (l362, l365, i368) out3 ∧ l362.length ≤ c364 ∧ l365.length ≤ c367) (fun ⟨n401, l362, l365, i368, A363, c364, A366, c367⟩ => n401) (n401', ([] : List Int), ([] : List ByteArray), 0, none, 0, none, 0) ⟨hl3, (Nat.le_refl 0), (Nat.le_refl 0)⟩ ⟨rfl, rfl, rfl, rfl, trivial⟩ (fun W h => h.phi (fun W hφ => hφ)) (fun ⟨n401, l362, l365, i368, A363, c364, A366, c367⟩ u ⟨hlp, hc364, hc367⟩ => ?_)
  obtain ⟨o3, hm, hnx3⟩ := lp_step hlp
  clear hlp
  replace hm : m_name_Parse_s3 p0 l362 l365 i368 = some o3 := hm
  unfold m_name_Parse_s3 at hm
  refine c_flat [(0, .string p0), (4, .slice A366 l365.length c367), (5, .slice A363 l362.length c364), (6, .int .i64 i368)] ⟨rfl, rfl, rfl, rfl, trivial⟩ (fun u => ?_)
  refine c_sta ⟨w0, M, H, (22, ⟨.slice A363 l362.length c364, 5, 1, l362.length, l362.flatMap (fun x : Int => [Value.int .u8 x])⟩) :: (18, ⟨.slice A366 l365.length c367, 9, 1, l365.length, l365.flatMap (fun x : ByteArray => [Value.string x])⟩) :: R, φ⟩ (fun _ h => h) <| c_seq <| c_seq <| c_region <| g_v rfl r_move <| g_v rfl r_move <| g_v rfl (r_len Tryd.underlying9 rfl) <| g_v rfl (r_lss rfl rfl) <| g_nil <| d_then ?_
  refine c_cond rfl (fun h402 => ?_) (fun h402 => ?_)
  ·
   replace hm := ite_t hm (of_decide_eq_true h402)
   refine c_skip <| d_then <| c_seq <| c_block <| c_seq <| c_region <| g_v rfl r_move <| g_v rfl r_move ?_
   replace hm := bnd hm
   obtain ⟨b403, hb403, hm⟩ := hm
   refine g_v rfl (r_sat Tryd.underlying9 rfl rfl hb403) <| g_nil <| d_then <| c_block <| c_seq <| c_region <| g_v rfl (r_eql rfl rfl) <| g_v rfl r_assign <| g_nil <| d_then ?_
   refine c_flat [(0, .string p0), (4, .slice A366 l365.length c367), (5, .slice A363 l362.length c364), (6, .int .i64 i368), (23, .int .u8 b403), (30, .bool (decide (b403 = 46)))] ⟨rfl, rfl, rfl, rfl, rfl, rfl, trivial⟩ (fun u => ?_)
   refine c_cond rfl (fun h404 => ?_) (fun h404 => ?_)
   ·
    replace hm := ite_t hm (of_decide_eq_true h404)
    refine c_seq <| c_seq <| c_region <| g_v rfl r_move <| g_v rfl (r_lenL Tryd.underlying35 rfl) <| g_v rfl (r_eql rfl rfl) <| g_nil <| d_then ?_
    refine c_cond rfl (fun h405 => ?_) (fun h405 => ?_)
    ·
     replace hm := ite_t hm (of_decide_eq_true h405)
     refine c_seq <| c_region <| g_v rfl r_assign <| g_v rfl r_assign <| g_nil <| d_then <| c_ret <| d_ret_then <| d_ret_block <| d_ret_block ?_
     refine d_ret_then <| d_ret_then <| d_ret_block <| d_ret_then <| d_ret_then ?_
     replace hm := nx_out (C := (fun e : ((List Int) × (List ByteArray)) ⊕ (ByteArray × Int) => Sum.elim (fun e => m_name_Parse_j1 e.1 e.2) (fun x => some x) e = some r)) hm hnx3 hr3
     replace hm : some ((⟨#[]⟩ : ByteArray), 10) = some r := hm
     cases hm
     exact d_retC () Tryd.results6 (res_tmp (res_tmp (res_nil rfl))) trivial (fun W h => ok_pre (H1 := []) (R1 := [_, _]) h (fun W hφ => hφ)) (.inr rfl)
    replace hm := ite_f hm (of_decide_eq_false h405)
    refine c_skip <| d_then <| c_region <| g_v rfl r_move <| g_v rfl r_move <| g_v rfl (r_textE Tryd.underlying35 Tryd.underlying5 Tryd.underlying9 rfl (fun W hS => rowCl (tag := 22) rfl W hS)) ?_
    refine g_e rfl (e_lit (tag := 100380) (l := [strOfNums l362]) (enc := (fun x : ByteArray => [Value.string x])) (sz := 1) rfl Tryd.underlying30 (lit9_3 _) rfl rfl (fun _ => rfl)) (fun g406 _ => ?_)
    replace hm := bnd hm
    obtain ⟨l407, hl407, hm⟩ := hm
    refine g_e rfl (e_appR (enc := (fun x : ByteArray => [Value.string x])) (l := l365) (l1 := [strOfNums l362]) (l2 := l407) (tag := 18) Tryd.underlying30 inf9_4 rfl (by decide) (by decide) (fun _ => rfl) (fun _ => rfl) rfl hc367 rfl rfl (fun W hS => rowCl (tag := 100380) rfl W hS) hl407) (fun ⟨A408, c409⟩ hc409 => ?_)
    refine g_v rfl r_assign <| g_v rfl r_assign <| g_nil <| d_normal_block <| d_normal_block <| d_then ?_
    refine c_flat [(0, .string p0), (4, .slice A408 l407.length c409), (5, .slice none 0 0), (6, .int .i64 i368)] ⟨rfl, rfl, rfl, rfl, trivial⟩ (fun u => ?_)
    refine c_sta ⟨w0, M, H, (100380, ⟨.slice (some ⟨g406, 0, none⟩) [strOfNums l362].length 1, 9, 1, [strOfNums l362].length, [strOfNums l362].flatMap (fun x : ByteArray => [Value.string x])⟩) :: (22, ⟨.slice A363 l362.length c364, 5, 1, l362.length, l362.flatMap (fun x : Int => [Value.int .u8 x])⟩) :: (18, ⟨.slice A408 l407.length c409, 9, 1, l407.length, l407.flatMap (fun x : ByteArray => [Value.string x])⟩) :: R, φ⟩ (fun _ h => h) <| c_region <| g_v rfl r_move <| g_v rfl (r_add rfl rfl rfl) <| g_v rfl r_assign <| g_nil <| d_sta _ (fun W h => nilR (Sta.ok.dropR (t := 22) h rfl) 22 5 1) ?_
    obtain ⟨n410, hn410, hlp⟩ := nx_inl hm hnx3
    exact d_round (n410, ([] : List Int), l407, w64 (i368 + 1), none, 0, A408, c409) ⟨hlp, (Nat.le_refl 0), hc409⟩ hn410 ⟨rfl, rfl, rfl, rfl, trivial⟩ (fun W h => (h.dropR (t := 100380) rfl).phi (fun W hφ => hφ))
   replace hm := ite_f hm (of_decide_eq_false h404)
   refine c_seq <| c_region <| g_v rfl (r_eql rfl rfl) <| g_v rfl r_assign <| g_nil <| d_then ?_
   refine c_cond rfl (fun h411 => ?_) (fun h411 => ?_)
   ·
    replace hm := ite_t hm (of_decide_eq_true h411)
    refine c_seq <| c_region <| g_v rfl r_move <| g_v rfl r_move <| g_v rfl (r_add rfl rfl rfl) ?_
    replace hm := bnd hm
    obtain ⟨s412, hs412, hm⟩ := hm
    refine g_v rfl (r_scutLo Tryd.underlying9 rfl rfl hs412) ?_
    replace hm := bnd hm
    obtain ⟨⟨x413, x414, x415⟩, hx416, hm⟩ := hm
    refine g_cn ⟨w0, M, _, _, φ⟩ (fun _ h => h) Tryd.call16 rfl rfl (c_name_octet s412 _ hx416) (fun _ _ => ?_)
    refine g_v rfl r_move ?_
    iterate 3 refine g_v rfl (r_extract rfl rfl) ?_
    iterate 3 refine g_v rfl r_assign ?_
    refine g_nil <| d_then ?_
    refine c_flat [(0, .string p0), (4, .slice A366 l365.length c367), (5, .slice A363 l362.length c364), (6, .int .i64 i368), (7, .int .u8 x413), (8, .int .i64 x414), (9, .bool x415)] ⟨rfl, rfl, rfl, rfl, rfl, rfl, rfl, trivial⟩ (fun u => ?_)
    refine c_seq <| c_seq <| c_region <| g_v rfl r_move <| g_v rfl (r_not rfl) <| g_nil <| d_then ?_
    refine c_cond rfl (fun h418 => ?_) (fun h418 => ?_)
    ·
     have h418' : x415 = false := by revert h418; cases x415 <;> simp
     replace hm := ite_f hm (bool_nt h418')
     refine c_seq <| c_region <| g_v rfl r_assign <| g_v rfl r_assign <| g_nil <| d_then <| c_ret <| d_ret_then <| d_ret_block <| d_ret_block ?_
     refine d_ret_then <| d_ret_then <| d_ret_block <| d_ret_then <| d_ret_then ?_
     replace hm := nx_out (C := (fun e : ((List Int) × (List ByteArray)) ⊕ (ByteArray × Int) => Sum.elim (fun e => m_name_Parse_j1 e.1 e.2) (fun x => some x) e = some r)) hm hnx3 hr3
     replace hm : some ((⟨#[]⟩ : ByteArray), 10) = some r := hm
     cases hm
     exact d_retC () Tryd.results6 (res_tmp (res_tmp (res_nil rfl))) trivial (fun W h => ok_pre (H1 := []) (R1 := [_, _]) h (fun W hφ => hφ)) (.inr rfl)
    have h418' : x415 = true := by revert h418; cases x415 <;> simp
    replace hm := ite_t hm h418'
    refine c_skip <| d_then <| c_seq <| c_region <| g_v rfl r_move <| g_v rfl r_move ?_
    refine g_e rfl (e_lit (tag := 100550) (l := [x413]) (enc := (fun x : Int => [Value.int .u8 x])) (sz := 1) rfl Tryd.underlying35 (lit5_1 _) rfl rfl (fun _ => rfl)) (fun g419 _ => ?_)
    replace hm := bnd hm
    obtain ⟨l420, hl420, hm⟩ := hm
    refine g_e rfl (e_appR (enc := (fun x : Int => [Value.int .u8 x])) (l := l362) (l1 := [x413]) (l2 := l420) (tag := 22) Tryd.underlying35 inf5_2 rfl (by decide) (by decide) (fun _ => rfl) (fun _ => rfl) rfl hc364 rfl rfl (fun W hS => rowCl (tag := 100550) rfl W hS) hl420) (fun ⟨A421, c422⟩ hc422 => ?_)
    refine g_v rfl r_assign <| g_nil <| d_then <| c_region <| g_v rfl r_move <| g_v rfl r_move <| g_v rfl (r_add rfl rfl rfl) <| g_v rfl r_assign <| g_nil <| d_normal_block ?_
    refine d_normal_block <| d_then ?_
    refine c_flat [(0, .string p0), (4, .slice A366 l365.length c367), (5, .slice A421 l420.length c422), (6, .int .i64 (w64 (i368 + x414)))] ⟨rfl, rfl, rfl, rfl, trivial⟩ (fun u => ?_)
    refine c_sta ⟨w0, M, H, (100550, ⟨.slice (some ⟨g419, 0, none⟩) [x413].length 1, 5, 1, [x413].length, [x413].flatMap (fun x : Int => [Value.int .u8 x])⟩) :: (22, ⟨.slice A421 l420.length c422, 5, 1, l420.length, l420.flatMap (fun x : Int => [Value.int .u8 x])⟩) :: (18, ⟨.slice A366 l365.length c367, 9, 1, l365.length, l365.flatMap (fun x : ByteArray => [Value.string x])⟩) :: R, φ⟩ (fun _ h => h) <| c_region <| g_v rfl r_move <| g_v rfl (r_add rfl rfl rfl) <| g_v rfl r_assign <| g_nil ?_
    obtain ⟨n423, hn423, hlp⟩ := nx_inl hm hnx3
    exact d_round (n423, l420, l365, w64 ((w64 (i368 + x414)) + 1), A421, c422, A366, c367) ⟨hlp, hc422, hc367⟩ hn423 ⟨rfl, rfl, rfl, rfl, trivial⟩ (fun W h => (h.dropR (t := 100550) rfl).phi (fun W hφ => hφ))
   replace hm := ite_f hm (of_decide_eq_false h411)
   refine c_region ?_
   iterate 3 refine g_v rfl r_move ?_
   replace hm := bnd hm
   obtain ⟨b424, hb424, hm⟩ := hm
   refine g_v rfl (r_sat Tryd.underlying9 rfl rfl hb424) ?_
   refine g_e rfl (e_lit (tag := 100280) (l := [b424]) (enc := (fun x : Int => [Value.int .u8 x])) (sz := 1) rfl Tryd.underlying35 (lit5_1 _) rfl rfl (fun _ => rfl)) (fun g425 _ => ?_)
   replace hm := bnd hm
   obtain ⟨l426, hl426, hm⟩ := hm
   refine g_e rfl (e_appR (enc := (fun x : Int => [Value.int .u8 x])) (l := l362) (l1 := [b424]) (l2 := l426) (tag := 22) Tryd.underlying35 inf5_2 rfl (by decide) (by decide) (fun _ => rfl) (fun _ => rfl) rfl hc364 rfl rfl (fun W hS => rowCl (tag := 100280) rfl W hS) hl426) (fun ⟨A427, c428⟩ hc428 => ?_)
   refine g_v rfl r_assign <| g_nil <| d_normal_block <| d_normal_block <| d_then ?_
   refine c_flat [(0, .string p0), (4, .slice A366 l365.length c367), (5, .slice A427 l426.length c428), (6, .int .i64 i368)] ⟨rfl, rfl, rfl, rfl, trivial⟩ (fun u => ?_)
   refine c_sta ⟨w0, M, H, (100280, ⟨.slice (some ⟨g425, 0, none⟩) [b424].length 1, 5, 1, [b424].length, [b424].flatMap (fun x : Int => [Value.int .u8 x])⟩) :: (22, ⟨.slice A427 l426.length c428, 5, 1, l426.length, l426.flatMap (fun x : Int => [Value.int .u8 x])⟩) :: (18, ⟨.slice A366 l365.length c367, 9, 1, l365.length, l365.flatMap (fun x : ByteArray => [Value.string x])⟩) :: R, φ⟩ (fun _ h => h) <| c_region <| g_v rfl r_move <| g_v rfl (r_add rfl rfl rfl) <| g_v rfl r_assign <| g_nil ?_
   obtain ⟨n429, hn429, hlp⟩ := nx_inl hm hnx3
   exact d_round (n429, l426, l365, w64 (i368 + 1), A427, c428, A366, c367) ⟨hlp, hc428, hc367⟩ hn429 ⟨rfl, rfl, rfl, rfl, trivial⟩ (fun W h => (h.dropR (t := 100280) rfl).phi (fun W hφ => hφ))
  replace hm := ite_f hm (of_decide_eq_false h402)
  refine c_exit <| d_exit_then <| d_exit_then <| d_exit_block ?_
  replace hm := nx_out (C := (fun e : ((List Int) × (List ByteArray)) ⊕ (ByteArray × Int) => Sum.elim (fun e => m_name_Parse_j1 e.1 e.2) (fun x => some x) e = some r)) hm hnx3 hr3
  exact d_round (l362, l365, A363, c364, A366, c367) ⟨hm, hc364, hc367⟩ Nat.zero_lt_one ⟨rfl, rfl, trivial⟩ (fun W h => h.phi (fun W hφ => hφ))
 unfold m_name_Parse_j1 at hm
 refine d_flat [(4, .slice A310 l309.length c311), (5, .slice A307 l306.length c308)] ⟨rfl, rfl, trivial⟩ (fun u => ?_)
 refine d_sta ⟨w0, M, H, (22, ⟨.slice A307 l306.length c308, 5, 1, l306.length, l306.flatMap (fun x : Int => [Value.int .u8 x])⟩) :: (18, ⟨.slice A310 l309.length c311, 9, 1, l309.length, l309.flatMap (fun x : ByteArray => [Value.string x])⟩) :: R, φ⟩ (fun _ h => h) <| d_then <| c_seq ?_
 refine c_cut (ι := (List ByteArray) × Option Addr × Nat) [4] (fun ⟨l317, A318, c319⟩ => [(4, .slice A318 l317.length c319)]) (fun ⟨l317, A318, c319⟩ => ⟨w0, M, H, (18, ⟨.slice A318 l317.length c319, 9, 1, l317.length, l317.flatMap (fun x : ByteArray => [Value.string x])⟩) :: R, φ⟩) (fun ⟨l317, A318, c319⟩ => m_name_Parse_j2 l317 = some r ∧ l317.length ≤ c319) ?_ (fun ⟨l317, A318, c319⟩ u ⟨hm, hc319⟩ => ?_)
 ·
  refine c_seq <| c_region <| g_v rfl r_move <| g_v rfl (r_lenL Tryd.underlying35 rfl) <| g_v rfl (r_gtr rfl rfl) <| g_nil <| d_then ?_
  refine c_cond rfl (fun h325 => ?_) (fun h325 => ?_)
  ·
   replace hm := ite_t hm (of_decide_eq_true h325)
   refine c_region <| g_v rfl r_move <| g_v rfl r_move <| g_v rfl (r_textE Tryd.underlying35 Tryd.underlying5 Tryd.underlying9 rfl (fun W hS => rowCl (tag := 22) rfl W hS)) ?_
   refine g_e rfl (e_lit (tag := 100660) (l := [strOfNums l306]) (enc := (fun x : ByteArray => [Value.string x])) (sz := 1) rfl Tryd.underlying30 (lit9_3 _) rfl rfl (fun _ => rfl)) (fun g326 _ => ?_)
   replace hm := bnd hm
   obtain ⟨l327, hl327, hm⟩ := hm
   refine g_e rfl (e_appR (enc := (fun x : ByteArray => [Value.string x])) (l := l309) (l1 := [strOfNums l306]) (l2 := l327) (tag := 18) Tryd.underlying30 inf9_4 rfl (by decide) (by decide) (fun _ => rfl) (fun _ => rfl) rfl hc311 rfl rfl (fun W hS => rowCl (tag := 100660) rfl W hS) hl327) (fun ⟨A328, c329⟩ hc329 => ?_)
   refine g_v rfl r_assign <| g_nil ?_
   exact d_round (l327, A328, c329) ⟨hm, hc329⟩ Nat.zero_lt_one ⟨rfl, trivial⟩ (fun W h => ((h.dropR (t := 100660) rfl).dropR (t := 22) rfl).phi (fun W hφ => hφ))
  replace hm := ite_f hm (of_decide_eq_false h325)
  refine c_skip ?_
  exact d_round (l309, A310, c311) ⟨hm, hc311⟩ Nat.zero_lt_one ⟨rfl, trivial⟩ (fun W h => (h.dropR (t := 22) rfl).phi (fun W hφ => hφ))
 unfold m_name_Parse_j2 at hm
 refine d_flat [(4, .slice A318 l317.length c319)] ⟨rfl, trivial⟩ (fun u => ?_)
 refine d_sta ⟨w0, M, H, (18, ⟨.slice A318 l317.length c319, 9, 1, l317.length, l317.flatMap (fun x : ByteArray => [Value.string x])⟩) :: R, φ⟩ (fun _ h => h) <| d_then <| c_seq <| c_seq <| c_region <| g_v rfl r_move <| g_v rfl (r_lenL Tryd.underlying30 rfl) <| g_v rfl (r_eql rfl rfl) <| g_nil <| d_then ?_
 refine c_cond rfl (fun h320 => ?_) (fun h320 => ?_)
 ·
  replace hm := ite_t hm (of_decide_eq_true h320)
  refine c_seq <| c_region <| g_v rfl r_assign <| g_v rfl r_assign <| g_nil <| d_then <| c_ret <| d_ret_then ?_
  cases hm
  exact d_retC () Tryd.results6 (res_tmp (res_tmp (res_nil rfl))) trivial (fun W h => ok_pre (H1 := []) (R1 := [_]) h (fun W hφ => hφ)) (.inr rfl)
 replace hm := ite_f hm (of_decide_eq_false h320)
 refine c_skip <| d_then <| c_seq <| c_region <| g_v rfl r_move ?_
 replace hm := bnd hm
 obtain ⟨⟨x321, x322⟩, hx323, hm⟩ := hm
 refine g_cn ⟨w0, M, _, _, φ⟩ (fun _ h => h) Tryd.call10 rfl rfl (c_name_Make l317 A318 c319 hc319 (fun W hS => rowCl (tag := 18) rfl W hS) _ hx323) (fun _ _ => ?_)
 refine g_v rfl (r_extract rfl rfl) <| g_v rfl (r_extract rfl rfl) <| g_v rfl r_assign <| g_v rfl r_assign <| g_nil <| d_then ?_
 refine c_flat [(2, .string x321), (3, .int .i64 x322)] ⟨rfl, rfl, trivial⟩ (fun u => ?_)
 refine c_ret ?_
 cases hm
 exact d_retC () Tryd.results6 (res_tmp (res_tmp (res_nil rfl))) trivial (fun W h => ok_pre (H1 := []) (R1 := [_]) h (fun W hφ => hφ)) (.inr rfl)
noncomputable def m_name_Labels (p0 : ByteArray) : Option ((List ByteArray) × Int) :=
  (eachM p0).bind fun _ =>
  if (eachP p0).2 ≠ w64 ((p0.size : Int) - 1) then
    some (([] : List ByteArray), 10)
  else
    if (eachP p0).2 < 0 then
      some (([] : List ByteArray), 10)
    else
      if 255 < (p0.size : Int) then
        some (([] : List ByteArray), 11)
      else
        some (((eachP p0).1.map Prod.snd), 0)
theorem c_name_Labels {w0 : World} {M : Nat → Prop} {H : List (Nat × Nat × Obj)} {R : List (Nat × Row)} {φ : World → Prop} (p0 : ByteArray) (r : (List ByteArray) × Int) (hm : m_name_Labels p0 = some r) :
    Cn Tryd.prog 11 #[.string p0] ⟨w0, M, H, R, φ⟩ (fun x : Option Addr × Nat => .tuple #[.slice x.1 r.1.length x.2, .int .i64 r.2]) (fun x => r.1.length ≤ x.2) (fun x => ⟨w0, M, H, (2000, ⟨.slice x.1 r.1.length x.2, 9, 1, r.1.length, r.1.flatMap (fun x : ByteArray => [Value.string x])⟩) :: R, φ⟩) := by
 unfold m_name_Labels at hm
 refine cn_introM (fn := Tryd.f11) (N := 31) Tryd.func11 rfl Tryd.ntmps11 rfl <| c_seq <| c_region <| g_v rfl r_assign <| g_v rfl r_assign <| g_nil <| d_then <| c_seq <| c_region ?_
 refine g_e rfl (e_alloc 100040 Tryd.zeroValue30) (fun g1 _ => ?_)
 refine g_nil <| d_then <| c_seq <| c_region ?_
 refine g_e rfl (e_alloc 100050 Tryd.zeroValue3) (fun g2 _ => ?_)
 refine g_storeL (tag := 100050) rfl rfl rfl rfl Tryd.sizeOf3 rfl rfl <| g_nil <| d_then <| c_seq <| c_seq <| c_region <| g_v rfl r_move ?_
 refine g_cn ⟨w0, M, _, _, φ⟩ (fun _ h => h) Tryd.call22 rfl rfl (c_each p0 g2) (fun ⟨g3, g4⟩ _ => ?_)
 refine g_sta _ (fun W h => ok_front (t := 3000) (t' := 100095) (ok_front (t := 3001) (t' := 100096) h rfl) rfl) <| g_nil <| d_then <| c_block <| c_sta _ (fun W h => nilR (ok_front (t := 100050) (t' := 0) (ok_front (t := 100095) (t' := 1) (ok_front (t := 100096) (t' := 2) (ok_front (t := 100040) (t' := 3) h rfl) rfl) rfl) rfl) 4 9 1) ?_
 replace hm := bnd hm
 obtain ⟨_, hz8, hm⟩ := hm
 replace hz8 := (eachM_some hz8).1
 refine c_collect Prod.snd (fun x : ByteArray => Value.string x) rfl rfl hz8 (.inl rfl) (.inl ⟨rfl, fun _ => rfl⟩) Tryd.underlying30 inf9_4 rfl (by decide) (by decide) (fun _ => lit9_3 _) (fun _ => rfl) Tryd.sizeOf30 Tryd.isAgg30 rfl rfl rfl (fun A6 c7 g5 hc7 => ?_)
 refine d_sta _ (fun W h => (ok_front (t := 0) (t' := 100050) (ok_front (t := 1) (t' := 100095) (ok_front (t := 2) (t' := 100096) (ok_front (t := 3) (t' := 100040) h rfl) rfl) rfl) rfl)) <| d_normal_block <| d_then <| c_seq <| c_block <| c_seq <| c_region <| g_v rfl (r_load (tag := 100050) rfl rfl rfl Tryd.isAgg3) <| g_v rfl r_move <| g_v rfl (r_len Tryd.underlying9 rfl) ?_
 refine g_v rfl (r_sub rfl rfl rfl) <| g_v rfl (r_neq rfl rfl) <| g_v rfl r_move <| g_sta ⟨w0, M, (100050, g2, .cells #[.int .i64 ((eachP p0).2)] 3 (0, 0)) :: (100095, g3, .cells #[.pointer (some ⟨g2, 0, none⟩)] 49 (0, 0)) :: (100096, g4, .cells #[.string p0] 9 (0, 0)) :: (100040, g1, .cells #[.slice A6 ((eachP p0).1.map Prod.snd).length c7] 30 (0, 0)) :: (5, g5, .deferred (some [])) :: H, (4, ⟨.slice A6 ((eachP p0).1.map Prod.snd).length c7, 9, 1, ((eachP p0).1.map Prod.snd).length, ((eachP p0).1.map Prod.snd).flatMap (fun x : ByteArray => [Value.string x])⟩) :: R, φ⟩ (fun _ h => h) ?_
 refine g_if rfl rfl rfl rfl rfl (fun h9 => ?_) (fun h9 => ?_)
 ·
  replace hm := ite_f hm (of_decide_eq_false h9)
  refine g_v rfl (r_load (tag := 100050) rfl rfl rfl Tryd.isAgg3) <| g_do rfl rfl rfl rfl rfl h9 <| g_v rfl (r_lss rfl rfl) <| g_v rfl (r_pick0 rfl h9) <| g_v rfl r_assign <| g_nil <| d_then ?_
  refine c_flat [(0, .string p0), (4, .pointer (some ⟨g1, 0, none⟩)), (16, .bool (decide ((eachP p0).2 < 0)))] ⟨rfl, rfl, rfl, trivial⟩ (fun u => ?_)
  refine c_cond rfl (fun h10 => ?_) (fun h10 => ?_)
  ·
   replace hm := ite_t hm (of_decide_eq_true h10)
   refine c_seq <| c_region <| g_v rfl r_assign <| g_v rfl r_assign <| g_nil <| d_then <| c_ret <| d_ret_block <| d_ret_then ?_
   cases hm
   refine d_sta _ (fun W h => nilR h 11 9 1) <| d_sta _ (fun W h => ok_frontR (t := 11) (t' := 2000) h rfl) ?_
   exact d_retM (tD := 5) (none, 0) Tryd.results11 (res_tmp (res_tmp (res_nil rfl))) (Nat.le_refl 0) rfl (by simp) (fun W h => (((((h.dropR (t := 4) rfl).dropH (t := 100050) rfl).dropH (t := 100095) rfl).dropH (t := 100096) rfl).dropH (t := 100040) rfl).phi (fun W hφ => hφ)) (.inr rfl)
  replace hm := ite_f hm (of_decide_eq_false h10)
  refine c_seq <| c_region <| g_v rfl r_move <| g_v rfl (r_len Tryd.underlying9 rfl) <| g_v rfl (r_gtr rfl rfl) <| g_v rfl r_assign <| g_nil <| d_then ?_
  refine c_cond rfl (fun h11 => ?_) (fun h11 => ?_)
  ·
   replace hm := ite_t hm (of_decide_eq_true h11)
   refine c_seq <| c_region <| g_v rfl r_assign <| g_v rfl r_assign <| g_nil <| d_then <| c_ret <| d_ret_block <| d_ret_then ?_
   cases hm
   refine d_sta _ (fun W h => nilR h 12 9 1) <| d_sta _ (fun W h => ok_frontR (t := 12) (t' := 2000) h rfl) ?_
   exact d_retM (tD := 5) (none, 0) Tryd.results11 (res_tmp (res_tmp (res_nil rfl))) (Nat.le_refl 0) rfl (by simp) (fun W h => (((((h.dropR (t := 4) rfl).dropH (t := 100050) rfl).dropH (t := 100095) rfl).dropH (t := 100096) rfl).dropH (t := 100040) rfl).phi (fun W hφ => hφ)) (.inr rfl)
  replace hm := ite_f hm (of_decide_eq_false h11)
  refine c_skip <| d_normal_block <| d_then <| c_seq <| c_region <| g_v rfl (r_load (tag := 100040) rfl rfl rfl Tryd.isAgg30) <| g_v rfl r_assign <| g_v rfl r_assign <| g_nil <| d_then ?_
  refine c_ret ?_
  cases hm
  refine d_sta _ (fun W h => ok_frontR (t := 4) (t' := 2000) h rfl) ?_
  exact d_retM (tD := 5) (A6, c7) Tryd.results11 (res_tmp (res_tmp (res_nil rfl))) hc7 rfl (by simp) (fun W h => ((((h.dropH (t := 100050) rfl).dropH (t := 100095) rfl).dropH (t := 100096) rfl).dropH (t := 100040) rfl).phi (fun W hφ => hφ)) (.inr rfl)
 replace hm := ite_t hm (of_decide_eq_true h9)
 refine g_no rfl rfl rfl rfl rfl h9 <| g_v rfl (r_pick1 rfl h9) <| g_v rfl r_assign <| g_nil <| d_then ?_
 refine c_flat [(0, .string p0), (4, .pointer (some ⟨g1, 0, none⟩)), (16, .bool true)] ⟨rfl, rfl, rfl, trivial⟩ (fun u => ?_)
 refine c_cond1 rfl rfl <| c_seq <| c_region <| g_v rfl r_assign <| g_v rfl r_assign <| g_nil <| d_then <| c_ret <| d_ret_block <| d_ret_then ?_
 cases hm
 refine d_sta _ (fun W h => nilR h 13 9 1) <| d_sta _ (fun W h => ok_frontR (t := 13) (t' := 2000) h rfl) ?_
 exact d_retM (tD := 5) (none, 0) Tryd.results11 (res_tmp (res_tmp (res_nil rfl))) (Nat.le_refl 0) rfl (by simp) (fun W h => (((((h.dropR (t := 4) rfl).dropH (t := 100050) rfl).dropH (t := 100095) rfl).dropH (t := 100096) rfl).dropH (t := 100040) rfl).phi (fun W hφ => hφ)) (.inr rfl)
noncomputable def m_name_Text_j1  (l790 : List Int) : Option ByteArray :=
  (bldS l790).bind fun s794 =>
  some s794
noncomputable def m_name_Text_j3 (i921 : Int) (l1158 : List Int) : Option (((List Int) × Int) ⊕ (List Int)) :=
  (app 1 l1158 [46]).bind fun l1162 =>
  some (.inl (l1162, w64 (i921 + 1)))
noncomputable def m_name_Text_s4 (x1048 : ByteArray) (l1216 : List Int) (i1219 : Int) : Option (((List Int) × Int) ⊕ (List Int)) :=
  if i1219 < (x1048.size : Int) then
    (sat_ x1048 i1219).bind fun b1273 =>
    if b1273 = 46 then
      (app 1 l1216 [92]).bind fun l1315 =>
      (app 1 l1315 [b1273]).bind fun l1318 =>
      some (.inl (l1318, w64 (i1219 + 1)))
    else
      if b1273 = 92 then
        (app 1 l1216 [92]).bind fun l1276 =>
        (app 1 l1276 [b1273]).bind fun l1279 =>
        some (.inl (l1279, w64 (i1219 + 1)))
      else
        if b1273 < 33 then
          (app 1 l1216 [92]).bind fun l1302 =>
          (app 1 l1302 [IntKind.u8.wrap (48 + (IntKind.u8.wrap (b1273.tdiv 100)))]).bind fun l1305 =>
          (app 1 l1305 [IntKind.u8.wrap (48 + ((IntKind.u8.wrap (b1273.tdiv 10)).tmod 10))]).bind fun l1308 =>
          (app 1 l1308 [IntKind.u8.wrap (48 + (b1273.tmod 10))]).bind fun l1311 =>
          some (.inl (l1311, w64 (i1219 + 1)))
        else
          if 126 < b1273 then
            (app 1 l1216 [92]).bind fun l1285 =>
            (app 1 l1285 [IntKind.u8.wrap (48 + (IntKind.u8.wrap (b1273.tdiv 100)))]).bind fun l1288 =>
            (app 1 l1288 [IntKind.u8.wrap (48 + ((IntKind.u8.wrap (b1273.tdiv 10)).tmod 10))]).bind fun l1291 =>
            (app 1 l1291 [IntKind.u8.wrap (48 + (b1273.tmod 10))]).bind fun l1294 =>
            some (.inl (l1294, w64 (i1219 + 1)))
          else
            (app 1 l1216 [b1273]).bind fun l1298 =>
            some (.inl (l1298, w64 (i1219 + 1)))
  else
    some (.inr l1216)
noncomputable def m_name_Text_s2 (x1 : List ByteArray) (l918 : List Int) (i921 : Int) : Option (((List Int) × Int) ⊕ (List Int)) :=
  if i921 < (x1.length : Int) then
    (at_ x1 i921).bind fun x1048 =>
    (loop (fun s => m_name_Text_s4 x1048 s.1 s.2) (l918, 0)).bind fun e => m_name_Text_j3 i921 e
  else
    some (.inr l918)
noncomputable def m_name_Text (p0 : ByteArray) : Option ByteArray :=
  (m_name_Labels p0).bind fun (z7 : (List ByteArray) × Int) =>
  if z7.2 ≠ 0 then
    some (⟨#[]⟩ : ByteArray)
  else
    if (z7.1.length : Int) = 0 then
      some (⟨#[46]⟩ : ByteArray)
    else
      (loop (fun s => m_name_Text_s2 z7.1 s.1 s.2) (([] : List Int), 0)).bind fun e => m_name_Text_j1 e
theorem c_name_Text {w0 : World} {M : Nat → Prop} {H : List (Nat × Nat × Obj)} {R : List (Nat × Row)} {φ : World → Prop} (p0 : ByteArray) (r : ByteArray) (hm : m_name_Text p0 = some r) :
    Cn Tryd.prog 8 #[.string p0] ⟨w0, M, H, R, φ⟩ (fun x : Unit => .string r) (fun x => True) (fun x => ⟨w0, M, H, R, φ⟩) := by
 unfold m_name_Text at hm
 refine cn_intro (fn := Tryd.f8) (N := 71) Tryd.func8 rfl Tryd.ntmps8 rfl <| c_seq <| c_region <| g_v rfl r_assign <| g_nil <| d_then <| c_seq <| c_region <| g_v rfl r_move ?_
 replace hm := bnd hm
 obtain ⟨⟨x1, x2⟩, hx3, hm⟩ := hm
 refine g_cn ⟨w0, M, _, _, φ⟩ (fun _ h => h) Tryd.call11 rfl rfl (c_name_Labels p0 _ hx3) (fun ⟨A4, c5⟩ hc5 => ?_)
 refine g_sta _ (fun W h => (ok_frontR (t := 2000) (t' := 100120) h rfl)) <| g_v rfl r_move <| g_v rfl (r_extract rfl rfl) <| g_v rfl (r_extract rfl rfl) <| g_v rfl r_assign <| g_v rfl r_assign <| g_nil <| d_then <| c_seq <| c_seq ?_
 refine c_region <| g_v rfl r_move <| g_v rfl (r_neq rfl rfl) <| g_nil <| d_then ?_
 refine c_flat [(3, .slice A4 x1.length c5), (16, .bool (decide (x2 ≠ 0)))] ⟨rfl, rfl, trivial⟩ (fun u => ?_)
 refine c_sta ⟨w0, M, H, (100120, ⟨.slice A4 x1.length c5, 9, 1, x1.length, x1.flatMap (fun x : ByteArray => [Value.string x])⟩) :: R, φ⟩ (fun _ h => h) ?_
 refine c_cond rfl (fun h8 => ?_) (fun h8 => ?_)
 ·
  replace hm := ite_t hm (of_decide_eq_true h8)
  refine c_seq <| c_region <| g_v rfl r_assign <| g_nil <| d_then <| c_ret <| d_ret_then ?_
  cases hm
  exact d_retC () Tryd.results8 (res_tmp (res_nil rfl)) trivial (fun W h => ok_pre (H1 := []) (R1 := [_]) h (fun W hφ => hφ)) (.inr rfl)
 replace hm := ite_f hm (of_decide_eq_false h8)
 refine c_skip <| d_then <| c_seq <| c_seq <| c_region <| g_v rfl r_move <| g_v rfl (r_lenL Tryd.underlying30 rfl) <| g_v rfl (r_eql rfl rfl) <| g_nil <| d_then ?_
 refine c_cond rfl (fun h9 => ?_) (fun h9 => ?_)
 ·
  replace hm := ite_t hm (of_decide_eq_true h9)
  refine c_seq <| c_region <| g_v rfl r_assign <| g_nil <| d_then <| c_ret <| d_ret_then ?_
  cases hm
  exact d_retC () Tryd.results8 (res_tmp (res_nil rfl)) trivial (fun W h => ok_pre (H1 := []) (R1 := [_]) h (fun W hφ => hφ)) (.inr rfl)
 replace hm := ite_f hm (of_decide_eq_false h9)
 refine c_skip <| d_then <| c_seq <| c_region ?_
 refine g_e rfl (e_alloc 100050 Tryd.zeroValue41) (fun g10 _ => ?_)
 refine g_nil <| d_then <| c_seq <| c_seq <| c_region <| g_v rfl r_move <| g_v rfl (r_lenL Tryd.underlying30 rfl) <| g_v rfl r_move <| g_nil <| d_then ?_
 refine c_sta _ (fun W h => nilR h 19 5 1) ?_
 refine c_cut (ι := (List Int) × Option Addr × Nat × Option Addr) [5] (fun ⟨l790, A791, c792, A793⟩ => []) (fun ⟨l790, A791, c792, A793⟩ => ⟨w0, M, (100050, g10, .cells #[.pointer A793, .slice A791 l790.length c792] 41 (0, 0)) :: H, (19, ⟨.slice A791 l790.length c792, 5, 1, l790.length, l790.flatMap (fun x : Int => [Value.int .u8 x])⟩) :: R, φ⟩) (fun ⟨l790, A791, c792, A793⟩ => m_name_Text_j1 l790 = some r ∧ l790.length ≤ c792 ∧ (A793 = none ∨ A793 = some ⟨g10, 0, none⟩)) ?_ (fun ⟨l790, A791, c792, A793⟩ u ⟨hm, hc792, hA793⟩ => ?_)
 ·
  refine c_block ?_
  replace hm := bnd hm
  obtain ⟨out2, hl2, hr2⟩ := hm
  obtain ⟨n1046', hl2⟩ := loop_lp hl2
  refine c_loopU (ι := Nat × (List Int) × Int × Option Addr × Nat × Option Addr) [5, 20, 21, 22] (fun ⟨n1046, l918, i921, A919, c920, A922⟩ => [(22, .int .i64 i921)]) (fun ⟨n1046, l918, i921, A919, c920, A922⟩ => ⟨w0, M, (100050, g10, .cells #[.pointer A922, .slice A919 l918.length c920] 41 (0, 0)) :: H, (19, ⟨.slice A919 l918.length c920, 5, 1, l918.length, l918.flatMap (fun x : Int => [Value.int .u8 x])⟩) :: (100120, ⟨.slice A4 x1.length c5, 9, 1, x1.length, x1.flatMap (fun x : ByteArray => [Value.string x])⟩) :: R, φ⟩) (fun ⟨n1046, l918, i921, A919, c920, A922⟩ => Lp (fun s => m_name_Text_s2 x1 s.1 s.2) n1046 (l918, i921) out2 ∧ l918.length ≤ c920 ∧ (A922 = none ∨ A922 = some ⟨g10, 0, none⟩)) (fun ⟨n1046, l918, i921, A919, c920, A922⟩ => n1046) (n1046', ([] : List Int), 0, none, 0, none) ⟨hl2, (Nat.le_refl 0), (.inl rfl)⟩ ⟨rfl, rfl, rfl, rfl, trivial⟩ (fun W h => h.phi (fun W hφ => hφ)) (fun ⟨n1046, l918, i921, A919, c920, A922⟩ u ⟨hlp, hc920, hA922⟩ => ?_)
  obtain ⟨o2, hm, hnx2⟩ := lp_step hlp
  clear hlp
  replace hm : m_name_Text_s2 x1 l918 i921 = some o2 := hm
  unfold m_name_Text_s2 at hm
  refine c_flat [(5, .pointer (some ⟨g10, 0, none⟩)), (20, .slice A4 x1.length c5), (21, .int .i64 (x1.length : Int)), (22, .int .i64 i921)] ⟨rfl, rfl, rfl, rfl, trivial⟩ (fun u => ?_)
  refine c_sta ⟨w0, M, (100050, g10, .cells #[.pointer A922, .slice A919 l918.length c920] 41 (0, 0)) :: H, (19, ⟨.slice A919 l918.length c920, 5, 1, l918.length, l918.flatMap (fun x : Int => [Value.int .u8 x])⟩) :: (100120, ⟨.slice A4 x1.length c5, 9, 1, x1.length, x1.flatMap (fun x : ByteArray => [Value.string x])⟩) :: R, φ⟩ (fun _ h => h) <| c_seq <| c_region <| g_v rfl (r_lss rfl rfl) <| g_nil <| d_then <| c_seq ?_
  refine c_cond rfl (fun h1047 => ?_) (fun h1047 => ?_)
  ·
   replace hm := ite_t hm (of_decide_eq_true h1047)
   refine c_skip <| d_then <| c_seq <| c_block <| c_seq <| c_region ?_
   replace hm := bnd hm
   obtain ⟨x1048, hx1048, hm⟩ := hm
   refine g_know _ (fun W hS => cl_at (p := (Sta.ok ⟨w0, M, (100050, g10, .cells #[.pointer A922, .slice A919 l918.length c920] 41 (0, 0)) :: H, (19, ⟨.slice A919 l918.length c920, 5, 1, l918.length, l918.flatMap (fun x : Int => [Value.int .u8 x])⟩) :: (100120, ⟨.slice A4 x1.length c5, 9, 1, x1.length, x1.flatMap (fun x : ByteArray => [Value.string x])⟩) :: R, φ⟩)) (sz := 1) (fun _ => rfl) (by decide) hS (fun W hS => rowCl (S := ⟨w0, M, (100050, g10, .cells #[.pointer A922, .slice A919 l918.length c920] 41 (0, 0)) :: H, (19, ⟨.slice A919 l918.length c920, 5, 1, l918.length, l918.flatMap (fun x : Int => [Value.int .u8 x])⟩) :: (100120, ⟨.slice A4 x1.length c5, 9, 1, x1.length, x1.flatMap (fun x : ByteArray => [Value.string x])⟩) :: R, φ⟩) (tag := 100120) rfl W hS) hx1048) ?_
   rintro ⟨ad1049, hA1051, f1050⟩
   refine g_v rfl (r_ix Tryd.underlying30 Tryd.sizeOf9 rfl hA1051 rfl hx1048) <| g_v rfl (r_ld rfl Tryd.isAgg9 (fun W hS => Cl.head (f1050 W hS))) <| g_v rfl r_assign <| g_nil <| d_then <| c_seq <| c_seq <| c_region <| g_v rfl r_move <| g_v rfl (r_len Tryd.underlying9 rfl) ?_
   refine g_v rfl r_move <| g_nil <| d_then ?_
   refine c_cut (ι := (List Int) × Option Addr × Nat × Option Addr) [5, 20, 21, 22] (fun ⟨l1158, A1159, c1160, A1161⟩ => []) (fun ⟨l1158, A1159, c1160, A1161⟩ => ⟨w0, M, (100050, g10, .cells #[.pointer A1161, .slice A1159 l1158.length c1160] 41 (0, 0)) :: H, (19, ⟨.slice A1159 l1158.length c1160, 5, 1, l1158.length, l1158.flatMap (fun x : Int => [Value.int .u8 x])⟩) :: (100120, ⟨.slice A4 x1.length c5, 9, 1, x1.length, x1.flatMap (fun x : ByteArray => [Value.string x])⟩) :: R, φ⟩) (fun ⟨l1158, A1159, c1160, A1161⟩ => m_name_Text_j3 i921 l1158 = some o2 ∧ l1158.length ≤ c1160 ∧ (A1161 = none ∨ A1161 = some ⟨g10, 0, none⟩)) ?_ (fun ⟨l1158, A1159, c1160, A1161⟩ u ⟨hm, hc1160, hA1161⟩ => ?_)
   ·
    refine c_block ?_
    replace hm := bnd hm
    obtain ⟨out4, hl4, hr4⟩ := hm
    obtain ⟨n1271', hl4⟩ := loop_lp hl4
    refine c_loopU (ι := Nat × (List Int) × Int × Option Addr × Nat × Option Addr) [5, 7, 20, 21, 22, 27, 28] (fun ⟨n1271, l1216, i1219, A1217, c1218, A1220⟩ => [(28, .int .i64 i1219)]) (fun ⟨n1271, l1216, i1219, A1217, c1218, A1220⟩ => ⟨w0, M, (100050, g10, .cells #[.pointer A1220, .slice A1217 l1216.length c1218] 41 (0, 0)) :: H, (19, ⟨.slice A1217 l1216.length c1218, 5, 1, l1216.length, l1216.flatMap (fun x : Int => [Value.int .u8 x])⟩) :: (100120, ⟨.slice A4 x1.length c5, 9, 1, x1.length, x1.flatMap (fun x : ByteArray => [Value.string x])⟩) :: R, φ⟩) (fun ⟨n1271, l1216, i1219, A1217, c1218, A1220⟩ => Lp (fun s => m_name_Text_s4 x1048 s.1 s.2) n1271 (l1216, i1219) out4 ∧ l1216.length ≤ c1218 ∧ (A1220 = none ∨ A1220 = some ⟨g10, 0, none⟩)) (fun ⟨n1271, l1216, i1219, A1217, c1218, A1220⟩ => n1271) (n1271', l918, 0, A919, c920, A922) ⟨hl4, hc920, hA922⟩ ⟨rfl, rfl, rfl, rfl, rfl, rfl, rfl, trivial⟩ (fun W h => h.phi (fun W hφ => hφ)) (fun ⟨n1271, l1216, i1219, A1217, c1218, A1220⟩ u ⟨hlp, hc1218, hA1220⟩ => ?_)
    obtain ⟨o4, hm, hnx4⟩ := lp_step hlp
    clear hlp
    replace hm : m_name_Text_s4 x1048 l1216 i1219 = some o4 := hm
    unfold m_name_Text_s4 at hm
    refine c_flat [(5, .pointer (some ⟨g10, 0, none⟩)), (7, .string x1048), (20, .slice A4 x1.length c5), (21, .int .i64 (x1.length : Int)), (22, .int .i64 i921), (27, .int .i64 (x1048.size : Int)), (28, .int .i64 i1219)] ⟨rfl, rfl, rfl, rfl, rfl, rfl, rfl, trivial⟩ (fun u => ?_)
    refine c_sta ⟨w0, M, (100050, g10, .cells #[.pointer A1220, .slice A1217 l1216.length c1218] 41 (0, 0)) :: H, (19, ⟨.slice A1217 l1216.length c1218, 5, 1, l1216.length, l1216.flatMap (fun x : Int => [Value.int .u8 x])⟩) :: (100120, ⟨.slice A4 x1.length c5, 9, 1, x1.length, x1.flatMap (fun x : ByteArray => [Value.string x])⟩) :: R, φ⟩ (fun _ h => h) <| c_seq <| c_region <| g_v rfl (r_lss rfl rfl) <| g_nil <| d_then <| c_seq ?_
    refine c_cond rfl (fun h1272 => ?_) (fun h1272 => ?_)
    ·
     replace hm := ite_t hm (of_decide_eq_true h1272)
     refine c_skip <| d_then <| c_seq <| c_block <| c_seq <| c_region <| g_v rfl r_move <| g_v rfl r_assign <| g_nil <| d_then ?_
     refine c_seq <| c_region <| g_v rfl r_move <| g_v rfl r_move ?_
     replace hm := bnd hm
     obtain ⟨b1273, hb1273, hm⟩ := hm
     refine g_v rfl (r_sat Tryd.underlying9 rfl rfl hb1273) <| g_v rfl r_assign <| g_nil <| d_then <| c_block <| c_seq <| c_region <| g_v rfl r_move <| g_v rfl (r_eql rfl rfl) <| g_v rfl r_move ?_
     refine g_if rfl rfl rfl rfl rfl (fun h1274 => ?_) (fun h1274 => ?_)
     ·
      replace hm := ite_f hm (of_decide_eq_false h1274)
      refine g_v rfl r_move <| g_do rfl rfl rfl rfl rfl h1274 <| g_v rfl (r_eql rfl rfl) <| g_v rfl (r_pick0 rfl h1274) <| g_v rfl r_assign <| g_nil <| d_then ?_
      refine c_flat [(5, .pointer (some ⟨g10, 0, none⟩)), (7, .string x1048), (9, .int .u8 b1273), (20, .slice A4 x1.length c5), (21, .int .i64 (x1.length : Int)), (22, .int .i64 i921), (27, .int .i64 (x1048.size : Int)), (28, .int .i64 i1219), (36, .bool (decide (b1273 = 92)))] ⟨rfl, rfl, rfl, rfl, rfl, rfl, rfl, rfl, rfl, trivial⟩ (fun u => ?_)
      refine c_cond rfl (fun h1275 => ?_) (fun h1275 => ?_)
      ·
       replace hm := ite_t hm (of_decide_eq_true h1275)
       refine c_seq <| c_region ?_
       replace hm := bnd hm
       obtain ⟨l1276, hl1276, hm⟩ := hm
       refine g_cn ⟨w0, M, (1000, g10, .cells #[.pointer A1220, .slice A1217 l1216.length c1218] 41 (0, 0)) :: H, (1000, ⟨.slice A1217 l1216.length c1218, 5, 1, l1216.length, l1216.flatMap (fun x : Int => [Value.int .u8 x])⟩) :: (100120, ⟨.slice A4 x1.length c5, 9, 1, x1.length, x1.flatMap (fun x : ByteArray => [Value.string x])⟩) :: R, φ⟩ (fun W h => ok_front (t := 100050) (t' := 1000) (ok_frontR (t := 19) (t' := 1000) h rfl) rfl) Tryd.call18 rfl rfl (c_bld_WriteByte (A0 := A1220) hA1220 hc1218 hl1276) (fun ⟨A1277, c1278⟩ hc1278 => ?_)
       refine g_sta _ (fun W h => ok_front (t := 1000) (t' := 100050) (ok_frontR (t := 1000) (t' := 19) h rfl) rfl) <| g_nil <| d_then <| c_region <| g_v rfl r_move ?_
       replace hm := bnd hm
       obtain ⟨l1279, hl1279, hm⟩ := hm
       refine g_cn ⟨w0, M, (1000, g10, .cells #[.pointer (some ⟨g10, 0, none⟩), .slice A1277 l1276.length c1278] 41 (0, 0)) :: H, (1000, ⟨.slice A1277 l1276.length c1278, 5, 1, l1276.length, l1276.flatMap (fun x : Int => [Value.int .u8 x])⟩) :: (100120, ⟨.slice A4 x1.length c5, 9, 1, x1.length, x1.flatMap (fun x : ByteArray => [Value.string x])⟩) :: R, φ⟩ (fun W h => ok_front (t := 100050) (t' := 1000) (ok_frontR (t := 19) (t' := 1000) h rfl) rfl) Tryd.call18 rfl rfl (c_bld_WriteByte (A0 := some ⟨g10, 0, none⟩) (.inr rfl) hc1278 hl1279) (fun ⟨A1280, c1281⟩ hc1281 => ?_)
       refine g_sta _ (fun W h => ok_front (t := 1000) (t' := 100050) (ok_frontR (t := 1000) (t' := 19) h rfl) rfl) <| g_nil <| d_normal_block <| d_normal_block <| d_then <| c_region <| g_v rfl (r_add rfl rfl rfl) <| g_v rfl r_move <| g_nil ?_
       obtain ⟨n1282, hn1282, hlp⟩ := nx_inl hm hnx4
       exact d_round (n1282, l1279, w64 (i1219 + 1), A1280, c1281, some ⟨g10, 0, none⟩) ⟨hlp, hc1281, (.inr rfl)⟩ hn1282 ⟨rfl, rfl, rfl, rfl, rfl, rfl, rfl, trivial⟩ (fun W h => h.phi (fun W hφ => hφ))
      replace hm := ite_f hm (of_decide_eq_false h1275)
      refine c_seq <| c_region <| g_v rfl r_move <| g_v rfl (r_lss rfl rfl) <| g_v rfl r_move ?_
      refine g_if rfl rfl rfl rfl rfl (fun h1283 => ?_) (fun h1283 => ?_)
      ·
       replace hm := ite_f hm (of_decide_eq_false h1283)
       refine g_v rfl r_move <| g_do rfl rfl rfl rfl rfl h1283 <| g_v rfl (r_gtr rfl rfl) <| g_v rfl (r_pick0 rfl h1283) <| g_v rfl r_assign <| g_nil <| d_then ?_
       refine c_cond rfl (fun h1284 => ?_) (fun h1284 => ?_)
       ·
        replace hm := ite_t hm (of_decide_eq_true h1284)
        refine c_seq <| c_region ?_
        replace hm := bnd hm
        obtain ⟨l1285, hl1285, hm⟩ := hm
        refine g_cn ⟨w0, M, (1000, g10, .cells #[.pointer A1220, .slice A1217 l1216.length c1218] 41 (0, 0)) :: H, (1000, ⟨.slice A1217 l1216.length c1218, 5, 1, l1216.length, l1216.flatMap (fun x : Int => [Value.int .u8 x])⟩) :: (100120, ⟨.slice A4 x1.length c5, 9, 1, x1.length, x1.flatMap (fun x : ByteArray => [Value.string x])⟩) :: R, φ⟩ (fun W h => ok_front (t := 100050) (t' := 1000) (ok_frontR (t := 19) (t' := 1000) h rfl) rfl) Tryd.call18 rfl rfl (c_bld_WriteByte (A0 := A1220) hA1220 hc1218 hl1285) (fun ⟨A1286, c1287⟩ hc1287 => ?_)
        refine g_sta _ (fun W h => ok_front (t := 1000) (t' := 100050) (ok_frontR (t := 1000) (t' := 19) h rfl) rfl) <| g_nil <| d_then <| c_seq <| c_region <| g_v rfl r_move <| g_v rfl (r_quo rfl rfl (by decide) rfl) <| g_v rfl (r_add rfl rfl rfl) ?_
        replace hm := bnd hm
        obtain ⟨l1288, hl1288, hm⟩ := hm
        refine g_cn ⟨w0, M, (1000, g10, .cells #[.pointer (some ⟨g10, 0, none⟩), .slice A1286 l1285.length c1287] 41 (0, 0)) :: H, (1000, ⟨.slice A1286 l1285.length c1287, 5, 1, l1285.length, l1285.flatMap (fun x : Int => [Value.int .u8 x])⟩) :: (100120, ⟨.slice A4 x1.length c5, 9, 1, x1.length, x1.flatMap (fun x : ByteArray => [Value.string x])⟩) :: R, φ⟩ (fun W h => ok_front (t := 100050) (t' := 1000) (ok_frontR (t := 19) (t' := 1000) h rfl) rfl) Tryd.call18 rfl rfl (c_bld_WriteByte (A0 := some ⟨g10, 0, none⟩) (.inr rfl) hc1287 hl1288) (fun ⟨A1289, c1290⟩ hc1290 => ?_)
        refine g_sta _ (fun W h => ok_front (t := 1000) (t' := 100050) (ok_frontR (t := 1000) (t' := 19) h rfl) rfl) <| g_nil <| d_then ?_
        refine c_flat [(5, .pointer (some ⟨g10, 0, none⟩)), (7, .string x1048), (9, .int .u8 b1273), (20, .slice A4 x1.length c5), (21, .int .i64 (x1.length : Int)), (22, .int .i64 i921), (27, .int .i64 (x1048.size : Int)), (28, .int .i64 i1219)] ⟨rfl, rfl, rfl, rfl, rfl, rfl, rfl, rfl, trivial⟩ (fun u => ?_)
        refine c_sta ⟨w0, M, (100050, g10, .cells #[.pointer (some ⟨g10, 0, none⟩), .slice A1289 l1288.length c1290] 41 (0, 0)) :: H, (19, ⟨.slice A1289 l1288.length c1290, 5, 1, l1288.length, l1288.flatMap (fun x : Int => [Value.int .u8 x])⟩) :: (100120, ⟨.slice A4 x1.length c5, 9, 1, x1.length, x1.flatMap (fun x : ByteArray => [Value.string x])⟩) :: R, φ⟩ (fun _ h => h) <| c_seq <| c_region <| g_v rfl r_move <| g_v rfl (r_quo rfl rfl (by decide) rfl) <| g_v rfl (r_rem rfl rfl (by decide) rfl) <| g_v rfl (r_add rfl rfl rfl) ?_
        replace hm := bnd hm
        obtain ⟨l1291, hl1291, hm⟩ := hm
        refine g_cn ⟨w0, M, (1000, g10, .cells #[.pointer (some ⟨g10, 0, none⟩), .slice A1289 l1288.length c1290] 41 (0, 0)) :: H, (1000, ⟨.slice A1289 l1288.length c1290, 5, 1, l1288.length, l1288.flatMap (fun x : Int => [Value.int .u8 x])⟩) :: (100120, ⟨.slice A4 x1.length c5, 9, 1, x1.length, x1.flatMap (fun x : ByteArray => [Value.string x])⟩) :: R, φ⟩ (fun W h => ok_front (t := 100050) (t' := 1000) (ok_frontR (t := 19) (t' := 1000) h rfl) rfl) Tryd.call18 rfl rfl (c_bld_WriteByte (A0 := some ⟨g10, 0, none⟩) (.inr rfl) hc1290 hl1291) (fun ⟨A1292, c1293⟩ hc1293 => ?_)
        refine g_sta _ (fun W h => ok_front (t := 1000) (t' := 100050) (ok_frontR (t := 1000) (t' := 19) h rfl) rfl) <| g_nil <| d_then <| c_region <| g_v rfl r_move <| g_v rfl (r_rem rfl rfl (by decide) rfl) <| g_v rfl (r_add rfl rfl rfl) ?_
        replace hm := bnd hm
        obtain ⟨l1294, hl1294, hm⟩ := hm
        refine g_cn ⟨w0, M, (1000, g10, .cells #[.pointer (some ⟨g10, 0, none⟩), .slice A1292 l1291.length c1293] 41 (0, 0)) :: H, (1000, ⟨.slice A1292 l1291.length c1293, 5, 1, l1291.length, l1291.flatMap (fun x : Int => [Value.int .u8 x])⟩) :: (100120, ⟨.slice A4 x1.length c5, 9, 1, x1.length, x1.flatMap (fun x : ByteArray => [Value.string x])⟩) :: R, φ⟩ (fun W h => ok_front (t := 100050) (t' := 1000) (ok_frontR (t := 19) (t' := 1000) h rfl) rfl) Tryd.call18 rfl rfl (c_bld_WriteByte (A0 := some ⟨g10, 0, none⟩) (.inr rfl) hc1293 hl1294) (fun ⟨A1295, c1296⟩ hc1296 => ?_)
        refine g_sta _ (fun W h => ok_front (t := 1000) (t' := 100050) (ok_frontR (t := 1000) (t' := 19) h rfl) rfl) <| g_nil <| d_normal_block <| d_normal_block <| d_then ?_
        refine c_flat [(5, .pointer (some ⟨g10, 0, none⟩)), (7, .string x1048), (20, .slice A4 x1.length c5), (21, .int .i64 (x1.length : Int)), (22, .int .i64 i921), (27, .int .i64 (x1048.size : Int)), (28, .int .i64 i1219)] ⟨rfl, rfl, rfl, rfl, rfl, rfl, rfl, trivial⟩ (fun u => ?_)
        refine c_sta ⟨w0, M, (100050, g10, .cells #[.pointer (some ⟨g10, 0, none⟩), .slice A1295 l1294.length c1296] 41 (0, 0)) :: H, (19, ⟨.slice A1295 l1294.length c1296, 5, 1, l1294.length, l1294.flatMap (fun x : Int => [Value.int .u8 x])⟩) :: (100120, ⟨.slice A4 x1.length c5, 9, 1, x1.length, x1.flatMap (fun x : ByteArray => [Value.string x])⟩) :: R, φ⟩ (fun _ h => h) <| c_region <| g_v rfl (r_add rfl rfl rfl) <| g_v rfl r_move <| g_nil ?_
        obtain ⟨n1297, hn1297, hlp⟩ := nx_inl hm hnx4
        exact d_round (n1297, l1294, w64 (i1219 + 1), A1295, c1296, some ⟨g10, 0, none⟩) ⟨hlp, hc1296, (.inr rfl)⟩ hn1297 ⟨rfl, rfl, rfl, rfl, rfl, rfl, rfl, trivial⟩ (fun W h => h.phi (fun W hφ => hφ))
       replace hm := ite_f hm (of_decide_eq_false h1284)
       refine c_region <| g_v rfl r_move ?_
       replace hm := bnd hm
       obtain ⟨l1298, hl1298, hm⟩ := hm
       refine g_cn ⟨w0, M, (1000, g10, .cells #[.pointer A1220, .slice A1217 l1216.length c1218] 41 (0, 0)) :: H, (1000, ⟨.slice A1217 l1216.length c1218, 5, 1, l1216.length, l1216.flatMap (fun x : Int => [Value.int .u8 x])⟩) :: (100120, ⟨.slice A4 x1.length c5, 9, 1, x1.length, x1.flatMap (fun x : ByteArray => [Value.string x])⟩) :: R, φ⟩ (fun W h => ok_front (t := 100050) (t' := 1000) (ok_frontR (t := 19) (t' := 1000) h rfl) rfl) Tryd.call18 rfl rfl (c_bld_WriteByte (A0 := A1220) hA1220 hc1218 hl1298) (fun ⟨A1299, c1300⟩ hc1300 => ?_)
       refine g_sta _ (fun W h => ok_front (t := 1000) (t' := 100050) (ok_frontR (t := 1000) (t' := 19) h rfl) rfl) <| g_nil <| d_normal_block <| d_normal_block <| d_then ?_
       refine c_flat [(5, .pointer (some ⟨g10, 0, none⟩)), (7, .string x1048), (20, .slice A4 x1.length c5), (21, .int .i64 (x1.length : Int)), (22, .int .i64 i921), (27, .int .i64 (x1048.size : Int)), (28, .int .i64 i1219)] ⟨rfl, rfl, rfl, rfl, rfl, rfl, rfl, trivial⟩ (fun u => ?_)
       refine c_sta ⟨w0, M, (100050, g10, .cells #[.pointer (some ⟨g10, 0, none⟩), .slice A1299 l1298.length c1300] 41 (0, 0)) :: H, (19, ⟨.slice A1299 l1298.length c1300, 5, 1, l1298.length, l1298.flatMap (fun x : Int => [Value.int .u8 x])⟩) :: (100120, ⟨.slice A4 x1.length c5, 9, 1, x1.length, x1.flatMap (fun x : ByteArray => [Value.string x])⟩) :: R, φ⟩ (fun _ h => h) <| c_region <| g_v rfl (r_add rfl rfl rfl) <| g_v rfl r_move <| g_nil ?_
       obtain ⟨n1301, hn1301, hlp⟩ := nx_inl hm hnx4
       exact d_round (n1301, l1298, w64 (i1219 + 1), A1299, c1300, some ⟨g10, 0, none⟩) ⟨hlp, hc1300, (.inr rfl)⟩ hn1301 ⟨rfl, rfl, rfl, rfl, rfl, rfl, rfl, trivial⟩ (fun W h => h.phi (fun W hφ => hφ))
      replace hm := ite_t hm (of_decide_eq_true h1283)
      refine g_no rfl rfl rfl rfl rfl h1283 <| g_v rfl (r_pick1 rfl h1283) <| g_v rfl r_assign <| g_nil <| d_then <| c_cond1 rfl rfl <| c_seq <| c_region ?_
      replace hm := bnd hm
      obtain ⟨l1302, hl1302, hm⟩ := hm
      refine g_cn ⟨w0, M, (1000, g10, .cells #[.pointer A1220, .slice A1217 l1216.length c1218] 41 (0, 0)) :: H, (1000, ⟨.slice A1217 l1216.length c1218, 5, 1, l1216.length, l1216.flatMap (fun x : Int => [Value.int .u8 x])⟩) :: (100120, ⟨.slice A4 x1.length c5, 9, 1, x1.length, x1.flatMap (fun x : ByteArray => [Value.string x])⟩) :: R, φ⟩ (fun W h => ok_front (t := 100050) (t' := 1000) (ok_frontR (t := 19) (t' := 1000) h rfl) rfl) Tryd.call18 rfl rfl (c_bld_WriteByte (A0 := A1220) hA1220 hc1218 hl1302) (fun ⟨A1303, c1304⟩ hc1304 => ?_)
      refine g_sta _ (fun W h => ok_front (t := 1000) (t' := 100050) (ok_frontR (t := 1000) (t' := 19) h rfl) rfl) <| g_nil <| d_then <| c_seq <| c_region <| g_v rfl r_move <| g_v rfl (r_quo rfl rfl (by decide) rfl) <| g_v rfl (r_add rfl rfl rfl) ?_
      replace hm := bnd hm
      obtain ⟨l1305, hl1305, hm⟩ := hm
      refine g_cn ⟨w0, M, (1000, g10, .cells #[.pointer (some ⟨g10, 0, none⟩), .slice A1303 l1302.length c1304] 41 (0, 0)) :: H, (1000, ⟨.slice A1303 l1302.length c1304, 5, 1, l1302.length, l1302.flatMap (fun x : Int => [Value.int .u8 x])⟩) :: (100120, ⟨.slice A4 x1.length c5, 9, 1, x1.length, x1.flatMap (fun x : ByteArray => [Value.string x])⟩) :: R, φ⟩ (fun W h => ok_front (t := 100050) (t' := 1000) (ok_frontR (t := 19) (t' := 1000) h rfl) rfl) Tryd.call18 rfl rfl (c_bld_WriteByte (A0 := some ⟨g10, 0, none⟩) (.inr rfl) hc1304 hl1305) (fun ⟨A1306, c1307⟩ hc1307 => ?_)
      refine g_sta _ (fun W h => ok_front (t := 1000) (t' := 100050) (ok_frontR (t := 1000) (t' := 19) h rfl) rfl) <| g_nil <| d_then ?_
      refine c_flat [(5, .pointer (some ⟨g10, 0, none⟩)), (7, .string x1048), (9, .int .u8 b1273), (20, .slice A4 x1.length c5), (21, .int .i64 (x1.length : Int)), (22, .int .i64 i921), (27, .int .i64 (x1048.size : Int)), (28, .int .i64 i1219)] ⟨rfl, rfl, rfl, rfl, rfl, rfl, rfl, rfl, trivial⟩ (fun u => ?_)
      refine c_sta ⟨w0, M, (100050, g10, .cells #[.pointer (some ⟨g10, 0, none⟩), .slice A1306 l1305.length c1307] 41 (0, 0)) :: H, (19, ⟨.slice A1306 l1305.length c1307, 5, 1, l1305.length, l1305.flatMap (fun x : Int => [Value.int .u8 x])⟩) :: (100120, ⟨.slice A4 x1.length c5, 9, 1, x1.length, x1.flatMap (fun x : ByteArray => [Value.string x])⟩) :: R, φ⟩ (fun _ h => h) <| c_seq <| c_region <| g_v rfl r_move <| g_v rfl (r_quo rfl rfl (by decide) rfl) <| g_v rfl (r_rem rfl rfl (by decide) rfl) <| g_v rfl (r_add rfl rfl rfl) ?_
      replace hm := bnd hm
      obtain ⟨l1308, hl1308, hm⟩ := hm
      refine g_cn ⟨w0, M, (1000, g10, .cells #[.pointer (some ⟨g10, 0, none⟩), .slice A1306 l1305.length c1307] 41 (0, 0)) :: H, (1000, ⟨.slice A1306 l1305.length c1307, 5, 1, l1305.length, l1305.flatMap (fun x : Int => [Value.int .u8 x])⟩) :: (100120, ⟨.slice A4 x1.length c5, 9, 1, x1.length, x1.flatMap (fun x : ByteArray => [Value.string x])⟩) :: R, φ⟩ (fun W h => ok_front (t := 100050) (t' := 1000) (ok_frontR (t := 19) (t' := 1000) h rfl) rfl) Tryd.call18 rfl rfl (c_bld_WriteByte (A0 := some ⟨g10, 0, none⟩) (.inr rfl) hc1307 hl1308) (fun ⟨A1309, c1310⟩ hc1310 => ?_)
      refine g_sta _ (fun W h => ok_front (t := 1000) (t' := 100050) (ok_frontR (t := 1000) (t' := 19) h rfl) rfl) <| g_nil <| d_then <| c_region <| g_v rfl r_move <| g_v rfl (r_rem rfl rfl (by decide) rfl) <| g_v rfl (r_add rfl rfl rfl) ?_
      replace hm := bnd hm
      obtain ⟨l1311, hl1311, hm⟩ := hm
      refine g_cn ⟨w0, M, (1000, g10, .cells #[.pointer (some ⟨g10, 0, none⟩), .slice A1309 l1308.length c1310] 41 (0, 0)) :: H, (1000, ⟨.slice A1309 l1308.length c1310, 5, 1, l1308.length, l1308.flatMap (fun x : Int => [Value.int .u8 x])⟩) :: (100120, ⟨.slice A4 x1.length c5, 9, 1, x1.length, x1.flatMap (fun x : ByteArray => [Value.string x])⟩) :: R, φ⟩ (fun W h => ok_front (t := 100050) (t' := 1000) (ok_frontR (t := 19) (t' := 1000) h rfl) rfl) Tryd.call18 rfl rfl (c_bld_WriteByte (A0 := some ⟨g10, 0, none⟩) (.inr rfl) hc1310 hl1311) (fun ⟨A1312, c1313⟩ hc1313 => ?_)
      refine g_sta _ (fun W h => ok_front (t := 1000) (t' := 100050) (ok_frontR (t := 1000) (t' := 19) h rfl) rfl) <| g_nil <| d_normal_block <| d_normal_block <| d_then ?_
      refine c_flat [(5, .pointer (some ⟨g10, 0, none⟩)), (7, .string x1048), (20, .slice A4 x1.length c5), (21, .int .i64 (x1.length : Int)), (22, .int .i64 i921), (27, .int .i64 (x1048.size : Int)), (28, .int .i64 i1219)] ⟨rfl, rfl, rfl, rfl, rfl, rfl, rfl, trivial⟩ (fun u => ?_)
      refine c_sta ⟨w0, M, (100050, g10, .cells #[.pointer (some ⟨g10, 0, none⟩), .slice A1312 l1311.length c1313] 41 (0, 0)) :: H, (19, ⟨.slice A1312 l1311.length c1313, 5, 1, l1311.length, l1311.flatMap (fun x : Int => [Value.int .u8 x])⟩) :: (100120, ⟨.slice A4 x1.length c5, 9, 1, x1.length, x1.flatMap (fun x : ByteArray => [Value.string x])⟩) :: R, φ⟩ (fun _ h => h) <| c_region <| g_v rfl (r_add rfl rfl rfl) <| g_v rfl r_move <| g_nil ?_
      obtain ⟨n1314, hn1314, hlp⟩ := nx_inl hm hnx4
      exact d_round (n1314, l1311, w64 (i1219 + 1), A1312, c1313, some ⟨g10, 0, none⟩) ⟨hlp, hc1313, (.inr rfl)⟩ hn1314 ⟨rfl, rfl, rfl, rfl, rfl, rfl, rfl, trivial⟩ (fun W h => h.phi (fun W hφ => hφ))
     replace hm := ite_t hm (of_decide_eq_true h1274)
     refine g_no rfl rfl rfl rfl rfl h1274 <| g_v rfl (r_pick1 rfl h1274) <| g_v rfl r_assign <| g_nil <| d_then ?_
     refine c_flat [(5, .pointer (some ⟨g10, 0, none⟩)), (7, .string x1048), (9, .int .u8 b1273), (20, .slice A4 x1.length c5), (21, .int .i64 (x1.length : Int)), (22, .int .i64 i921), (27, .int .i64 (x1048.size : Int)), (28, .int .i64 i1219), (36, .bool true)] ⟨rfl, rfl, rfl, rfl, rfl, rfl, rfl, rfl, rfl, trivial⟩ (fun u => ?_)
     refine c_cond1 rfl rfl <| c_seq <| c_region ?_
     replace hm := bnd hm
     obtain ⟨l1315, hl1315, hm⟩ := hm
     refine g_cn ⟨w0, M, (1000, g10, .cells #[.pointer A1220, .slice A1217 l1216.length c1218] 41 (0, 0)) :: H, (1000, ⟨.slice A1217 l1216.length c1218, 5, 1, l1216.length, l1216.flatMap (fun x : Int => [Value.int .u8 x])⟩) :: (100120, ⟨.slice A4 x1.length c5, 9, 1, x1.length, x1.flatMap (fun x : ByteArray => [Value.string x])⟩) :: R, φ⟩ (fun W h => ok_front (t := 100050) (t' := 1000) (ok_frontR (t := 19) (t' := 1000) h rfl) rfl) Tryd.call18 rfl rfl (c_bld_WriteByte (A0 := A1220) hA1220 hc1218 hl1315) (fun ⟨A1316, c1317⟩ hc1317 => ?_)
     refine g_sta _ (fun W h => ok_front (t := 1000) (t' := 100050) (ok_frontR (t := 1000) (t' := 19) h rfl) rfl) <| g_nil <| d_then <| c_region <| g_v rfl r_move ?_
     replace hm := bnd hm
     obtain ⟨l1318, hl1318, hm⟩ := hm
     refine g_cn ⟨w0, M, (1000, g10, .cells #[.pointer (some ⟨g10, 0, none⟩), .slice A1316 l1315.length c1317] 41 (0, 0)) :: H, (1000, ⟨.slice A1316 l1315.length c1317, 5, 1, l1315.length, l1315.flatMap (fun x : Int => [Value.int .u8 x])⟩) :: (100120, ⟨.slice A4 x1.length c5, 9, 1, x1.length, x1.flatMap (fun x : ByteArray => [Value.string x])⟩) :: R, φ⟩ (fun W h => ok_front (t := 100050) (t' := 1000) (ok_frontR (t := 19) (t' := 1000) h rfl) rfl) Tryd.call18 rfl rfl (c_bld_WriteByte (A0 := some ⟨g10, 0, none⟩) (.inr rfl) hc1317 hl1318) (fun ⟨A1319, c1320⟩ hc1320 => ?_)
     refine g_sta _ (fun W h => ok_front (t := 1000) (t' := 100050) (ok_frontR (t := 1000) (t' := 19) h rfl) rfl) <| g_nil <| d_normal_block <| d_normal_block <| d_then <| c_region <| g_v rfl (r_add rfl rfl rfl) <| g_v rfl r_move <| g_nil ?_
     obtain ⟨n1321, hn1321, hlp⟩ := nx_inl hm hnx4
     exact d_round (n1321, l1318, w64 (i1219 + 1), A1319, c1320, some ⟨g10, 0, none⟩) ⟨hlp, hc1320, (.inr rfl)⟩ hn1321 ⟨rfl, rfl, rfl, rfl, rfl, rfl, rfl, trivial⟩ (fun W h => h.phi (fun W hφ => hφ))
    replace hm := ite_f hm (of_decide_eq_false h1272)
    refine c_exit <| d_exit_then <| d_exit_then <| d_exit_block ?_
    replace hm := nx_out (C := (fun e : (List Int) => m_name_Text_j3 i921 e = some o2)) hm hnx4 hr4
    exact d_round (l1216, A1217, c1218, A1220) ⟨hm, hc1218, hA1220⟩ Nat.zero_lt_one ⟨rfl, rfl, rfl, rfl, trivial⟩ (fun W h => h.phi (fun W hφ => hφ))
   unfold m_name_Text_j3 at hm
   refine d_flat [(5, .pointer (some ⟨g10, 0, none⟩)), (20, .slice A4 x1.length c5), (21, .int .i64 (x1.length : Int)), (22, .int .i64 i921)] ⟨rfl, rfl, rfl, rfl, trivial⟩ (fun u => ?_)
   refine d_sta ⟨w0, M, (100050, g10, .cells #[.pointer A1161, .slice A1159 l1158.length c1160] 41 (0, 0)) :: H, (19, ⟨.slice A1159 l1158.length c1160, 5, 1, l1158.length, l1158.flatMap (fun x : Int => [Value.int .u8 x])⟩) :: (100120, ⟨.slice A4 x1.length c5, 9, 1, x1.length, x1.flatMap (fun x : ByteArray => [Value.string x])⟩) :: R, φ⟩ (fun _ h => h) <| d_then <| c_region ?_
   replace hm := bnd hm
   obtain ⟨l1162, hl1162, hm⟩ := hm
   refine g_cn ⟨w0, M, (1000, g10, .cells #[.pointer A1161, .slice A1159 l1158.length c1160] 41 (0, 0)) :: H, (1000, ⟨.slice A1159 l1158.length c1160, 5, 1, l1158.length, l1158.flatMap (fun x : Int => [Value.int .u8 x])⟩) :: (100120, ⟨.slice A4 x1.length c5, 9, 1, x1.length, x1.flatMap (fun x : ByteArray => [Value.string x])⟩) :: R, φ⟩ (fun W h => ok_front (t := 100050) (t' := 1000) (ok_frontR (t := 19) (t' := 1000) h rfl) rfl) Tryd.call18 rfl rfl (c_bld_WriteByte (A0 := A1161) hA1161 hc1160 hl1162) (fun ⟨A1163, c1164⟩ hc1164 => ?_)
   refine g_sta _ (fun W h => ok_front (t := 1000) (t' := 100050) (ok_frontR (t := 1000) (t' := 19) h rfl) rfl) <| g_nil <| d_normal_block <| d_then <| c_region <| g_v rfl (r_add rfl rfl rfl) <| g_v rfl r_move <| g_nil ?_
   obtain ⟨n1165, hn1165, hlp⟩ := nx_inl hm hnx2
   exact d_round (n1165, l1162, w64 (i921 + 1), A1163, c1164, some ⟨g10, 0, none⟩) ⟨hlp, hc1164, (.inr rfl)⟩ hn1165 ⟨rfl, rfl, rfl, rfl, trivial⟩ (fun W h => h.phi (fun W hφ => hφ))
  replace hm := ite_f hm (of_decide_eq_false h1047)
  refine c_exit <| d_exit_then <| d_exit_then <| d_exit_block ?_
  replace hm := nx_out (C := (fun e : (List Int) => m_name_Text_j1 e = some r)) hm hnx2 hr2
  exact d_round (l918, A919, c920, A922) ⟨hm, hc920, hA922⟩ Nat.zero_lt_one ⟨rfl, trivial⟩ (fun W h => (h.dropR (t := 100120) rfl).phi (fun W hφ => hφ))
 unfold m_name_Text_j1 at hm
 refine d_flat [(5, .pointer (some ⟨g10, 0, none⟩))] ⟨rfl, trivial⟩ (fun u => ?_)
 refine d_sta ⟨w0, M, (100050, g10, .cells #[.pointer A793, .slice A791 l790.length c792] 41 (0, 0)) :: H, (19, ⟨.slice A791 l790.length c792, 5, 1, l790.length, l790.flatMap (fun x : Int => [Value.int .u8 x])⟩) :: R, φ⟩ (fun _ h => h) <| d_then <| c_seq <| c_region ?_
 replace hm := bnd hm
 obtain ⟨s794, hs794, hm⟩ := hm
 refine g_cn ⟨w0, M, (1000, g10, .cells #[.pointer A793, .slice A791 l790.length c792] 41 (0, 0)) :: H, (1000, ⟨.slice A791 l790.length c792, 5, 1, l790.length, l790.flatMap (fun x : Int => [Value.int .u8 x])⟩) :: R, φ⟩ (fun W h => ok_front (t := 100050) (t' := 1000) (ok_frontR (t := 19) (t' := 1000) h rfl) rfl) Tryd.call19 rfl rfl (c_bld_String hc792 hs794) (fun _ _ => ?_)
 refine g_sta _ (fun W h => h.dropH (t := 1000) rfl) <| g_v rfl r_assign <| g_nil <| d_then <| c_ret ?_
 cases hm
 exact d_retC () Tryd.results8 (res_tmp (res_nil rfl)) trivial (fun W h => ok_pre (H1 := []) (R1 := []) h (fun W hφ => hφ)) (.inr rfl)
noncomputable def m_name_Depth (p0 : ByteArray) : Option Int :=
  (m_name_Labels p0).bind fun (z7 : (List ByteArray) × Int) =>
  if z7.2 ≠ 0 then
    some (-1)
  else
    some (z7.1.length : Int)
theorem c_name_Depth {w0 : World} {M : Nat → Prop} {H : List (Nat × Nat × Obj)} {R : List (Nat × Row)} {φ : World → Prop} (p0 : ByteArray) (r : Int) (hm : m_name_Depth p0 = some r) :
    Cn Tryd.prog 15 #[.string p0] ⟨w0, M, H, R, φ⟩ (fun x : Unit => .int .i64 r) (fun x => True) (fun x => ⟨w0, M, H, R, φ⟩) := by
 unfold m_name_Depth at hm
 refine cn_intro (fn := Tryd.f15) (N := 14) Tryd.func15 rfl Tryd.ntmps15 rfl <| c_seq <| c_region <| g_v rfl r_assign <| g_nil <| d_then <| c_seq <| c_region <| g_v rfl r_move ?_
 replace hm := bnd hm
 obtain ⟨⟨x1, x2⟩, hx3, hm⟩ := hm
 refine g_cn ⟨w0, M, _, _, φ⟩ (fun _ h => h) Tryd.call11 rfl rfl (c_name_Labels p0 _ hx3) (fun ⟨A4, c5⟩ hc5 => ?_)
 refine g_sta _ (fun W h => (ok_frontR (t := 2000) (t' := 100070) h rfl)) <| g_v rfl r_move <| g_v rfl (r_extract rfl rfl) <| g_v rfl (r_extract rfl rfl) <| g_v rfl r_assign <| g_v rfl r_assign <| g_nil <| d_then <| c_seq <| c_seq ?_
 refine c_region <| g_v rfl r_move <| g_v rfl (r_neq rfl rfl) <| g_nil <| d_then ?_
 refine c_flat [(3, .slice A4 x1.length c5), (11, .bool (decide (x2 ≠ 0)))] ⟨rfl, rfl, trivial⟩ (fun u => ?_)
 refine c_sta ⟨w0, M, H, (100070, ⟨.slice A4 x1.length c5, 9, 1, x1.length, x1.flatMap (fun x : ByteArray => [Value.string x])⟩) :: R, φ⟩ (fun _ h => h) ?_
 refine c_cond rfl (fun h8 => ?_) (fun h8 => ?_)
 ·
  replace hm := ite_t hm (of_decide_eq_true h8)
  refine c_seq <| c_region <| g_v rfl r_assign <| g_nil <| d_then <| c_ret <| d_ret_then ?_
  cases hm
  exact d_retC () Tryd.results15 (res_tmp (res_nil rfl)) trivial (fun W h => ok_pre (H1 := []) (R1 := [_]) h (fun W hφ => hφ)) (.inr rfl)
 replace hm := ite_f hm (of_decide_eq_false h8)
 refine c_skip <| d_then <| c_seq <| c_region <| g_v rfl r_move <| g_v rfl (r_lenL Tryd.underlying30 rfl) <| g_v rfl r_assign <| g_nil <| d_then <| c_ret ?_
 cases hm
 exact d_retC () Tryd.results15 (res_tmp (res_nil rfl)) trivial (fun W h => ok_pre (H1 := []) (R1 := [_]) h (fun W hφ => hφ)) (.inr rfl)
noncomputable def m_name_Lower_j1  (l55 : List Int) : Option ByteArray :=
  some (strOfNums l55)
noncomputable def m_name_Lower_s2 (p0 : ByteArray) (l78 : List Int) (i79 : Int) : Option (((List Int) × Int) ⊕ (List Int)) :=
  if i79 < (((bytesI p0).length) : Int) then
    (at_ l78 i79).bind fun x104 =>
    if 65 ≤ x104 then
      (at_ l78 i79).bind fun x109 =>
      if x109 ≤ 90 then
        (at_ l78 i79).bind fun x114 =>
        (at_ l78 i79).bind fun x118 =>
        (setAt l78 i79 (orI .u8 x114 32)).bind fun l122 =>
        some (.inl (l122, w64 (i79 + 1)))
      else
        some (.inl (l78, w64 (i79 + 1)))
    else
      some (.inl (l78, w64 (i79 + 1)))
  else
    some (.inr l78)
noncomputable def m_name_Lower (p0 : ByteArray) : Option ByteArray :=
  (loop (fun s => m_name_Lower_s2 p0 s.1 s.2) ((bytesI p0), 0)).bind fun e => m_name_Lower_j1 e
theorem c_name_Lower {w0 : World} {M : Nat → Prop} {H : List (Nat × Nat × Obj)} {R : List (Nat × Row)} {φ : World → Prop} (p0 : ByteArray) (r : ByteArray) (hm : m_name_Lower p0 = some r) :
    Cn Tryd.prog 32 #[.string p0] ⟨w0, M, H, R, φ⟩ (fun x : Unit => .string r) (fun x => True) (fun x => ⟨w0, M, H, R, φ⟩) := by
 unfold m_name_Lower at hm
 refine cn_intro (fn := Tryd.f32) (N := 33) Tryd.func32 rfl Tryd.ntmps32 rfl <| c_seq <| c_region <| g_v rfl r_assign <| g_nil <| d_then <| c_seq <| c_region <| g_v rfl r_move ?_
 refine g_e rfl (e_bytesH 100060 Tryd.underlying9 Tryd.underlying35 Tryd.underlying5 rfl) (fun ⟨g5, c6, T7⟩ hc6 => ?_)
 refine g_v rfl r_assign <| g_nil <| d_then <| c_seq <| c_seq <| c_region <| g_v rfl r_move <| g_v rfl (r_lenL Tryd.underlying35 rfl) <| g_v rfl r_move <| g_nil ?_
 refine d_then ?_
 refine c_cut (ι := (List Int)) [3] (fun l55 => [(3, .slice (some ⟨g5, 0, none⟩) ((bytesI p0).length) c6)]) (fun l55 => ⟨w0, M, (100060, g5, rowO l55 T7 5) :: H, R, φ⟩) (fun l55 => m_name_Lower_j1 l55 = some r ∧ l55.length = (bytesI p0).length) ?_ (fun l55 u ⟨hm, hl55⟩ => ?_)
 ·
  refine c_block ?_
  replace hm := bnd hm
  obtain ⟨out2, hl2, hr2⟩ := hm
  obtain ⟨n102', hl2⟩ := loop_lp hl2
  refine c_loopU (ι := Nat × (List Int) × Int) [3, 8, 9] (fun ⟨n102, l78, i79⟩ => [(3, .slice (some ⟨g5, 0, none⟩) ((bytesI p0).length) c6), (9, .int .i64 i79)]) (fun ⟨n102, l78, i79⟩ => ⟨w0, M, (100060, g5, rowO l78 T7 5) :: H, R, φ⟩) (fun ⟨n102, l78, i79⟩ => Lp (fun s => m_name_Lower_s2 p0 s.1 s.2) n102 (l78, i79) out2 ∧ l78.length = (bytesI p0).length) (fun ⟨n102, l78, i79⟩ => n102) (n102', (bytesI p0), 0) ⟨hl2, rfl⟩ ⟨rfl, rfl, rfl, trivial⟩ (fun W h => h.phi (fun W hφ => hφ)) (fun ⟨n102, l78, i79⟩ u ⟨hlp, hl78⟩ => ?_)
  obtain ⟨o2, hm, hnx2⟩ := lp_step hlp
  clear hlp
  replace hm : m_name_Lower_s2 p0 l78 i79 = some o2 := hm
  unfold m_name_Lower_s2 at hm
  refine c_flat [(3, .slice (some ⟨g5, 0, none⟩) ((bytesI p0).length) c6), (8, .int .i64 (((bytesI p0).length) : Int)), (9, .int .i64 i79)] ⟨rfl, rfl, rfl, trivial⟩ (fun u => ?_)
  refine c_sta ⟨w0, M, (100060, g5, rowO l78 T7 5) :: H, R, φ⟩ (fun _ h => h) <| c_seq <| c_region <| g_v rfl (r_lss rfl rfl) <| g_nil <| d_then <| c_seq ?_
  refine c_cond rfl (fun h103 => ?_) (fun h103 => ?_)
  ·
   replace hm := ite_t hm (of_decide_eq_true h103)
   refine c_skip <| d_then <| c_seq <| c_block <| c_seq <| c_region <| g_v rfl r_move <| g_v rfl r_assign <| g_nil <| d_then ?_
   refine c_seq <| c_region <| g_v rfl r_move <| g_v rfl r_move ?_
   replace hm := bnd hm
   obtain ⟨x104, hx104, hm⟩ := hm
   refine g_know _ (fun W hS => cl_at (p := (Sta.ok ⟨w0, M, (100060, g5, rowO l78 T7 5) :: H, R, φ⟩)) (sz := 1) (fun _ => rfl) (by decide) hS (hrowCl (S := ⟨w0, M, (100060, g5, rowO l78 T7 5) :: H, R, φ⟩) (tag := 100060) rfl) hx104) ?_
   rintro ⟨ad105, hA107, f106⟩
   refine g_v rfl (r_ixN hl78 Tryd.underlying35 Tryd.sizeOf5 rfl hA107 rfl hx104) <| g_v rfl (r_ld rfl Tryd.isAgg5 (fun W hS => Cl.head (f106 W hS))) <| g_v rfl (r_geq rfl rfl) <| g_v rfl r_move ?_
   refine g_if rfl rfl rfl rfl rfl (fun h108 => ?_) (fun h108 => ?_)
   ·
    replace hm := ite_t hm (of_decide_eq_true h108)
    refine g_v rfl r_move <| g_do rfl rfl rfl rfl rfl h108 <| g_v rfl r_move <| g_do rfl rfl rfl rfl rfl h108 ?_
    replace hm := bnd hm
    obtain ⟨x109, hx109, hm⟩ := hm
    refine g_know _ (fun W hS => cl_at (p := (Sta.ok ⟨w0, M, (100060, g5, rowO l78 T7 5) :: H, R, φ⟩)) (sz := 1) (fun _ => rfl) (by decide) hS (hrowCl (S := ⟨w0, M, (100060, g5, rowO l78 T7 5) :: H, R, φ⟩) (tag := 100060) rfl) hx109) ?_
    rintro ⟨ad110, hA112, f111⟩
    refine g_v rfl (r_ixN hl78 Tryd.underlying35 Tryd.sizeOf5 rfl hA112 rfl hx109) <| g_do rfl rfl rfl rfl rfl h108 <| g_v rfl (r_ld rfl Tryd.isAgg5 (fun W hS => Cl.head (f111 W hS))) <| g_do rfl rfl rfl rfl rfl h108 <| g_v rfl (r_leq rfl rfl) <| g_v rfl (r_pick1 rfl h108) <| g_nil <| d_then ?_
    refine c_flat [(3, .slice (some ⟨g5, 0, none⟩) ((bytesI p0).length) c6), (4, .int .i64 i79), (8, .int .i64 (((bytesI p0).length) : Int)), (9, .int .i64 i79), (23, .bool (decide (x109 ≤ 90)))] ⟨rfl, rfl, rfl, rfl, rfl, trivial⟩ (fun u => ?_)
    refine c_cond rfl (fun h113 => ?_) (fun h113 => ?_)
    ·
     replace hm := ite_t hm (of_decide_eq_true h113)
     refine c_region <| g_v rfl r_move <| g_v rfl r_move ?_
     replace hm := bnd hm
     obtain ⟨x114, hx114, hm⟩ := hm
     refine g_know _ (fun W hS => cl_at (p := (Sta.ok ⟨w0, M, (100060, g5, rowO l78 T7 5) :: H, R, φ⟩)) (sz := 1) (fun _ => rfl) (by decide) hS (hrowCl (S := ⟨w0, M, (100060, g5, rowO l78 T7 5) :: H, R, φ⟩) (tag := 100060) rfl) hx114) ?_
     rintro ⟨ad115, hA117, f116⟩
     refine g_v rfl (r_ixN hl78 Tryd.underlying35 Tryd.sizeOf5 rfl hA117 rfl hx114) <| g_v rfl (r_ld rfl Tryd.isAgg5 (fun W hS => Cl.head (f116 W hS))) <| g_v rfl (r_bits_or rfl rfl) ?_
     replace hm := bnd hm
     obtain ⟨x118, hx118, hm⟩ := hm
     refine g_know _ (fun W hS => cl_at (p := (Sta.ok ⟨w0, M, (100060, g5, rowO l78 T7 5) :: H, R, φ⟩)) (sz := 1) (fun _ => rfl) (by decide) hS (hrowCl (S := ⟨w0, M, (100060, g5, rowO l78 T7 5) :: H, R, φ⟩) (tag := 100060) rfl) hx118) ?_
     rintro ⟨ad119, hA121, f120⟩
     refine g_v rfl (r_ixN hl78 Tryd.underlying35 Tryd.sizeOf5 rfl hA121 rfl hx118) ?_
     replace hm := bnd hm
     obtain ⟨l122, hl122, hm⟩ := hm
     refine g_stH (tag := 100060) (l := l78) rfl rfl hA121 rfl hl122 rfl Tryd.sizeOf5 <| g_nil <| d_normal_block <| d_then <| c_region <| g_v rfl (r_add rfl rfl rfl) <| g_v rfl r_move <| g_nil ?_
     obtain ⟨n123, hn123, hlp⟩ := nx_inl hm hnx2
     exact d_round (n123, l122, w64 (i79 + 1)) ⟨hlp, ((setAt_lenE hl122).trans hl78)⟩ hn123 ⟨rfl, rfl, rfl, trivial⟩ (fun W h => h.phi (fun W hφ => hφ))
    replace hm := ite_f hm (of_decide_eq_false h113)
    refine c_skip <| d_normal_block <| d_then <| c_region <| g_v rfl (r_add rfl rfl rfl) <| g_v rfl r_move <| g_nil ?_
    obtain ⟨n124, hn124, hlp⟩ := nx_inl hm hnx2
    exact d_round (n124, l78, w64 (i79 + 1)) ⟨hlp, hl78⟩ hn124 ⟨rfl, rfl, rfl, trivial⟩ (fun W h => h.phi (fun W hφ => hφ))
   replace hm := ite_f hm (of_decide_eq_false h108)
   iterate 4 refine g_no rfl rfl rfl rfl rfl h108 ?_
   refine g_v rfl (r_pick0 rfl h108) <| g_nil <| d_then ?_
   refine c_flat [(3, .slice (some ⟨g5, 0, none⟩) ((bytesI p0).length) c6), (4, .int .i64 i79), (8, .int .i64 (((bytesI p0).length) : Int)), (9, .int .i64 i79), (23, .bool false)] ⟨rfl, rfl, rfl, rfl, rfl, trivial⟩ (fun u => ?_)
   refine c_cond0 rfl rfl <| c_skip <| d_normal_block <| d_then <| c_region <| g_v rfl (r_add rfl rfl rfl) <| g_v rfl r_move <| g_nil ?_
   obtain ⟨n125, hn125, hlp⟩ := nx_inl hm hnx2
   exact d_round (n125, l78, w64 (i79 + 1)) ⟨hlp, hl78⟩ hn125 ⟨rfl, rfl, rfl, trivial⟩ (fun W h => h.phi (fun W hφ => hφ))
  replace hm := ite_f hm (of_decide_eq_false h103)
  refine c_exit <| d_exit_then <| d_exit_then <| d_exit_block ?_
  replace hm := nx_out (C := (fun e : (List Int) => m_name_Lower_j1 e = some r)) hm hnx2 hr2
  exact d_round l78 ⟨hm, hl78⟩ Nat.zero_lt_one ⟨rfl, trivial⟩ (fun W h => h.phi (fun W hφ => hφ))
 unfold m_name_Lower_j1 at hm
 refine d_flat [(3, .slice (some ⟨g5, 0, none⟩) ((bytesI p0).length) c6)] ⟨rfl, trivial⟩ (fun u => ?_)
 refine d_sta ⟨w0, M, (100060, g5, rowO l55 T7 5) :: H, R, φ⟩ (fun _ h => h) <| d_then <| c_seq <| c_region <| g_v rfl r_move <| g_v rfl (r_textN hl55 Tryd.underlying35 Tryd.underlying5 Tryd.underlying9 rfl (hrowCl (tag := 100060) rfl)) <| g_v rfl r_assign <| g_nil <| d_then <| c_ret ?_
 cases hm
 exact d_retC () Tryd.results32 (res_tmp (res_nil rfl)) trivial (fun W h => ok_pre (H1 := [_]) (R1 := []) h (fun W hφ => hφ)) (.inr rfl)
noncomputable def m_slices_Reverse_33_j1  (l152 : List ByteArray) : Option (List ByteArray) :=
  some l152
noncomputable def m_slices_Reverse_33_s2  (l228 : List ByteArray) (i231 : Int) (i232 : Int) : Option (((List ByteArray) × Int × Int) ⊕ (List ByteArray)) :=
  if i231 < i232 then
    (at_ l228 i232).bind fun x351 =>
    (at_ l228 i231).bind fun x355 =>
    (at_ l228 i231).bind fun x359 =>
    (setAt l228 i231 x351).bind fun l363 =>
    (at_ l363 i232).bind fun x366 =>
    (setAt l363 i232 x355).bind fun l370 =>
    some (.inl (l370, w64 (i231 + 1), w64 (i232 - 1)))
  else
    some (.inr l228)
noncomputable def m_slices_Reverse_33 (p0 : List ByteArray) : Option (List ByteArray) :=
  (loop (fun s => m_slices_Reverse_33_s2 s.1 s.2.1 s.2.2) (p0, 0, w64 ((p0.length : Int) - 1))).bind fun e => m_slices_Reverse_33_j1 e
theorem c_slices_Reverse_33 {w0 : World} {M : Nat → Prop} {H : List (Nat × Nat × Obj)} {R : List (Nat × Row)} {φ : World → Prop} (p0 : List ByteArray) (Ap0_0 : Option Addr) (cp0_0 : Nat) (hcp0_0 : p0.length ≤ cp0_0) (r : (List ByteArray)) (hm : m_slices_Reverse_33 p0 = some r) :
    Cn Tryd.prog 33 #[.slice Ap0_0 p0.length cp0_0] ⟨w0, M, H, (1000, ⟨.slice Ap0_0 p0.length cp0_0, 9, 1, p0.length, p0.flatMap (fun x : ByteArray => [Value.string x])⟩) :: R, φ⟩ (fun x : Unit => .tuple #[]) (fun x => r.length = p0.length) (fun x => ⟨w0, M, H, (1000, ⟨.slice Ap0_0 r.length cp0_0, 9, 1, r.length, r.flatMap (fun x : ByteArray => [Value.string x])⟩) :: R, φ⟩) := by
 unfold m_slices_Reverse_33 at hm
 refine cn_intro (fn := Tryd.f33) (N := 28) Tryd.func33 rfl Tryd.ntmps33 rfl <| c_seq <| c_region <| g_v rfl r_move <| g_v rfl (r_lenL Tryd.underlying30 rfl) <| g_v rfl (r_sub rfl rfl rfl) <| g_v rfl r_assign <| g_v rfl r_assign <| g_nil <| d_then ?_
 refine c_cut (ι := (List ByteArray)) [] (fun l152 => []) (fun l152 => ⟨w0, M, H, (1000, ⟨.slice Ap0_0 l152.length cp0_0, 9, 1, l152.length, l152.flatMap (fun x : ByteArray => [Value.string x])⟩) :: R, φ⟩) (fun l152 => m_slices_Reverse_33_j1 l152 = some r ∧ (l152.length ≤ cp0_0 ∧ l152.length = p0.length)) ?_ (fun l152 u ⟨hm, hl152⟩ => ?_)
 ·
  refine c_block ?_
  replace hm := bnd hm
  obtain ⟨out2, hl2, hr2⟩ := hm
  obtain ⟨n305', hl2⟩ := loop_lp hl2
  refine c_loopU (ι := Nat × (List ByteArray) × Int × Int) [0, 2, 3] (fun ⟨n305, l228, i231, i232⟩ => [(0, .slice Ap0_0 l228.length cp0_0), (2, .int .i64 i231), (3, .int .i64 i232)]) (fun ⟨n305, l228, i231, i232⟩ => ⟨w0, M, H, (1000, ⟨.slice Ap0_0 l228.length cp0_0, 9, 1, l228.length, l228.flatMap (fun x : ByteArray => [Value.string x])⟩) :: R, φ⟩) (fun ⟨n305, l228, i231, i232⟩ => Lp (fun s => m_slices_Reverse_33_s2 s.1 s.2.1 s.2.2) n305 (l228, i231, i232) out2 ∧ (l228.length ≤ cp0_0 ∧ l228.length = p0.length)) (fun ⟨n305, l228, i231, i232⟩ => n305) (n305', p0, 0, w64 ((p0.length : Int) - 1)) ⟨hl2, ⟨hcp0_0, rfl⟩⟩ ⟨rfl, rfl, rfl, trivial⟩ (fun W h => h.phi (fun W hφ => hφ)) (fun ⟨n305, l228, i231, i232⟩ u ⟨hlp, hl228⟩ => ?_)
  obtain ⟨o2, hm, hnx2⟩ := lp_step hlp
  clear hlp
  replace hm : m_slices_Reverse_33_s2 l228 i231 i232 = some o2 := hm
  unfold m_slices_Reverse_33_s2 at hm
  refine c_flat [(0, .slice Ap0_0 l228.length cp0_0), (2, .int .i64 i231), (3, .int .i64 i232)] ⟨rfl, rfl, rfl, trivial⟩ (fun u => ?_)
  refine c_sta ⟨w0, M, H, (1000, ⟨.slice Ap0_0 l228.length cp0_0, 9, 1, l228.length, l228.flatMap (fun x : ByteArray => [Value.string x])⟩) :: R, φ⟩ (fun _ h => h) <| c_seq <| c_seq <| c_region <| g_v rfl r_move <| g_v rfl r_move <| g_v rfl (r_lss rfl rfl) <| g_nil <| d_then ?_
  refine c_cond rfl (fun h306 => ?_) (fun h306 => ?_)
  ·
   replace hm := ite_t hm (of_decide_eq_true h306)
   refine c_skip <| d_then <| c_seq <| c_block <| ga_start (n := 16) ⟨w0, M, H, (1000, ⟨.slice Ap0_0 l228.length cp0_0, 9, 1, l228.length, l228.flatMap (fun x : ByteArray => [Value.string x])⟩) :: R, φ⟩ [13, 15, 14] #[false, false, false, false, false, false, false, false, false, false, false, false, false, false, false, false] (fun W h => h.phi (fun W hφ => hφ)) mixed rfl rfl <| ga_v (i := 0) (bz 16 1) rfl (by kernel_rfl) (fun _ _ _ _ h => h) rfl (r_move) <| ga_v (i := 1) (bz 16 3) rfl (by kernel_rfl) (fun _ _ _ _ h => h) rfl (r_move) <| ga_p (i := 2) (bz 16 7) rfl (.inl rfl) (by kernel_rfl) (fun _ _ _ _ h => h) rfl <| ga_p (i := 3) (bz 16 15) rfl (.inl rfl) (by kernel_rfl) (fun _ _ _ _ h => h) rfl <| ga_v (i := 4) (bz 16 31) rfl (by kernel_rfl) (fun _ _ _ _ h => h) rfl (r_move) ?_
   refine ga_v (i := 5) (bz 16 63) rfl (by kernel_rfl) (fun _ _ _ _ h => h) rfl (r_move) ?_
   replace hm := bnd hm
   obtain ⟨x351, hx351, hm⟩ := hm
   refine ga_know _ (fun W hS => cl_at (p := (Sta.ok ⟨w0, M, H, (1000, ⟨.slice Ap0_0 l228.length cp0_0, 9, 1, l228.length, l228.flatMap (fun x : ByteArray => [Value.string x])⟩) :: R, φ⟩)) (sz := 1) (fun _ => rfl) (by decide) (hS.phi (fun W hφ => hφ)) (fun W hS => rowCl (S := ⟨w0, M, H, (1000, ⟨.slice Ap0_0 l228.length cp0_0, 9, 1, l228.length, l228.flatMap (fun x : ByteArray => [Value.string x])⟩) :: R, φ⟩) (tag := 1000) rfl W hS) hx351) ?_
   rintro ⟨ad352, hA354, f353⟩
   refine ga_v (i := 6) (bz 16 127) rfl (by kernel_rfl) (fun _ _ _ _ h => h) rfl (r_ix Tryd.underlying30 Tryd.sizeOf9 rfl hA354 rfl hx351) <| ga_v (i := 7) (bz 16 255) rfl (by kernel_rfl) (fun _ _ _ _ h => h) rfl (r_ld rfl Tryd.isAgg9 (fun W hS => Cl.head (f353 W hS))) <| ga_v (i := 8) (bz 16 511) rfl (by kernel_rfl) (fun _ _ _ _ h => h) rfl (r_move) <| ga_r (i := 9) (bz 16 1023) rfl (by kernel_rfl) (by decide) rfl (r_move) ?_
   replace hm := bnd hm
   obtain ⟨x355, hx355, hm⟩ := hm
   refine ga_know _ (fun W hS => cl_at (p := (Sta.ok ⟨w0, M, H, (1000, ⟨.slice Ap0_0 l228.length cp0_0, 9, 1, l228.length, l228.flatMap (fun x : ByteArray => [Value.string x])⟩) :: R, φ⟩)) (sz := 1) (fun _ => rfl) (by decide) hS (fun W hS => rowCl (S := ⟨w0, M, H, (1000, ⟨.slice Ap0_0 l228.length cp0_0, 9, 1, l228.length, l228.flatMap (fun x : ByteArray => [Value.string x])⟩) :: R, φ⟩) (tag := 1000) rfl W hS) hx355) ?_
   rintro ⟨ad356, hA358, f357⟩
   refine ga_r (i := 10) (bz 16 2047) rfl (by kernel_rfl) (by decide) rfl (r_ix Tryd.underlying30 Tryd.sizeOf9 rfl hA358 rfl hx355) <| ga_r (i := 11) (bz 16 4095) rfl (by kernel_rfl) (by decide) rfl (r_ld rfl Tryd.isAgg9 (fun W hS => Cl.head (f357 W hS))) ?_
   replace hm := bnd hm
   obtain ⟨x359, hx359, hm⟩ := hm
   refine ga_know _ (fun W hS => cl_at (p := (Sta.ok ⟨w0, M, H, (1000, ⟨.slice Ap0_0 l228.length cp0_0, 9, 1, l228.length, l228.flatMap (fun x : ByteArray => [Value.string x])⟩) :: R, φ⟩)) (sz := 1) (fun _ => rfl) (by decide) hS (fun W hS => rowCl (S := ⟨w0, M, H, (1000, ⟨.slice Ap0_0 l228.length cp0_0, 9, 1, l228.length, l228.flatMap (fun x : ByteArray => [Value.string x])⟩) :: R, φ⟩) (tag := 1000) rfl W hS) hx359) ?_
   rintro ⟨ad360, hA362, f361⟩
   refine ga_r (i := 12) (bz 16 8191) rfl (by kernel_rfl) (by decide) rfl (r_ix Tryd.underlying30 Tryd.sizeOf9 rfl hA362 rfl hx359) ?_
   replace hm := bnd hm
   obtain ⟨l363, hl363, hm⟩ := hm
   refine ga_sL (i := 13) (bz 16 16383) rfl (by kernel_rfl) (by decide) (e_stR (tag := 1000) (enc := (fun x : ByteArray => [Value.string x])) (l := l228) (off := 0) (vs := [.string x351]) (add0 rfl) hA362 rfl rfl hx359 hl363 rfl (Nat.le_of_ble_eq_true rfl) (fun _ => rfl) rfl rfl Tryd.sizeOf9) ?_
   rw [show l228.length = l363.length from (setAt_lenE hl363).symm]
   have hv365 := setAt_at hl363
   have f364 := cl_at2 (p := (Sta.ok ⟨w0, M, H, (1000, ⟨.slice Ap0_0 l363.length cp0_0, 9, 1, l363.length, l363.flatMap (fun x : ByteArray => [Value.string x])⟩) :: R, φ⟩)) (enc := (fun x : ByteArray => [Value.string x])) (sz := 1) (fun _ => rfl) hA362 (fun W hS => rowCl (S := ⟨w0, M, H, (1000, ⟨.slice Ap0_0 l363.length cp0_0, 9, 1, l363.length, l363.flatMap (fun x : ByteArray => [Value.string x])⟩) :: R, φ⟩) (tag := 1000) rfl W hS) hv365
   replace hm := bnd hm
   obtain ⟨x366, hx366, hm⟩ := hm
   refine gz_know _ (fun W hS => cl_at (p := (Sta.ok ⟨w0, M, H, (1000, ⟨.slice Ap0_0 l363.length cp0_0, 9, 1, l363.length, l363.flatMap (fun x : ByteArray => [Value.string x])⟩) :: R, φ⟩)) (sz := 1) (fun _ => rfl) (by decide) hS (fun W hS => rowCl (S := ⟨w0, M, H, (1000, ⟨.slice Ap0_0 l363.length cp0_0, 9, 1, l363.length, l363.flatMap (fun x : ByteArray => [Value.string x])⟩) :: R, φ⟩) (tag := 1000) rfl W hS) hx366) ?_
   rintro ⟨ad367, hA369, f368⟩
   refine gz_v (i := 14) (bz 16 32767) rfl (by kernel_rfl) (by decide) rfl (r_ix Tryd.underlying30 Tryd.sizeOf9 rfl hA369 rfl hx366) ?_
   replace hm := bnd hm
   obtain ⟨l370, hl370, hm⟩ := hm
   refine gz_sL (i := 15) (bz 16 65535) rfl (by kernel_rfl) (by decide) (e_stR (tag := 1000) (enc := (fun x : ByteArray => [Value.string x])) (l := l363) (off := 0) (vs := [.string x355]) (add0 rfl) hA369 rfl rfl hx366 hl370 rfl (Nat.le_of_ble_eq_true rfl) (fun _ => rfl) rfl rfl Tryd.sizeOf9) ?_
   rw [show l363.length = l370.length from (setAt_lenE hl370).symm]
   have hv372 := setAt_at hl370
   have f371 := cl_at2 (p := (Sta.ok ⟨w0, M, H, (1000, ⟨.slice Ap0_0 l370.length cp0_0, 9, 1, l370.length, l370.flatMap (fun x : ByteArray => [Value.string x])⟩) :: R, φ⟩)) (enc := (fun x : ByteArray => [Value.string x])) (sz := 1) (fun _ => rfl) hA369 (fun W hS => rowCl (S := ⟨w0, M, H, (1000, ⟨.slice Ap0_0 l370.length cp0_0, 9, 1, l370.length, l370.flatMap (fun x : ByteArray => [Value.string x])⟩) :: R, φ⟩) (tag := 1000) rfl W hS) hv372
   refine gz_done (by kernel_rfl) <| d_normal_block <| d_then ?_
   refine c_flat [(0, .slice Ap0_0 l370.length cp0_0), (2, .int .i64 i231), (3, .int .i64 i232)] ⟨rfl, rfl, rfl, trivial⟩ (fun u => ?_)
   refine c_sta ⟨w0, M, H, (1000, ⟨.slice Ap0_0 l370.length cp0_0, 9, 1, l370.length, l370.flatMap (fun x : ByteArray => [Value.string x])⟩) :: R, φ⟩ (fun _ h => h) <| c_region <| g_v rfl r_move <| g_v rfl (r_add rfl rfl rfl) <| g_v rfl r_move <| g_v rfl (r_sub rfl rfl rfl) <| g_v rfl r_assign <| g_v rfl r_assign <| g_nil ?_
   obtain ⟨n373, hn373, hlp⟩ := nx_inl hm hnx2
   exact d_round (n373, l370, w64 (i231 + 1), w64 (i232 - 1)) ⟨hlp, ⟨(setAt_len (setAt_len hl228.1 hl363) hl370), ((setAt_lenE hl370).trans ((setAt_lenE hl363).trans hl228.2))⟩⟩ hn373 ⟨rfl, rfl, rfl, trivial⟩ (fun W h => h.phi (fun W hφ => hφ))
  replace hm := ite_f hm (of_decide_eq_false h306)
  refine c_exit <| d_exit_then <| d_exit_then <| d_exit_block ?_
  replace hm := nx_out (C := (fun e : (List ByteArray) => m_slices_Reverse_33_j1 e = some r)) hm hnx2 hr2
  exact d_round l228 ⟨hm, ⟨hl228.1, hl228.2⟩⟩ Nat.zero_lt_one trivial (fun W h => h.phi (fun W hφ => hφ))
 unfold m_slices_Reverse_33_j1 at hm
 refine d_flat [] trivial (fun u => ?_)
 refine d_sta ⟨w0, M, H, (1000, ⟨.slice Ap0_0 l152.length cp0_0, 9, 1, l152.length, l152.flatMap (fun x : ByteArray => [Value.string x])⟩) :: R, φ⟩ (fun _ h => h) ?_
 cases hm
 exact d_retC () Tryd.results33 (res_nil rfl) hl152.2 (fun W h => h.phi (fun W hφ => hφ)) (.inl rfl)
noncomputable def m_name_two (p0 : ByteArray) (p1 : ByteArray) : Option ((List ByteArray) × (List ByteArray) × Bool) :=
  (m_name_Lower p0).bind fun x1 =>
  (m_name_Labels x1).bind fun (z9 : (List ByteArray) × Int) =>
  (m_name_Lower p1).bind fun x10 =>
  (m_name_Labels x10).bind fun (z18 : (List ByteArray) × Int) =>
  (m_slices_Reverse_33 z9.1).bind fun x19 =>
  (m_slices_Reverse_33 z18.1).bind fun x22 =>
  if z9.2 = 0 then
    some (x19, x22, decide (z18.2 = 0))
  else
    some (x19, x22, false)
theorem c_name_two {w0 : World} {M : Nat → Prop} {H : List (Nat × Nat × Obj)} {R : List (Nat × Row)} {φ : World → Prop} (p0 : ByteArray) (p1 : ByteArray) (r : (List ByteArray) × (List ByteArray) × Bool) (hm : m_name_two p0 p1 = some r) :
    Cn Tryd.prog 23 #[.string p0, .string p1] ⟨w0, M, H, R, φ⟩ (fun x : Option Addr × Nat × Option Addr × Nat => .tuple #[.slice x.1 r.1.length x.2.1, .slice x.2.2.1 r.2.1.length x.2.2.2, .bool r.2.2]) (fun x => r.1.length ≤ x.2.1 ∧ r.2.1.length ≤ x.2.2.2) (fun x => ⟨w0, M, H, (2000, ⟨.slice x.1 r.1.length x.2.1, 9, 1, r.1.length, r.1.flatMap (fun x : ByteArray => [Value.string x])⟩) :: (2001, ⟨.slice x.2.2.1 r.2.1.length x.2.2.2, 9, 1, r.2.1.length, r.2.1.flatMap (fun x : ByteArray => [Value.string x])⟩) :: R, φ⟩) := by
 unfold m_name_two at hm
 refine cn_intro (fn := Tryd.f23) (N := 35) Tryd.func23 rfl Tryd.ntmps23 rfl <| c_seq <| c_region ?_
 iterate 3 refine g_v rfl r_assign ?_
 refine g_nil <| d_then <| c_seq <| c_region <| g_v rfl r_move ?_
 replace hm := bnd hm
 obtain ⟨x1, hx2, hm⟩ := hm
 refine g_cn ⟨w0, M, _, _, φ⟩ (fun _ h => h) Tryd.call32 rfl rfl (c_name_Lower p0 _ hx2) (fun _ _ => ?_)
 replace hm := bnd hm
 obtain ⟨⟨x3, x4⟩, hx5, hm⟩ := hm
 refine g_cn ⟨w0, M, _, _, φ⟩ (fun _ h => h) Tryd.call11 rfl rfl (c_name_Labels x1 _ hx5) (fun ⟨A6, c7⟩ hc7 => ?_)
 refine g_sta _ (fun W h => (ok_frontR (t := 2000) (t' := 100140) h rfl)) <| g_v rfl r_move <| g_v rfl (r_extract rfl rfl) <| g_v rfl (r_extract rfl rfl) <| g_v rfl r_assign <| g_v rfl r_assign <| g_nil <| d_then ?_
 refine c_flat [(1, .string p1), (7, .slice A6 x3.length c7), (8, .int .i64 x4)] ⟨rfl, rfl, rfl, trivial⟩ (fun u => ?_)
 refine c_sta ⟨w0, M, H, (100140, ⟨.slice A6 x3.length c7, 9, 1, x3.length, x3.flatMap (fun x : ByteArray => [Value.string x])⟩) :: R, φ⟩ (fun _ h => h) <| c_seq <| c_region <| g_v rfl r_move ?_
 replace hm := bnd hm
 obtain ⟨x10, hx11, hm⟩ := hm
 refine g_cn ⟨w0, M, _, _, φ⟩ (fun _ h => h) Tryd.call32 rfl rfl (c_name_Lower p1 _ hx11) (fun _ _ => ?_)
 replace hm := bnd hm
 obtain ⟨⟨x12, x13⟩, hx14, hm⟩ := hm
 refine g_cn ⟨w0, M, _, _, φ⟩ (fun _ h => h) Tryd.call11 rfl rfl (c_name_Labels x10 _ hx14) (fun ⟨A15, c16⟩ hc16 => ?_)
 refine g_sta _ (fun W h => (ok_frontR (t := 2000) (t' := 100200) h rfl)) <| g_v rfl r_move <| g_v rfl (r_extract rfl rfl) <| g_v rfl (r_extract rfl rfl) <| g_v rfl r_assign <| g_v rfl r_assign <| g_nil <| d_then <| c_seq <| c_region ?_
 refine g_v rfl r_move ?_
 replace hm := bnd hm
 obtain ⟨x19, hx20, hm⟩ := hm
 refine g_cn ⟨w0, M, H, (1000, ⟨.slice A6 x3.length c7, 9, 1, x3.length, x3.flatMap (fun x : ByteArray => [Value.string x])⟩) :: (100200, ⟨.slice A15 x12.length c16, 9, 1, x12.length, x12.flatMap (fun x : ByteArray => [Value.string x])⟩) :: R, φ⟩ (fun W h => (ok_frontR (t := 100140) (t' := 1000) h rfl)) Tryd.call33 rfl rfl (c_slices_Reverse_33 x3 A6 c7 hc7 _ hx20) (fun _ hp21 => ?_)
 refine g_sta _ (fun W h => (ok_frontR (t := 1000) (t' := 100140) h rfl)) ?_
 rw [show x3.length = x19.length from hp21.symm]
 refine g_nil <| d_then ?_
 refine c_flat [(7, .slice A6 x19.length c7), (8, .int .i64 x4), (9, .slice A15 x12.length c16), (10, .int .i64 x13)] ⟨rfl, rfl, rfl, rfl, trivial⟩ (fun u => ?_)
 refine c_sta ⟨w0, M, H, (100140, ⟨.slice A6 x19.length c7, 9, 1, x19.length, x19.flatMap (fun x : ByteArray => [Value.string x])⟩) :: (100200, ⟨.slice A15 x12.length c16, 9, 1, x12.length, x12.flatMap (fun x : ByteArray => [Value.string x])⟩) :: R, φ⟩ (fun _ h => h) <| c_seq <| c_region <| g_v rfl r_move ?_
 replace hm := bnd hm
 obtain ⟨x22, hx23, hm⟩ := hm
 refine g_cn ⟨w0, M, H, (1000, ⟨.slice A15 x12.length c16, 9, 1, x12.length, x12.flatMap (fun x : ByteArray => [Value.string x])⟩) :: (100140, ⟨.slice A6 x19.length c7, 9, 1, x19.length, x19.flatMap (fun x : ByteArray => [Value.string x])⟩) :: R, φ⟩ (fun W h => (ok_frontR (t := 100200) (t' := 1000) h rfl)) Tryd.call33 rfl rfl (c_slices_Reverse_33 x12 A15 c16 hc16 _ hx23) (fun _ hp24 => ?_)
 refine g_sta _ (fun W h => (ok_frontR (t := 1000) (t' := 100200) h rfl)) ?_
 rw [show x12.length = x22.length from hp24.symm]
 refine g_nil <| d_then <| c_seq <| c_region ?_
 iterate 3 refine g_v rfl r_move ?_
 refine g_v rfl (r_eql rfl rfl) <| g_v rfl r_move <| g_sta ⟨w0, M, H, (100200, ⟨.slice A15 x22.length c16, 9, 1, x22.length, x22.flatMap (fun x : ByteArray => [Value.string x])⟩) :: (100140, ⟨.slice A6 x19.length c7, 9, 1, x19.length, x19.flatMap (fun x : ByteArray => [Value.string x])⟩) :: R, φ⟩ (fun _ h => h) ?_
 refine g_if rfl rfl rfl rfl rfl (fun h25 => ?_) (fun h25 => ?_)
 ·
  replace hm := ite_t hm (of_decide_eq_true h25)
  refine g_v rfl r_move <| g_do rfl rfl rfl rfl rfl h25 <| g_v rfl (r_eql rfl rfl) <| g_v rfl (r_pick1 rfl h25) ?_
  iterate 3 refine g_v rfl r_assign ?_
  refine g_nil <| d_then ?_
  refine c_flat [(4, .slice A6 x19.length c7), (5, .slice A15 x22.length c16), (6, .bool (decide (x13 = 0)))] ⟨rfl, rfl, rfl, trivial⟩ (fun u => ?_)
  refine c_ret ?_
  cases hm
  refine d_sta _ (fun W h => ok_frontR (t := 100200) (t' := 2001) h rfl) <| d_sta _ (fun W h => ok_frontR (t := 100140) (t' := 2000) h rfl) ?_
  exact d_retC (A6, c7, A15, c16) Tryd.results23 (res_tmp (res_tmp (res_tmp (res_nil rfl)))) ⟨(Nat.le_trans (Nat.le_of_eq hp21) hc7), (Nat.le_trans (Nat.le_of_eq hp24) hc16)⟩ (fun W h => h.phi (fun W hφ => hφ)) (.inr rfl)
 replace hm := ite_f hm (of_decide_eq_false h25)
 refine g_no rfl rfl rfl rfl rfl h25 <| g_v rfl (r_pick0 rfl h25) ?_
 iterate 3 refine g_v rfl r_assign ?_
 refine g_nil <| d_then ?_
 refine c_flat [(4, .slice A6 x19.length c7), (5, .slice A15 x22.length c16), (6, .bool false)] ⟨rfl, rfl, rfl, trivial⟩ (fun u => ?_)
 refine c_ret ?_
 cases hm
 refine d_sta _ (fun W h => ok_frontR (t := 100200) (t' := 2001) h rfl) <| d_sta _ (fun W h => ok_frontR (t := 100140) (t' := 2000) h rfl) ?_
 exact d_retC (A6, c7, A15, c16) Tryd.results23 (res_tmp (res_tmp (res_tmp (res_nil rfl)))) ⟨(Nat.le_trans (Nat.le_of_eq hp21) hc7), (Nat.le_trans (Nat.le_of_eq hp24) hc16)⟩ (fun W h => h.phi (fun W hφ => hφ)) (.inr rfl)
noncomputable def m_name_Shared_c1 (p0 : Int) (o0 : List ByteArray) (o1 : List ByteArray) : Option Bool :=
  if p0 < (o0.length : Int) then
    if p0 < (o1.length : Int) then
      (at_ o0 p0).bind fun x23 =>
      (at_ o1 p0).bind fun x27 =>
      some (decide (x23 = x27))
    else
      some false
  else
    some false
theorem c_name_Shared_c1 {w0 : World} {M : Nat → Prop} {H : List (Nat × Nat × Obj)} {R : List (Nat × Row)} {φ : World → Prop} (p0 : Int) (go0 : Nat) (o0 : List ByteArray) (Ao0_0 : Option Addr) (co0_0 : Nat) (hco0_0 : o0.length ≤ co0_0) (go1 : Nat) (o1 : List ByteArray) (Ao1_0 : Option Addr) (co1_0 : Nat) (hco1_0 : o1.length ≤ co1_0) (r : Bool) (hm : m_name_Shared_c1 p0 o0 o1 = some r) :
    Cn Tryd.prog 24 #[.int .i64 p0, .pointer (some ⟨go0, 0, none⟩), .pointer (some ⟨go1, 0, none⟩)] ⟨w0, M, (1000, go0, .cells #[.slice Ao0_0 o0.length co0_0] 30 (0, 0)) :: (1001, go1, .cells #[.slice Ao1_0 o1.length co1_0] 30 (0, 0)) :: H, (1000, ⟨.slice Ao0_0 o0.length co0_0, 9, 1, o0.length, o0.flatMap (fun x : ByteArray => [Value.string x])⟩) :: (1001, ⟨.slice Ao1_0 o1.length co1_0, 9, 1, o1.length, o1.flatMap (fun x : ByteArray => [Value.string x])⟩) :: R, φ⟩ (fun x : Unit => .bool r) (fun x => True) (fun x => ⟨w0, M, (1000, go0, .cells #[.slice Ao0_0 o0.length co0_0] 30 (0, 0)) :: (1001, go1, .cells #[.slice Ao1_0 o1.length co1_0] 30 (0, 0)) :: H, (1000, ⟨.slice Ao0_0 o0.length co0_0, 9, 1, o0.length, o0.flatMap (fun x : ByteArray => [Value.string x])⟩) :: (1001, ⟨.slice Ao1_0 o1.length co1_0, 9, 1, o1.length, o1.flatMap (fun x : ByteArray => [Value.string x])⟩) :: R, φ⟩) := by
 unfold m_name_Shared_c1 at hm
 refine cn_intro (fn := Tryd.f24) (N := 26) Tryd.func24 rfl Tryd.ntmps24 rfl <| c_seq <| c_region <| g_v rfl r_assign <| g_nil <| d_then <| c_seq <| ga_start (n := 22) ⟨w0, M, (1000, go0, .cells #[.slice Ao0_0 o0.length co0_0] 30 (0, 0)) :: (1001, go1, .cells #[.slice Ao1_0 o1.length co1_0] 30 (0, 0)) :: H, (1000, ⟨.slice Ao0_0 o0.length co0_0, 9, 1, o0.length, o0.flatMap (fun x : ByteArray => [Value.string x])⟩) :: (1001, ⟨.slice Ao1_0 o1.length co1_0, 9, 1, o1.length, o1.flatMap (fun x : ByteArray => [Value.string x])⟩) :: R, φ⟩ [] #[false, false, false, false, false, false, false, false, false, false, false, false, false, false, false, false, false, false, false, false, false, false] (fun W h => h.phi (fun W hφ => hφ)) mixed rfl rfl <| ga_v (i := 0) (bz 22 1) rfl (by kernel_rfl) (fun _ _ _ _ h => h) rfl (r_move) <| ga_r (i := 1) (bz 22 3) rfl (by kernel_rfl) (by decide) rfl (r_load (tag := 1000) rfl rfl rfl Tryd.isAgg30) ?_
 refine ga_r (i := 2) (bz 22 7) rfl (by kernel_rfl) (by decide) rfl (r_lenL Tryd.underlying30 rfl) <| ga_r (i := 3) (bz 22 15) rfl (by kernel_rfl) (by decide) rfl (r_lss rfl rfl) <| ga_r (i := 4) (bz 22 31) rfl (by kernel_rfl) (by decide) rfl (r_move) ?_
 refine ga_if (t := 9) rfl (fun h21 => ?_) (fun h21 => ?_)
 ·
  replace hm := ite_t hm (of_decide_eq_true h21)
  refine ga_do (i := 5) (bz 22 63) rfl (by kernel_rfl) (fun _ _ _ _ h => h) rfl rfl rfl rfl rfl h21 (r_move) <| ga_rG (i := 6) (bz 22 127) rfl (by kernel_rfl) (by decide) rfl rfl rfl rfl rfl h21 (r_load (tag := 1001) rfl rfl rfl Tryd.isAgg30) <| ga_rG (i := 7) (bz 22 255) rfl (by kernel_rfl) (by decide) rfl rfl rfl rfl rfl h21 (r_lenL Tryd.underlying30 rfl) <| ga_rG (i := 8) (bz 22 511) rfl (by kernel_rfl) (by decide) rfl rfl rfl rfl rfl h21 (r_lss rfl rfl) <| ga_r (i := 9) (bz 22 1023) rfl (by kernel_rfl) (by decide) rfl (r_pick1 rfl h21) <| ga_r (i := 10) (bz 22 2047) rfl (by kernel_rfl) (by decide) rfl (r_move) ?_
  refine ga_if (t := 15) rfl (fun h22 => ?_) (fun h22 => ?_)
  ·
   replace hm := ite_t hm (of_decide_eq_true h22)
   refine ga_do (i := 11) (bz 22 4095) rfl (by kernel_rfl) (fun _ _ _ _ h => h) rfl rfl rfl rfl rfl h22 (r_load (tag := 1000) rfl rfl rfl Tryd.isAgg30) <| ga_do (i := 12) (bz 22 8191) rfl (by kernel_rfl) (fun _ _ _ _ h => h) rfl rfl rfl rfl rfl h22 (r_move) ?_
   replace hm := bnd hm
   obtain ⟨x23, hx23, hm⟩ := hm
   refine ga_know _ (fun W hS => cl_at (p := (Sta.ok ⟨w0, M, (1000, go0, .cells #[.slice Ao0_0 o0.length co0_0] 30 (0, 0)) :: (1001, go1, .cells #[.slice Ao1_0 o1.length co1_0] 30 (0, 0)) :: H, (1000, ⟨.slice Ao0_0 o0.length co0_0, 9, 1, o0.length, o0.flatMap (fun x : ByteArray => [Value.string x])⟩) :: (1001, ⟨.slice Ao1_0 o1.length co1_0, 9, 1, o1.length, o1.flatMap (fun x : ByteArray => [Value.string x])⟩) :: R, φ⟩)) (sz := 1) (fun _ => rfl) (by decide) (hS.phi (fun W hφ => hφ)) (fun W hS => rowCl (S := ⟨w0, M, (1000, go0, .cells #[.slice Ao0_0 o0.length co0_0] 30 (0, 0)) :: (1001, go1, .cells #[.slice Ao1_0 o1.length co1_0] 30 (0, 0)) :: H, (1000, ⟨.slice Ao0_0 o0.length co0_0, 9, 1, o0.length, o0.flatMap (fun x : ByteArray => [Value.string x])⟩) :: (1001, ⟨.slice Ao1_0 o1.length co1_0, 9, 1, o1.length, o1.flatMap (fun x : ByteArray => [Value.string x])⟩) :: R, φ⟩) (tag := 1000) rfl W hS) hx23) ?_
   rintro ⟨ad24, hA26, f25⟩
   refine ga_do (i := 13) (bz 22 16383) rfl (by kernel_rfl) (fun _ _ _ _ h => h) rfl rfl rfl rfl rfl h22 (r_ix Tryd.underlying30 Tryd.sizeOf9 rfl hA26 rfl hx23) <| ga_do (i := 14) (bz 22 32767) rfl (by kernel_rfl) (fun _ _ _ _ h => h) rfl rfl rfl rfl rfl h22 (r_ld rfl Tryd.isAgg9 (fun W hS => Cl.head (f25 W hS))) <| ga_do (i := 15) (bz 22 65535) rfl (by kernel_rfl) (fun _ _ _ _ h => h) rfl rfl rfl rfl rfl h22 (r_load (tag := 1001) rfl rfl rfl Tryd.isAgg30) <| ga_rG (i := 16) (bz 22 131071) rfl (by kernel_rfl) (by decide) rfl rfl rfl rfl rfl h22 (r_move) ?_
   replace hm := bnd hm
   obtain ⟨x27, hx27, hm⟩ := hm
   refine ga_know _ (fun W hS => cl_at (p := (Sta.ok ⟨w0, M, (1000, go0, .cells #[.slice Ao0_0 o0.length co0_0] 30 (0, 0)) :: (1001, go1, .cells #[.slice Ao1_0 o1.length co1_0] 30 (0, 0)) :: H, (1000, ⟨.slice Ao0_0 o0.length co0_0, 9, 1, o0.length, o0.flatMap (fun x : ByteArray => [Value.string x])⟩) :: (1001, ⟨.slice Ao1_0 o1.length co1_0, 9, 1, o1.length, o1.flatMap (fun x : ByteArray => [Value.string x])⟩) :: R, φ⟩)) (sz := 1) (fun _ => rfl) (by decide) hS (fun W hS => rowCl (S := ⟨w0, M, (1000, go0, .cells #[.slice Ao0_0 o0.length co0_0] 30 (0, 0)) :: (1001, go1, .cells #[.slice Ao1_0 o1.length co1_0] 30 (0, 0)) :: H, (1000, ⟨.slice Ao0_0 o0.length co0_0, 9, 1, o0.length, o0.flatMap (fun x : ByteArray => [Value.string x])⟩) :: (1001, ⟨.slice Ao1_0 o1.length co1_0, 9, 1, o1.length, o1.flatMap (fun x : ByteArray => [Value.string x])⟩) :: R, φ⟩) (tag := 1001) rfl W hS) hx27) ?_
   rintro ⟨ad28, hA30, f29⟩
   refine ga_rG (i := 17) (bz 22 262143) rfl (by kernel_rfl) (by decide) rfl rfl rfl rfl rfl h22 (r_ix Tryd.underlying30 Tryd.sizeOf9 rfl hA30 rfl hx27) <| ga_rG (i := 18) (bz 22 524287) rfl (by kernel_rfl) (by decide) rfl rfl rfl rfl rfl h22 (r_ld rfl Tryd.isAgg9 (fun W hS => Cl.head (f29 W hS))) <| ga_rG (i := 19) (bz 22 1048575) rfl (by kernel_rfl) (by decide) rfl rfl rfl rfl rfl h22 (r_eqlT rfl rfl) <| ga_r (i := 20) (bz 22 2097151) rfl (by kernel_rfl) (by decide) rfl (r_pick1 rfl h22) <| ga_r (i := 21) (bz 22 4194303) rfl (by kernel_rfl) (by decide) rfl (r_assign) <| ga_done (by kernel_rfl) <| d_then ?_
   refine c_flat [(4, .bool (decide (x23 = x27)))] ⟨rfl, trivial⟩ (fun u => ?_)
   refine c_sta ⟨w0, M, (1000, go0, .cells #[.slice Ao0_0 o0.length co0_0] 30 (0, 0)) :: (1001, go1, .cells #[.slice Ao1_0 o1.length co1_0] 30 (0, 0)) :: H, (1000, ⟨.slice Ao0_0 o0.length co0_0, 9, 1, o0.length, o0.flatMap (fun x : ByteArray => [Value.string x])⟩) :: (1001, ⟨.slice Ao1_0 o1.length co1_0, 9, 1, o1.length, o1.flatMap (fun x : ByteArray => [Value.string x])⟩) :: R, φ⟩ (fun _ h => h) <| c_ret ?_
   cases hm
   exact d_retC () Tryd.results24 (res_tmp (res_nil rfl)) trivial (fun W h => h.phi (fun W hφ => hφ)) (.inr rfl)
  replace hm := ite_f hm (of_decide_eq_false h22)
  refine ga_no (i := 11) (bz 22 4095) rfl (by kernel_rfl) (fun _ _ _ _ h => h) rfl rfl rfl rfl rfl h22 <| ga_no (i := 12) (bz 22 8191) rfl (by kernel_rfl) (fun _ _ _ _ h => h) rfl rfl rfl rfl rfl h22 <| ga_no (i := 13) (bz 22 16383) rfl (by kernel_rfl) (fun _ _ _ _ h => h) rfl rfl rfl rfl rfl h22 <| ga_no (i := 14) (bz 22 32767) rfl (by kernel_rfl) (fun _ _ _ _ h => h) rfl rfl rfl rfl rfl h22 <| ga_no (i := 15) (bz 22 65535) rfl (by kernel_rfl) (fun _ _ _ _ h => h) rfl rfl rfl rfl rfl h22 <| ga_no (i := 16) (bz 22 131071) rfl (by kernel_rfl) (fun _ _ _ _ h => h) rfl rfl rfl rfl rfl h22 <| ga_no (i := 17) (bz 22 262143) rfl (by kernel_rfl) (fun _ _ _ _ h => h) rfl rfl rfl rfl rfl h22 <| ga_no (i := 18) (bz 22 524287) rfl (by kernel_rfl) (fun _ _ _ _ h => h) rfl rfl rfl rfl rfl h22 <| ga_no (i := 19) (bz 22 1048575) rfl (by kernel_rfl) (fun _ _ _ _ h => h) rfl rfl rfl rfl rfl h22 <| ga_r (i := 20) (bz 22 2097151) rfl (by kernel_rfl) (by decide) rfl (r_pick0 rfl h22) ?_
  refine ga_r (i := 21) (bz 22 4194303) rfl (by kernel_rfl) (by decide) rfl (r_assign) <| ga_done (by kernel_rfl) <| d_then ?_
  refine c_flat [(4, .bool false)] ⟨rfl, trivial⟩ (fun u => ?_)
  refine c_sta ⟨w0, M, (1000, go0, .cells #[.slice Ao0_0 o0.length co0_0] 30 (0, 0)) :: (1001, go1, .cells #[.slice Ao1_0 o1.length co1_0] 30 (0, 0)) :: H, (1000, ⟨.slice Ao0_0 o0.length co0_0, 9, 1, o0.length, o0.flatMap (fun x : ByteArray => [Value.string x])⟩) :: (1001, ⟨.slice Ao1_0 o1.length co1_0, 9, 1, o1.length, o1.flatMap (fun x : ByteArray => [Value.string x])⟩) :: R, φ⟩ (fun _ h => h) <| c_ret ?_
  cases hm
  exact d_retC () Tryd.results24 (res_tmp (res_nil rfl)) trivial (fun W h => h.phi (fun W hφ => hφ)) (.inr rfl)
 replace hm := ite_f hm (of_decide_eq_false h21)
 refine ga_no (i := 5) (bz 22 63) rfl (by kernel_rfl) (fun _ _ _ _ h => h) rfl rfl rfl rfl rfl h21 <| ga_no (i := 6) (bz 22 127) rfl (by kernel_rfl) (fun _ _ _ _ h => h) rfl rfl rfl rfl rfl h21 <| ga_no (i := 7) (bz 22 255) rfl (by kernel_rfl) (fun _ _ _ _ h => h) rfl rfl rfl rfl rfl h21 <| ga_no (i := 8) (bz 22 511) rfl (by kernel_rfl) (fun _ _ _ _ h => h) rfl rfl rfl rfl rfl h21 <| ga_r (i := 9) (bz 22 1023) rfl (by kernel_rfl) (by decide) rfl (r_pick0 rfl h21) <| ga_r (i := 10) (bz 22 2047) rfl (by kernel_rfl) (by decide) rfl (r_move) <| ga_no (i := 11) (bz 22 4095) rfl (by kernel_rfl) (fun _ _ _ _ h => h) rfl rfl rfl rfl rfl rfl <| ga_no (i := 12) (bz 22 8191) rfl (by kernel_rfl) (fun _ _ _ _ h => h) rfl rfl rfl rfl rfl rfl <| ga_no (i := 13) (bz 22 16383) rfl (by kernel_rfl) (fun _ _ _ _ h => h) rfl rfl rfl rfl rfl rfl <| ga_no (i := 14) (bz 22 32767) rfl (by kernel_rfl) (fun _ _ _ _ h => h) rfl rfl rfl rfl rfl rfl ?_
 refine ga_no (i := 15) (bz 22 65535) rfl (by kernel_rfl) (fun _ _ _ _ h => h) rfl rfl rfl rfl rfl rfl <| ga_no (i := 16) (bz 22 131071) rfl (by kernel_rfl) (fun _ _ _ _ h => h) rfl rfl rfl rfl rfl rfl <| ga_no (i := 17) (bz 22 262143) rfl (by kernel_rfl) (fun _ _ _ _ h => h) rfl rfl rfl rfl rfl rfl <| ga_no (i := 18) (bz 22 524287) rfl (by kernel_rfl) (fun _ _ _ _ h => h) rfl rfl rfl rfl rfl rfl <| ga_no (i := 19) (bz 22 1048575) rfl (by kernel_rfl) (fun _ _ _ _ h => h) rfl rfl rfl rfl rfl rfl <| ga_r (i := 20) (bz 22 2097151) rfl (by kernel_rfl) (by decide) rfl (r_pick0 rfl rfl) <| ga_r (i := 21) (bz 22 4194303) rfl (by kernel_rfl) (by decide) rfl (r_assign) <| ga_done (by kernel_rfl) <| d_then ?_
 refine c_flat [(4, .bool false)] ⟨rfl, trivial⟩ (fun u => ?_)
 refine c_sta ⟨w0, M, (1000, go0, .cells #[.slice Ao0_0 o0.length co0_0] 30 (0, 0)) :: (1001, go1, .cells #[.slice Ao1_0 o1.length co1_0] 30 (0, 0)) :: H, (1000, ⟨.slice Ao0_0 o0.length co0_0, 9, 1, o0.length, o0.flatMap (fun x : ByteArray => [Value.string x])⟩) :: (1001, ⟨.slice Ao1_0 o1.length co1_0, 9, 1, o1.length, o1.flatMap (fun x : ByteArray => [Value.string x])⟩) :: R, φ⟩ (fun _ h => h) <| c_ret ?_
 cases hm
 exact d_retC () Tryd.results24 (res_tmp (res_nil rfl)) trivial (fun W h => h.phi (fun W hφ => hφ)) (.inr rfl)
noncomputable def m_name_Shared_j1  (i25 : Int) : Option Int :=
  some i25
noncomputable def m_name_Shared_s2 (x1 : List ByteArray) (x2 : List ByteArray) (i30 : Int) : Option (Int ⊕ Int) :=
  (m_name_Shared_c1 i30 x1 x2).bind fun x36 =>
  if x36 = true then
    some (.inl (w64 (i30 + 1)))
  else
    some (.inr i30)
noncomputable def m_name_Shared (p0 : ByteArray) (p1 : ByteArray) : Option Int :=
  (m_name_two p0 p1).bind fun (z11 : (List ByteArray) × (List ByteArray) × Bool) =>
  if z11.2.2 = true then
    (loop (fun s => m_name_Shared_s2 z11.1 z11.2.1 s) 0).bind fun e => m_name_Shared_j1 e
  else
    some (-1)
theorem c_name_Shared {w0 : World} {M : Nat → Prop} {H : List (Nat × Nat × Obj)} {R : List (Nat × Row)} {φ : World → Prop} (p0 : ByteArray) (p1 : ByteArray) (r : Int) (hm : m_name_Shared p0 p1 = some r) :
    Cn Tryd.prog 13 #[.string p0, .string p1] ⟨w0, M, H, R, φ⟩ (fun x : Unit => .int .i64 r) (fun x => True) (fun x => ⟨w0, M, H, R, φ⟩) := by
 unfold m_name_Shared at hm
 refine cn_intro (fn := Tryd.f13) (N := 26) Tryd.func13 rfl Tryd.ntmps13 rfl <| c_seq <| c_region <| g_v rfl r_assign <| g_nil <| d_then <| c_seq <| c_region <| g_v rfl r_move <| g_v rfl r_move ?_
 replace hm := bnd hm
 obtain ⟨⟨x1, x2, x3⟩, hx4, hm⟩ := hm
 refine g_cn ⟨w0, M, _, _, φ⟩ (fun _ h => h) Tryd.call23 rfl rfl (c_name_two p0 p1 _ hx4) (fun ⟨A5, c6, A8, c9⟩ ⟨hc6, hc9⟩ => ?_)
 refine g_sta _ (fun W h => (ok_frontR (t := 2000) (t' := 100130) (ok_frontR (t := 2001) (t' := 100131) h rfl) rfl)) <| g_v rfl r_move ?_
 iterate 3 refine g_v rfl (r_extract rfl rfl) ?_
 refine g_e rfl (e_alloc 100050 Tryd.zeroValue30) (fun g12 _ => ?_)
 refine g_e rfl (e_alloc 100060 Tryd.zeroValue30) (fun g13 _ => ?_)
 refine g_storeL (tag := 100050) rfl rfl rfl rfl Tryd.sizeOf30 rfl rfl <| g_storeL (tag := 100060) rfl rfl rfl rfl Tryd.sizeOf30 rfl rfl <| g_v rfl r_assign <| g_nil <| d_then ?_
 refine c_flat [(5, .pointer (some ⟨g12, 0, none⟩)), (6, .pointer (some ⟨g13, 0, none⟩)), (7, .bool x3)] ⟨rfl, rfl, rfl, trivial⟩ (fun u => ?_)
 refine c_sta ⟨w0, M, (100060, g13, .cells #[.slice A8 x2.length c9] 30 (0, 0)) :: (100050, g12, .cells #[.slice A5 x1.length c6] 30 (0, 0)) :: H, (100130, ⟨.slice A5 x1.length c6, 9, 1, x1.length, x1.flatMap (fun x : ByteArray => [Value.string x])⟩) :: (100131, ⟨.slice A8 x2.length c9, 9, 1, x2.length, x2.flatMap (fun x : ByteArray => [Value.string x])⟩) :: R, φ⟩ (fun _ h => h) <| c_seq <| c_seq <| c_region <| g_v rfl r_move <| g_v rfl (r_not rfl) <| g_nil <| d_then ?_
 refine c_cond rfl (fun h14 => ?_) (fun h14 => ?_)
 ·
  have h14' : x3 = false := by revert h14; cases x3 <;> simp
  replace hm := ite_f hm (bool_nt h14')
  refine c_seq <| c_region <| g_v rfl r_assign <| g_nil <| d_then <| c_ret <| d_ret_then ?_
  cases hm
  exact d_retC () Tryd.results13 (res_tmp (res_nil rfl)) trivial (fun W h => ok_pre (H1 := [_, _]) (R1 := [_, _]) h (fun W hφ => hφ)) (.inr rfl)
 have h14' : x3 = true := by revert h14; cases x3 <;> simp
 replace hm := ite_t hm h14'
 refine c_skip <| d_then <| c_seq <| c_region <| g_v rfl (r_mkf rfl) <| g_v rfl r_assign <| g_nil <| d_then <| c_seq <| c_region ?_
 refine g_v rfl r_assign <| g_nil <| d_then <| c_seq ?_
 refine c_cut (ι := Int) [9] (fun i25 => [(9, .int .i64 i25)]) (fun i25 => ⟨w0, M, H, R, φ⟩) (fun i25 => m_name_Shared_j1 i25 = some r) ?_ (fun i25 u hm => ?_)
 ·
  refine c_block ?_
  replace hm := bnd hm
  obtain ⟨out2, hl2, hr2⟩ := hm
  obtain ⟨n35', hl2⟩ := loop_lp hl2
  refine c_loopU (ι := Nat × Int) [8, 9] (fun ⟨n35, i30⟩ => [(9, .int .i64 i30)]) (fun ⟨n35, i30⟩ => ⟨w0, M, (100060, g13, .cells #[.slice A8 x2.length c9] 30 (0, 0)) :: (100050, g12, .cells #[.slice A5 x1.length c6] 30 (0, 0)) :: H, (100130, ⟨.slice A5 x1.length c6, 9, 1, x1.length, x1.flatMap (fun x : ByteArray => [Value.string x])⟩) :: (100131, ⟨.slice A8 x2.length c9, 9, 1, x2.length, x2.flatMap (fun x : ByteArray => [Value.string x])⟩) :: R, φ⟩) (fun ⟨n35, i30⟩ => Lp (fun s => m_name_Shared_s2 x1 x2 s) n35 i30 out2) (fun ⟨n35, i30⟩ => n35) (n35', 0) hl2 ⟨rfl, rfl, trivial⟩ (fun W h => h.phi (fun W hφ => hφ)) (fun ⟨n35, i30⟩ u hlp => ?_)
  obtain ⟨o2, hm, hnx2⟩ := lp_step hlp
  clear hlp
  replace hm : m_name_Shared_s2 x1 x2 i30 = some o2 := hm
  unfold m_name_Shared_s2 at hm
  refine c_flat [(8, .func (.func 24) #[] #[.pointer (some ⟨g12, 0, none⟩), .pointer (some ⟨g13, 0, none⟩)]), (9, .int .i64 i30)] ⟨rfl, rfl, trivial⟩ (fun u => ?_)
  refine c_seq <| c_seq <| c_region <| g_v rfl r_move <| g_v rfl r_move ?_
  replace hm := bnd hm
  obtain ⟨x36, hx37, hm⟩ := hm
  refine g_cnv ⟨w0, M, (1000, g12, .cells #[.slice A5 x1.length c6] 30 (0, 0)) :: (1001, g13, .cells #[.slice A8 x2.length c9] 30 (0, 0)) :: H, (1000, ⟨.slice A5 x1.length c6, 9, 1, x1.length, x1.flatMap (fun x : ByteArray => [Value.string x])⟩) :: (1001, ⟨.slice A8 x2.length c9, 9, 1, x2.length, x2.flatMap (fun x : ByteArray => [Value.string x])⟩) :: R, φ⟩ (fun W h => (ok_front (t := 100050) (t' := 1000) (ok_front (t := 100060) (t' := 1001) (ok_frontR (t := 100130) (t' := 1000) (ok_frontR (t := 100131) (t' := 1001) h rfl) rfl) rfl) rfl)) Tryd.call24 rfl rfl rfl (c_name_Shared_c1 i30 g12 x1 A5 c6 hc6 g13 x2 A8 c9 hc9 _ hx37) (fun _ _ => ?_)
  refine g_sta _ (fun W h => (ok_frontR (t := 1000) (t' := 100130) (ok_frontR (t := 1001) (t' := 100131) (ok_front (t := 1000) (t' := 100050) (ok_front (t := 1001) (t' := 100060) h rfl) rfl) rfl) rfl)) <| g_nil <| d_then <| c_sta ⟨w0, M, (100050, g12, .cells #[.slice A5 x1.length c6] 30 (0, 0)) :: (100060, g13, .cells #[.slice A8 x2.length c9] 30 (0, 0)) :: H, (100130, ⟨.slice A5 x1.length c6, 9, 1, x1.length, x1.flatMap (fun x : ByteArray => [Value.string x])⟩) :: (100131, ⟨.slice A8 x2.length c9, 9, 1, x2.length, x2.flatMap (fun x : ByteArray => [Value.string x])⟩) :: R, φ⟩ (fun _ h => h) ?_
  refine c_cond rfl (fun h38 => ?_) (fun h38 => ?_)
  ·
   replace hm := ite_t hm h38
   refine c_skip <| d_then <| c_block <| c_region <| g_v rfl r_move <| g_v rfl (r_add rfl rfl rfl) <| g_v rfl r_assign <| g_nil <| d_normal_block ?_
   obtain ⟨n39, hn39, hlp⟩ := nx_inl hm hnx2
   exact d_round (n39, w64 (i30 + 1)) hlp hn39 ⟨rfl, rfl, trivial⟩ (fun W h => (ok_front (t := 100060) (t' := 100060) (ok_front (t := 100050) (t' := 100050) h rfl) rfl).phi (fun W hφ => hφ))
  replace hm := ite_f hm (bool_nt h38)
  refine c_exit <| d_exit_then <| d_exit_then <| d_exit_block ?_
  replace hm := nx_out (C := (fun e : Int => m_name_Shared_j1 e = some r)) hm hnx2 hr2
  exact d_round i30 hm Nat.zero_lt_one ⟨rfl, trivial⟩ (fun W h => ((((h.dropR (t := 100130) rfl).dropR (t := 100131) rfl).dropH (t := 100050) rfl).dropH (t := 100060) rfl).phi (fun W hφ => hφ))
 unfold m_name_Shared_j1 at hm
 refine d_flat [(9, .int .i64 i25)] ⟨rfl, trivial⟩ (fun u => ?_)
 refine d_sta ⟨w0, M, H, R, φ⟩ (fun _ h => h) <| d_then <| c_seq <| c_region <| g_v rfl r_move <| g_v rfl r_assign <| g_nil <| d_then <| c_ret ?_
 cases hm
 exact d_retC () Tryd.results13 (res_tmp (res_nil rfl)) trivial (fun W h => ok_pre (H1 := []) (R1 := []) h (fun W hφ => hφ)) (.inr rfl)
noncomputable def m_name_Under (p0 : ByteArray) (p1 : ByteArray) : Option Bool :=
  (m_name_Depth p1).bind fun x1 =>
  if 0 ≤ x1 then
    (m_name_Shared p0 p1).bind fun x4 =>
    some (decide (x4 = x1))
  else
    some false
theorem c_name_Under {w0 : World} {M : Nat → Prop} {H : List (Nat × Nat × Obj)} {R : List (Nat × Row)} {φ : World → Prop} (p0 : ByteArray) (p1 : ByteArray) (r : Bool) (hm : m_name_Under p0 p1 = some r) :
    Cn Tryd.prog 12 #[.string p0, .string p1] ⟨w0, M, H, R, φ⟩ (fun x : Unit => .bool r) (fun x => True) (fun x => ⟨w0, M, H, R, φ⟩) := by
 unfold m_name_Under at hm
 refine cn_intro (fn := Tryd.f12) (N := 17) Tryd.func12 rfl Tryd.ntmps12 rfl <| c_seq <| c_region <| g_v rfl r_assign <| g_nil <| d_then <| c_seq <| c_region <| g_v rfl r_move ?_
 replace hm := bnd hm
 obtain ⟨x1, hx2, hm⟩ := hm
 refine g_cn ⟨w0, M, _, _, φ⟩ (fun _ h => h) Tryd.call15 rfl rfl (c_name_Depth p1 _ hx2) (fun _ _ => ?_)
 refine g_v rfl r_assign <| g_nil <| d_then <| c_seq <| c_region <| g_v rfl r_move <| g_v rfl (r_geq rfl rfl) <| g_v rfl r_move ?_
 refine g_if rfl rfl rfl rfl rfl (fun h3 => ?_) (fun h3 => ?_)
 ·
  replace hm := ite_t hm (of_decide_eq_true h3)
  refine g_v rfl r_move <| g_do rfl rfl rfl rfl rfl h3 <| g_v rfl r_move <| g_do rfl rfl rfl rfl rfl h3 ?_
  replace hm := bnd hm
  obtain ⟨x4, hx5, hm⟩ := hm
  refine g_cn ⟨w0, M, _, _, φ⟩ (fun _ h => h) Tryd.call13 rfl rfl (c_name_Shared p0 p1 _ hx5) (fun _ _ => ?_)
  refine g_do rfl rfl rfl rfl rfl h3 <| g_v rfl r_move <| g_do rfl rfl rfl rfl rfl h3 <| g_v rfl (r_eql rfl rfl) <| g_v rfl (r_pick1 rfl h3) <| g_v rfl r_assign <| g_nil <| d_then ?_
  refine c_flat [(4, .bool (decide (x4 = x1)))] ⟨rfl, trivial⟩ (fun u => ?_)
  refine c_sta ⟨w0, M, H, R, φ⟩ (fun _ h => h) <| c_ret ?_
  cases hm
  exact d_retC () Tryd.results12 (res_tmp (res_nil rfl)) trivial (fun W h => ok_pre (H1 := []) (R1 := []) h (fun W hφ => hφ)) (.inr rfl)
 replace hm := ite_f hm (of_decide_eq_false h3)
 iterate 4 refine g_no rfl rfl rfl rfl rfl h3 ?_
 refine g_v rfl (r_pick0 rfl h3) <| g_v rfl r_assign <| g_nil <| d_then ?_
 refine c_flat [(4, .bool false)] ⟨rfl, trivial⟩ (fun u => ?_)
 refine c_sta ⟨w0, M, H, R, φ⟩ (fun _ h => h) <| c_ret ?_
 cases hm
 exact d_retC () Tryd.results12 (res_tmp (res_nil rfl)) trivial (fun W h => ok_pre (H1 := []) (R1 := []) h (fun W hφ => hφ)) (.inr rfl)
theorem lit3_5 (z0 : Int) : Tryd.prog.builtSlice 3 1 [(0, .int .i64 z0)] = some #[.int .i64 z0] := by kernel_rfl
theorem inf3_6  : (Tryd.prog.info? 3).map (fun i => (i.zero, i.size, i.bytes)) = some (some (.int .i64 0), 1, 8) := by kernel_rfl
noncomputable def m_name_Check (p0 : ByteArray) : Option Int :=
  (m_name_Labels p0).bind fun (z7 : (List ByteArray) × Int) =>
  some z7.2
theorem c_name_Check {w0 : World} {M : Nat → Prop} {H : List (Nat × Nat × Obj)} {R : List (Nat × Row)} {φ : World → Prop} (p0 : ByteArray) (r : Int) (hm : m_name_Check p0 = some r) :
    Cn Tryd.prog 25 #[.string p0] ⟨w0, M, H, R, φ⟩ (fun x : Unit => .int .i64 r) (fun x => True) (fun x => ⟨w0, M, H, R, φ⟩) := by
 unfold m_name_Check at hm
 refine cn_intro (fn := Tryd.f25) (N := 11) Tryd.func25 rfl Tryd.ntmps25 rfl <| c_seq <| c_region <| g_v rfl r_assign <| g_nil <| d_then <| c_seq <| c_region <| g_v rfl r_move ?_
 replace hm := bnd hm
 obtain ⟨⟨x1, x2⟩, hx3, hm⟩ := hm
 refine g_cn ⟨w0, M, _, _, φ⟩ (fun _ h => h) Tryd.call11 rfl rfl (c_name_Labels p0 _ hx3) (fun ⟨A4, c5⟩ hc5 => ?_)
 refine g_sta _ (fun W h => (ok_frontR (t := 2000) (t' := 100070) h rfl)) <| g_v rfl r_move <| g_v rfl (r_extract rfl rfl) <| g_v rfl (r_extract rfl rfl) <| g_v rfl r_assign <| g_v rfl r_assign <| g_nil <| d_then <| c_seq <| c_region ?_
 refine g_v rfl r_move <| g_v rfl r_assign <| g_nil <| d_then ?_
 refine c_flat [(2, .int .i64 x2)] ⟨rfl, trivial⟩ (fun u => ?_)
 refine c_sta ⟨w0, M, H, (100070, ⟨.slice A4 x1.length c5, 9, 1, x1.length, x1.flatMap (fun x : ByteArray => [Value.string x])⟩) :: R, φ⟩ (fun _ h => h) <| c_ret ?_
 cases hm
 exact d_retC () Tryd.results25 (res_tmp (res_nil rfl)) trivial (fun W h => ok_pre (H1 := []) (R1 := [_]) h (fun W hφ => hφ)) (.inr rfl)
noncomputable def m_name_Cut (p0 : ByteArray) (p1 : Int) : Option ByteArray :=
  (eachM p0).bind fun _ =>
  (m_name_Check p0).bind fun x9 =>
  if x9 ≠ 0 then
    some (⟨#[]⟩ : ByteArray)
  else
    if (((eachP p0).1.map Prod.fst).length : Int) ≤ p1 then
      some p0
    else
      if p1 < 1 then
        (scutLo p0 ((eachP p0).2)).bind fun s14 =>
        some s14
      else
        (at_ ((eachP p0).1.map Prod.fst) (w64 ((((eachP p0).1.map Prod.fst).length : Int) - p1))).bind fun x15 =>
        (scutLo p0 x15).bind fun s19 =>
        some s19
theorem c_name_Cut {w0 : World} {M : Nat → Prop} {H : List (Nat × Nat × Obj)} {R : List (Nat × Row)} {φ : World → Prop} (p0 : ByteArray) (p1 : Int) (r : ByteArray) (hm : m_name_Cut p0 p1 = some r) :
    Cn Tryd.prog 14 #[.string p0, .int .i64 p1] ⟨w0, M, H, R, φ⟩ (fun x : Unit => .string r) (fun x => True) (fun x => ⟨w0, M, H, R, φ⟩) := by
 unfold m_name_Cut at hm
 refine cn_introM (fn := Tryd.f14) (N := 41) Tryd.func14 rfl Tryd.ntmps14 rfl <| c_seq <| c_region <| g_v rfl r_assign <| g_nil <| d_then <| c_seq <| c_region ?_
 refine g_e rfl (e_alloc 100050 Tryd.zeroValue53) (fun g1 _ => ?_)
 refine g_nil <| d_then <| c_seq <| c_region ?_
 refine g_e rfl (e_alloc 100060 Tryd.zeroValue3) (fun g2 _ => ?_)
 refine g_storeL (tag := 100060) rfl rfl rfl rfl Tryd.sizeOf3 rfl rfl <| g_nil <| d_then <| c_seq <| c_seq <| c_region <| g_v rfl r_move ?_
 refine g_cn ⟨w0, M, _, _, φ⟩ (fun _ h => h) Tryd.call22 rfl rfl (c_each p0 g2) (fun ⟨g3, g4⟩ _ => ?_)
 refine g_sta _ (fun W h => ok_front (t := 3000) (t' := 100095) (ok_front (t := 3001) (t' := 100096) h rfl) rfl) <| g_nil <| d_then <| c_block <| c_sta _ (fun W h => nilR (ok_front (t := 100060) (t' := 0) (ok_front (t := 100095) (t' := 1) (ok_front (t := 100096) (t' := 2) (ok_front (t := 100050) (t' := 3) h rfl) rfl) rfl) rfl) 4 3 1) ?_
 replace hm := bnd hm
 obtain ⟨_, hz8, hm⟩ := hm
 replace hz8 := (eachM_some hz8).1
 refine c_collect Prod.fst (fun x : Int => Value.int .i64 x) rfl rfl hz8 (.inr rfl) (.inr ⟨rfl, fun _ => rfl⟩) Tryd.underlying53 inf3_6 rfl (by decide) (by decide) (fun _ => lit3_5 _) (fun _ => rfl) Tryd.sizeOf53 Tryd.isAgg53 rfl rfl rfl (fun A6 c7 g5 hc7 => ?_)
 refine d_sta _ (fun W h => (ok_front (t := 0) (t' := 100060) (ok_front (t := 1) (t' := 100095) (ok_front (t := 2) (t' := 100096) (ok_front (t := 3) (t' := 100050) h rfl) rfl) rfl) rfl)) <| d_normal_block <| d_then <| c_seq <| c_block <| c_seq <| c_region <| g_v rfl r_move ?_
 replace hm := bnd hm
 obtain ⟨x9, hx10, hm⟩ := hm
 refine g_cn ⟨w0, M, _, _, φ⟩ (fun _ h => h) Tryd.call25 rfl rfl (c_name_Check p0 _ hx10) (fun _ _ => ?_)
 refine g_v rfl (r_neq rfl rfl) <| g_v rfl r_assign <| g_nil <| d_then ?_
 refine c_flat [(0, .string p0), (1, .int .i64 p1), (5, .pointer (some ⟨g1, 0, none⟩)), (6, .pointer (some ⟨g2, 0, none⟩)), (16, .bool (decide (x9 ≠ 0)))] ⟨rfl, rfl, rfl, rfl, rfl, trivial⟩ (fun u => ?_)
 refine c_sta ⟨w0, M, (100060, g2, .cells #[.int .i64 ((eachP p0).2)] 3 (0, 0)) :: (100095, g3, .cells #[.pointer (some ⟨g2, 0, none⟩)] 49 (0, 0)) :: (100096, g4, .cells #[.string p0] 9 (0, 0)) :: (100050, g1, .cells #[.slice A6 ((eachP p0).1.map Prod.fst).length c7] 53 (0, 0)) :: (5, g5, .deferred (some [])) :: H, (4, ⟨.slice A6 ((eachP p0).1.map Prod.fst).length c7, 3, 1, ((eachP p0).1.map Prod.fst).length, ((eachP p0).1.map Prod.fst).flatMap (fun x : Int => [Value.int .i64 x])⟩) :: R, φ⟩ (fun _ h => h) ?_
 refine c_cond rfl (fun h11 => ?_) (fun h11 => ?_)
 ·
  replace hm := ite_t hm (of_decide_eq_true h11)
  refine c_seq <| c_region <| g_v rfl r_assign <| g_nil <| d_then <| c_ret <| d_ret_block <| d_ret_then ?_
  cases hm
  exact d_retM (tD := 5) () Tryd.results14 (res_tmp (res_nil rfl)) trivial rfl (by simp) (fun W h => ok_pre (H1 := [_, _, _, _]) (R1 := [_]) h (fun W hφ => hφ)) (.inr rfl)
 replace hm := ite_f hm (of_decide_eq_false h11)
 refine c_seq <| c_region <| g_v rfl r_move <| g_v rfl (r_load (tag := 100050) rfl rfl rfl Tryd.isAgg53) <| g_v rfl (r_lenL Tryd.underlying53 rfl) <| g_v rfl (r_geq rfl rfl) <| g_v rfl r_assign <| g_nil <| d_then ?_
 refine c_cond rfl (fun h12 => ?_) (fun h12 => ?_)
 ·
  replace hm := ite_t hm (of_decide_eq_true h12)
  refine c_seq <| c_region <| g_v rfl r_move <| g_v rfl r_assign <| g_nil <| d_then <| c_ret <| d_ret_block <| d_ret_then ?_
  cases hm
  exact d_retM (tD := 5) () Tryd.results14 (res_tmp (res_nil rfl)) trivial rfl (by simp) (fun W h => ok_pre (H1 := [_, _, _, _]) (R1 := [_]) h (fun W hφ => hφ)) (.inr rfl)
 replace hm := ite_f hm (of_decide_eq_false h12)
 refine c_seq <| c_region <| g_v rfl r_move <| g_v rfl (r_lss rfl rfl) <| g_v rfl r_assign <| g_nil <| d_then ?_
 refine c_cond rfl (fun h13 => ?_) (fun h13 => ?_)
 ·
  replace hm := ite_t hm (of_decide_eq_true h13)
  refine c_seq <| c_region <| g_v rfl r_move <| g_v rfl (r_load (tag := 100060) rfl rfl rfl Tryd.isAgg3) ?_
  replace hm := bnd hm
  obtain ⟨s14, hs14, hm⟩ := hm
  refine g_v rfl (r_scutLo Tryd.underlying9 rfl rfl hs14) <| g_v rfl r_assign <| g_nil <| d_then ?_
  refine c_flat [(4, .string s14)] ⟨rfl, trivial⟩ (fun u => ?_)
  refine c_ret <| d_ret_block <| d_ret_then ?_
  cases hm
  exact d_retM (tD := 5) () Tryd.results14 (res_tmp (res_nil rfl)) trivial rfl (by simp) (fun W h => ok_pre (H1 := [_, _, _, _]) (R1 := [_]) h (fun W hφ => hφ)) (.inr rfl)
 replace hm := ite_f hm (of_decide_eq_false h13)
 refine c_skip <| d_normal_block <| d_then <| c_seq <| c_region <| g_v rfl r_move <| g_v rfl (r_load (tag := 100050) rfl rfl rfl Tryd.isAgg53) <| g_v rfl (r_load (tag := 100050) rfl rfl rfl Tryd.isAgg53) <| g_v rfl (r_lenL Tryd.underlying53 rfl) <| g_v rfl r_move ?_
 refine g_v rfl (r_sub rfl rfl rfl) ?_
 replace hm := bnd hm
 obtain ⟨x15, hx15, hm⟩ := hm
 refine g_know _ (fun W hS => cl_at (p := (Sta.ok ⟨w0, M, (100060, g2, .cells #[.int .i64 ((eachP p0).2)] 3 (0, 0)) :: (100095, g3, .cells #[.pointer (some ⟨g2, 0, none⟩)] 49 (0, 0)) :: (100096, g4, .cells #[.string p0] 9 (0, 0)) :: (100050, g1, .cells #[.slice A6 ((eachP p0).1.map Prod.fst).length c7] 53 (0, 0)) :: (5, g5, .deferred (some [])) :: H, (4, ⟨.slice A6 ((eachP p0).1.map Prod.fst).length c7, 3, 1, ((eachP p0).1.map Prod.fst).length, ((eachP p0).1.map Prod.fst).flatMap (fun x : Int => [Value.int .i64 x])⟩) :: R, φ⟩)) (sz := 1) (fun _ => rfl) (by decide) hS (fun W hS => rowCl (S := ⟨w0, M, (100060, g2, .cells #[.int .i64 ((eachP p0).2)] 3 (0, 0)) :: (100095, g3, .cells #[.pointer (some ⟨g2, 0, none⟩)] 49 (0, 0)) :: (100096, g4, .cells #[.string p0] 9 (0, 0)) :: (100050, g1, .cells #[.slice A6 ((eachP p0).1.map Prod.fst).length c7] 53 (0, 0)) :: (5, g5, .deferred (some [])) :: H, (4, ⟨.slice A6 ((eachP p0).1.map Prod.fst).length c7, 3, 1, ((eachP p0).1.map Prod.fst).length, ((eachP p0).1.map Prod.fst).flatMap (fun x : Int => [Value.int .i64 x])⟩) :: R, φ⟩) (tag := 4) rfl W hS) hx15) ?_
 rintro ⟨ad16, hA18, f17⟩
 refine g_v rfl (r_ix Tryd.underlying53 Tryd.sizeOf3 rfl hA18 rfl hx15) <| g_v rfl (r_ld rfl Tryd.isAgg3 (fun W hS => Cl.head (f17 W hS))) ?_
 replace hm := bnd hm
 obtain ⟨s19, hs19, hm⟩ := hm
 refine g_v rfl (r_scutLo Tryd.underlying9 rfl rfl hs19) <| g_v rfl r_assign <| g_nil <| d_then ?_
 refine c_flat [(4, .string s19)] ⟨rfl, trivial⟩ (fun u => ?_)
 refine c_ret ?_
 cases hm
 exact d_retM (tD := 5) () Tryd.results14 (res_tmp (res_nil rfl)) trivial rfl (by simp) (fun W h => ok_pre (H1 := [_, _, _, _]) (R1 := [_]) h (fun W hφ => hφ)) (.inr rfl)
noncomputable def m_law03_awake  : Option Bool :=
  (m_name_Make ([(⟨#[119, 119, 119]⟩ : ByteArray), (⟨#[97]⟩ : ByteArray)])).bind fun (z5 : ByteArray × Int) =>
  (m_name_Parse (⟨#[97]⟩ : ByteArray)).bind fun (z9 : ByteArray × Int) =>
  (m_name_Parse (⟨#[97, 46, 46, 98]⟩ : ByteArray)).bind fun (z13 : ByteArray × Int) =>
  (m_name_Parse (⟨#[92, 48, 52, 54, 46, 98]⟩ : ByteArray)).bind fun (z17 : ByteArray × Int) =>
  (m_name_Labels z17.1).bind fun (z24 : (List ByteArray) × Int) =>
  if z5.1 = (⟨#[3, 119, 119, 119, 1, 97, 0]⟩ : ByteArray) then
    if z5.2 = 0 then
      (m_name_Text z5.1).bind fun x27 =>
      if x27 = (⟨#[119, 119, 119, 46, 97, 46]⟩ : ByteArray) then
        (m_name_Text (⟨#[0]⟩ : ByteArray)).bind fun x30 =>
        if x30 = (⟨#[46]⟩ : ByteArray) then
          if z9.2 = 0 then
            (m_name_Under z5.1 z9.1).bind fun x34 =>
            if x34 = true then
              (m_name_Shared z5.1 (⟨#[1, 98, 1, 65, 0]⟩ : ByteArray)).bind fun x37 =>
              if x37 = 1 then
                (m_name_Cut z5.1 1).bind fun x40 =>
                if x40 = z9.1 then
                  if z13.2 = 10 then
                    if z17.2 = 0 then
                      if z24.2 = 0 then
                        if (z24.1.length : Int) = 2 then
                          (at_ z24.1 0).bind fun x47 =>
                          if x47 = (⟨#[46]⟩ : ByteArray) then
                            (m_name_Depth z5.1).bind fun x52 =>
                            some (decide (x52 = 2))
                          else
                            some false
                        else
                          some false
                      else
                        some false
                    else
                      some false
                  else
                    some false
                else
                  some false
              else
                some false
            else
              some false
          else
            some false
        else
          some false
      else
        some false
    else
      some false
  else
    some false
theorem c_law03_awake {w0 : World} {M : Nat → Prop} {H : List (Nat × Nat × Obj)} {R : List (Nat × Row)} {φ : World → Prop}  (r : Bool) (hm : m_law03_awake = some r) :
    Cn Tryd.prog 4 #[] ⟨w0, M, H, R, φ⟩ (fun x : Unit => .bool r) (fun x => True) (fun x => ⟨w0, M, H, R, φ⟩) := by
 unfold m_law03_awake at hm
 refine cn_intro (fn := Tryd.f4) (N := 96) Tryd.func4 rfl Tryd.ntmps4 rfl <| c_seq <| c_region <| g_v rfl r_assign <| g_nil <| d_then <| c_seq <| c_region ?_
 refine g_e rfl (e_lit (tag := 100120) (l := [(⟨#[119, 119, 119]⟩ : ByteArray), (⟨#[97]⟩ : ByteArray)]) (enc := (fun x : ByteArray => [Value.string x])) (sz := 1) rfl Tryd.underlying30 (lit9_0 _ _) rfl rfl (fun _ => rfl)) (fun g1 _ => ?_)
 replace hm := bnd hm
 obtain ⟨⟨x2, x3⟩, hx4, hm⟩ := hm
 refine g_cn ⟨w0, M, _, _, φ⟩ (fun _ h => h) Tryd.call10 rfl rfl (c_name_Make ([(⟨#[119, 119, 119]⟩ : ByteArray), (⟨#[97]⟩ : ByteArray)]) (some ⟨g1, 0, none⟩) 2 (Nat.le_refl _) (fun W hS => rowCl (tag := 100120) rfl W hS) _ hx4) (fun _ _ => ?_)
 refine g_v rfl r_move <| g_v rfl (r_extract rfl rfl) <| g_v rfl (r_extract rfl rfl) <| g_v rfl r_assign <| g_v rfl r_assign <| g_nil <| d_then <| c_seq <| c_region ?_
 replace hm := bnd hm
 obtain ⟨⟨x6, x7⟩, hx8, hm⟩ := hm
 refine g_cn ⟨w0, M, _, _, φ⟩ (fun _ h => h) Tryd.call6 rfl rfl (c_name_Parse (⟨#[97]⟩ : ByteArray) _ hx8) (fun _ _ => ?_)
 refine g_v rfl r_move <| g_v rfl (r_extract rfl rfl) <| g_v rfl (r_extract rfl rfl) <| g_v rfl r_assign <| g_v rfl r_assign <| g_nil <| d_then ?_
 refine c_flat [(1, .string x2), (2, .int .i64 x3), (3, .string x6), (4, .int .i64 x7)] ⟨rfl, rfl, rfl, rfl, trivial⟩ (fun u => ?_)
 refine c_sta ⟨w0, M, H, (100120, ⟨.slice (some ⟨g1, 0, none⟩) ([(⟨#[119, 119, 119]⟩ : ByteArray), (⟨#[97]⟩ : ByteArray)]).length 2, 9, 1, ([(⟨#[119, 119, 119]⟩ : ByteArray), (⟨#[97]⟩ : ByteArray)]).length, ([(⟨#[119, 119, 119]⟩ : ByteArray), (⟨#[97]⟩ : ByteArray)]).flatMap (fun x : ByteArray => [Value.string x])⟩) :: R, φ⟩ (fun _ h => h) <| c_seq <| c_region ?_
 replace hm := bnd hm
 obtain ⟨⟨x10, x11⟩, hx12, hm⟩ := hm
 refine g_cn ⟨w0, M, _, _, φ⟩ (fun _ h => h) Tryd.call6 rfl rfl (c_name_Parse (⟨#[97, 46, 46, 98]⟩ : ByteArray) _ hx12) (fun _ _ => ?_)
 refine g_v rfl r_move <| g_v rfl (r_extract rfl rfl) <| g_v rfl (r_extract rfl rfl) <| g_v rfl r_assign <| g_v rfl r_assign <| g_nil <| d_then <| c_seq <| c_region ?_
 replace hm := bnd hm
 obtain ⟨⟨x14, x15⟩, hx16, hm⟩ := hm
 refine g_cn ⟨w0, M, _, _, φ⟩ (fun _ h => h) Tryd.call6 rfl rfl (c_name_Parse (⟨#[92, 48, 52, 54, 46, 98]⟩ : ByteArray) _ hx16) (fun _ _ => ?_)
 refine g_v rfl r_move <| g_v rfl (r_extract rfl rfl) <| g_v rfl (r_extract rfl rfl) <| g_v rfl r_assign <| g_v rfl r_assign <| g_nil <| d_then ?_
 refine c_flat [(1, .string x2), (2, .int .i64 x3), (3, .string x6), (4, .int .i64 x7), (6, .int .i64 x11), (7, .string x14), (8, .int .i64 x15)] ⟨rfl, rfl, rfl, rfl, rfl, rfl, rfl, trivial⟩ (fun u => ?_)
 refine c_seq <| c_region <| g_v rfl r_move ?_
 replace hm := bnd hm
 obtain ⟨⟨x18, x19⟩, hx20, hm⟩ := hm
 refine g_cn ⟨w0, M, _, _, φ⟩ (fun _ h => h) Tryd.call11 rfl rfl (c_name_Labels x14 _ hx20) (fun ⟨A21, c22⟩ hc22 => ?_)
 refine g_sta _ (fun W h => (ok_frontR (t := 2000) (t' := 100300) h rfl)) <| g_v rfl r_move <| g_v rfl (r_extract rfl rfl) <| g_v rfl (r_extract rfl rfl) <| g_v rfl r_assign <| g_v rfl r_assign <| g_nil <| d_then <| c_seq <| c_region ?_
 refine g_v rfl r_move <| g_v rfl (r_eqlT rfl rfl) <| g_v rfl r_move <| g_sta ⟨w0, M, H, (100300, ⟨.slice A21 x18.length c22, 9, 1, x18.length, x18.flatMap (fun x : ByteArray => [Value.string x])⟩) :: (100120, ⟨.slice (some ⟨g1, 0, none⟩) ([(⟨#[119, 119, 119]⟩ : ByteArray), (⟨#[97]⟩ : ByteArray)]).length 2, 9, 1, ([(⟨#[119, 119, 119]⟩ : ByteArray), (⟨#[97]⟩ : ByteArray)]).length, ([(⟨#[119, 119, 119]⟩ : ByteArray), (⟨#[97]⟩ : ByteArray)]).flatMap (fun x : ByteArray => [Value.string x])⟩) :: R, φ⟩ (fun _ h => h) ?_
 refine g_if rfl rfl rfl rfl rfl (fun h25 => ?_) (fun h25 => ?_)
 ·
  replace hm := ite_t hm (of_decide_eq_true h25)
  refine g_v rfl r_move <| g_do rfl rfl rfl rfl rfl h25 <| g_v rfl (r_eql rfl rfl) <| g_v rfl (r_pick1 rfl h25) <| g_v rfl r_move ?_
  refine g_if rfl rfl rfl rfl rfl (fun h26 => ?_) (fun h26 => ?_)
  ·
   replace hm := ite_t hm (of_decide_eq_true h26)
   refine g_v rfl r_move <| g_do rfl rfl rfl rfl rfl h26 ?_
   replace hm := bnd hm
   obtain ⟨x27, hx28, hm⟩ := hm
   refine g_cn ⟨w0, M, _, _, φ⟩ (fun _ h => h) Tryd.call8 rfl rfl (c_name_Text x2 _ hx28) (fun _ _ => ?_)
   refine g_do rfl rfl rfl rfl rfl h26 <| g_v rfl (r_eqlT rfl rfl) <| g_v rfl (r_pick1 rfl h26) <| g_v rfl r_move ?_
   refine g_if rfl rfl rfl rfl rfl (fun h29 => ?_) (fun h29 => ?_)
   ·
    replace hm := ite_t hm (of_decide_eq_true h29)
    replace hm := bnd hm
    obtain ⟨x30, hx31, hm⟩ := hm
    refine g_cn ⟨w0, M, _, _, φ⟩ (fun _ h => h) Tryd.call8 rfl rfl (c_name_Text (⟨#[0]⟩ : ByteArray) _ hx31) (fun _ _ => ?_)
    refine g_do rfl rfl rfl rfl rfl h29 <| g_v rfl (r_eqlT rfl rfl) <| g_v rfl (r_pick1 rfl h29) <| g_v rfl r_move ?_
    refine g_if rfl rfl rfl rfl rfl (fun h32 => ?_) (fun h32 => ?_)
    ·
     replace hm := ite_t hm (of_decide_eq_true h32)
     refine g_v rfl r_move <| g_do rfl rfl rfl rfl rfl h32 <| g_v rfl (r_eql rfl rfl) <| g_v rfl (r_pick1 rfl h32) <| g_v rfl r_move ?_
     refine g_if rfl rfl rfl rfl rfl (fun h33 => ?_) (fun h33 => ?_)
     ·
      replace hm := ite_t hm (of_decide_eq_true h33)
      refine g_v rfl r_move <| g_do rfl rfl rfl rfl rfl h33 <| g_v rfl r_move <| g_do rfl rfl rfl rfl rfl h33 ?_
      replace hm := bnd hm
      obtain ⟨x34, hx35, hm⟩ := hm
      refine g_cn ⟨w0, M, _, _, φ⟩ (fun _ h => h) Tryd.call12 rfl rfl (c_name_Under x2 x6 _ hx35) (fun _ _ => ?_)
      refine g_v rfl (r_pick1 rfl h33) <| g_v rfl r_move ?_
      refine g_if rfl rfl rfl rfl rfl (fun h36 => ?_) (fun h36 => ?_)
      ·
       replace hm := ite_t hm h36
       refine g_v rfl r_move <| g_do rfl rfl rfl rfl rfl h36 ?_
       replace hm := bnd hm
       obtain ⟨x37, hx38, hm⟩ := hm
       refine g_cn ⟨w0, M, _, _, φ⟩ (fun _ h => h) Tryd.call13 rfl rfl (c_name_Shared x2 (⟨#[1, 98, 1, 65, 0]⟩ : ByteArray) _ hx38) (fun _ _ => ?_)
       refine g_do rfl rfl rfl rfl rfl h36 <| g_v rfl (r_eql rfl rfl) <| g_v rfl (r_pick1 rfl h36) <| g_v rfl r_move ?_
       refine g_if rfl rfl rfl rfl rfl (fun h39 => ?_) (fun h39 => ?_)
       ·
        replace hm := ite_t hm (of_decide_eq_true h39)
        refine g_v rfl r_move <| g_do rfl rfl rfl rfl rfl h39 ?_
        replace hm := bnd hm
        obtain ⟨x40, hx41, hm⟩ := hm
        refine g_cn ⟨w0, M, _, _, φ⟩ (fun _ h => h) Tryd.call14 rfl rfl (c_name_Cut x2 1 _ hx41) (fun _ _ => ?_)
        refine g_do rfl rfl rfl rfl rfl h39 <| g_v rfl r_move <| g_do rfl rfl rfl rfl rfl h39 <| g_v rfl (r_eqlT rfl rfl) <| g_v rfl (r_pick1 rfl h39) <| g_v rfl r_move ?_
        refine g_if rfl rfl rfl rfl rfl (fun h42 => ?_) (fun h42 => ?_)
        ·
         replace hm := ite_t hm (of_decide_eq_true h42)
         refine g_v rfl r_move <| g_do rfl rfl rfl rfl rfl h42 <| g_v rfl (r_eql rfl rfl) <| g_v rfl (r_pick1 rfl h42) <| g_v rfl r_move ?_
         refine g_if rfl rfl rfl rfl rfl (fun h43 => ?_) (fun h43 => ?_)
         ·
          replace hm := ite_t hm (of_decide_eq_true h43)
          refine g_v rfl r_move <| g_do rfl rfl rfl rfl rfl h43 <| g_v rfl (r_eql rfl rfl) <| g_v rfl (r_pick1 rfl h43) <| g_v rfl r_move ?_
          refine g_if rfl rfl rfl rfl rfl (fun h44 => ?_) (fun h44 => ?_)
          ·
           replace hm := ite_t hm (of_decide_eq_true h44)
           refine g_v rfl r_move <| g_do rfl rfl rfl rfl rfl h44 <| g_v rfl (r_eql rfl rfl) <| g_v rfl (r_pick1 rfl h44) <| g_v rfl r_move ?_
           refine g_if rfl rfl rfl rfl rfl (fun h45 => ?_) (fun h45 => ?_)
           ·
            replace hm := ite_t hm (of_decide_eq_true h45)
            refine g_v rfl r_move <| g_do rfl rfl rfl rfl rfl h45 <| g_v rfl (r_lenL Tryd.underlying30 rfl) <| g_do rfl rfl rfl rfl rfl h45 <| g_v rfl (r_eql rfl rfl) <| g_v rfl (r_pick1 rfl h45) <| g_v rfl r_move ?_
            refine g_if rfl rfl rfl rfl rfl (fun h46 => ?_) (fun h46 => ?_)
            ·
             replace hm := ite_t hm (of_decide_eq_true h46)
             refine g_v rfl r_move <| g_do rfl rfl rfl rfl rfl h46 ?_
             replace hm := bnd hm
             obtain ⟨x47, hx47, hm⟩ := hm
             refine g_know _ (fun W hS => cl_at (p := (Sta.ok ⟨w0, M, H, (100300, ⟨.slice A21 x18.length c22, 9, 1, x18.length, x18.flatMap (fun x : ByteArray => [Value.string x])⟩) :: (100120, ⟨.slice (some ⟨g1, 0, none⟩) ([(⟨#[119, 119, 119]⟩ : ByteArray), (⟨#[97]⟩ : ByteArray)]).length 2, 9, 1, ([(⟨#[119, 119, 119]⟩ : ByteArray), (⟨#[97]⟩ : ByteArray)]).length, ([(⟨#[119, 119, 119]⟩ : ByteArray), (⟨#[97]⟩ : ByteArray)]).flatMap (fun x : ByteArray => [Value.string x])⟩) :: R, φ⟩)) (sz := 1) (fun _ => rfl) (by decide) hS (fun W hS => rowCl (S := ⟨w0, M, H, (100300, ⟨.slice A21 x18.length c22, 9, 1, x18.length, x18.flatMap (fun x : ByteArray => [Value.string x])⟩) :: (100120, ⟨.slice (some ⟨g1, 0, none⟩) ([(⟨#[119, 119, 119]⟩ : ByteArray), (⟨#[97]⟩ : ByteArray)]).length 2, 9, 1, ([(⟨#[119, 119, 119]⟩ : ByteArray), (⟨#[97]⟩ : ByteArray)]).length, ([(⟨#[119, 119, 119]⟩ : ByteArray), (⟨#[97]⟩ : ByteArray)]).flatMap (fun x : ByteArray => [Value.string x])⟩) :: R, φ⟩) (tag := 100300) rfl W hS) hx47) ?_
             rintro ⟨ad48, hA50, f49⟩
             refine g_v rfl (r_ix Tryd.underlying30 Tryd.sizeOf9 rfl hA50 rfl hx47) <| g_do rfl rfl rfl rfl rfl h46 <| g_v rfl (r_ld rfl Tryd.isAgg9 (fun W hS => Cl.head (f49 W hS))) <| g_do rfl rfl rfl rfl rfl h46 <| g_v rfl (r_eqlT rfl rfl) <| g_v rfl (r_pick1 rfl h46) <| g_v rfl r_move ?_
             refine g_if rfl rfl rfl rfl rfl (fun h51 => ?_) (fun h51 => ?_)
             ·
              replace hm := ite_t hm (of_decide_eq_true h51)
              refine g_v rfl r_move <| g_do rfl rfl rfl rfl rfl h51 ?_
              replace hm := bnd hm
              obtain ⟨x52, hx53, hm⟩ := hm
              refine g_cn ⟨w0, M, _, _, φ⟩ (fun _ h => h) Tryd.call15 rfl rfl (c_name_Depth x2 _ hx53) (fun _ _ => ?_)
              refine g_do rfl rfl rfl rfl rfl h51 <| g_v rfl (r_eql rfl rfl) <| g_v rfl (r_pick1 rfl h51) <| g_v rfl r_assign <| g_nil <| d_then ?_
              refine c_flat [(0, .bool (decide (x52 = 2)))] ⟨rfl, trivial⟩ (fun u => ?_)
              refine c_ret ?_
              cases hm
              exact d_retC () Tryd.results4 (res_tmp (res_nil rfl)) trivial (fun W h => ok_pre (H1 := []) (R1 := [_, _]) h (fun W hφ => hφ)) (.inr rfl)
             replace hm := ite_f hm (of_decide_eq_false h51)
             refine g_no rfl rfl rfl rfl rfl h51 <| g_no rfl rfl rfl rfl rfl h51 <| g_v rfl (r_pick0 rfl h51) <| g_v rfl r_assign <| g_nil <| d_then ?_
             refine c_flat [(0, .bool false)] ⟨rfl, trivial⟩ (fun u => ?_)
             refine c_ret ?_
             cases hm
             exact d_retC () Tryd.results4 (res_tmp (res_nil rfl)) trivial (fun W h => ok_pre (H1 := []) (R1 := [_, _]) h (fun W hφ => hφ)) (.inr rfl)
            replace hm := ite_f hm (of_decide_eq_false h46)
            iterate 3 refine g_no rfl rfl rfl rfl rfl h46 ?_
            refine g_v rfl (r_pick0 rfl h46) <| g_v rfl r_move ?_
            iterate 3 refine g_no rfl rfl rfl rfl rfl rfl ?_
            refine g_v rfl (r_pick0 rfl rfl) <| g_v rfl r_assign <| g_nil <| d_then ?_
            refine c_flat [(0, .bool false)] ⟨rfl, trivial⟩ (fun u => ?_)
            refine c_ret ?_
            cases hm
            exact d_retC () Tryd.results4 (res_tmp (res_nil rfl)) trivial (fun W h => ok_pre (H1 := []) (R1 := [_, _]) h (fun W hφ => hφ)) (.inr rfl)
           replace hm := ite_f hm (of_decide_eq_false h45)
           refine g_no rfl rfl rfl rfl rfl h45 <| g_no rfl rfl rfl rfl rfl h45 <| g_v rfl (r_pick0 rfl h45) <| g_v rfl r_move ?_
           iterate 4 refine g_no rfl rfl rfl rfl rfl rfl ?_
           refine g_v rfl (r_pick0 rfl rfl) <| g_v rfl r_move ?_
           iterate 3 refine g_no rfl rfl rfl rfl rfl rfl ?_
           refine g_v rfl (r_pick0 rfl rfl) <| g_v rfl r_assign <| g_nil <| d_then ?_
           refine c_flat [(0, .bool false)] ⟨rfl, trivial⟩ (fun u => ?_)
           refine c_ret ?_
           cases hm
           exact d_retC () Tryd.results4 (res_tmp (res_nil rfl)) trivial (fun W h => ok_pre (H1 := []) (R1 := [_, _]) h (fun W hφ => hφ)) (.inr rfl)
          replace hm := ite_f hm (of_decide_eq_false h44)
          refine g_no rfl rfl rfl rfl rfl h44 <| g_v rfl (r_pick0 rfl h44) <| g_v rfl r_move ?_
          iterate 3 refine g_no rfl rfl rfl rfl rfl rfl ?_
          refine g_v rfl (r_pick0 rfl rfl) <| g_v rfl r_move ?_
          iterate 4 refine g_no rfl rfl rfl rfl rfl rfl ?_
          refine g_v rfl (r_pick0 rfl rfl) <| g_v rfl r_move ?_
          iterate 3 refine g_no rfl rfl rfl rfl rfl rfl ?_
          refine g_v rfl (r_pick0 rfl rfl) <| g_v rfl r_assign <| g_nil <| d_then ?_
          refine c_flat [(0, .bool false)] ⟨rfl, trivial⟩ (fun u => ?_)
          refine c_ret ?_
          cases hm
          exact d_retC () Tryd.results4 (res_tmp (res_nil rfl)) trivial (fun W h => ok_pre (H1 := []) (R1 := [_, _]) h (fun W hφ => hφ)) (.inr rfl)
         replace hm := ite_f hm (of_decide_eq_false h43)
         refine g_no rfl rfl rfl rfl rfl h43 <| g_v rfl (r_pick0 rfl h43) <| g_v rfl r_move <| g_no rfl rfl rfl rfl rfl rfl <| g_no rfl rfl rfl rfl rfl rfl <| g_v rfl (r_pick0 rfl rfl) <| g_v rfl r_move ?_
         iterate 3 refine g_no rfl rfl rfl rfl rfl rfl ?_
         refine g_v rfl (r_pick0 rfl rfl) <| g_v rfl r_move ?_
         iterate 4 refine g_no rfl rfl rfl rfl rfl rfl ?_
         refine g_v rfl (r_pick0 rfl rfl) <| g_v rfl r_move ?_
         iterate 3 refine g_no rfl rfl rfl rfl rfl rfl ?_
         refine g_v rfl (r_pick0 rfl rfl) <| g_v rfl r_assign <| g_nil <| d_then ?_
         refine c_flat [(0, .bool false)] ⟨rfl, trivial⟩ (fun u => ?_)
         refine c_ret ?_
         cases hm
         exact d_retC () Tryd.results4 (res_tmp (res_nil rfl)) trivial (fun W h => ok_pre (H1 := []) (R1 := [_, _]) h (fun W hφ => hφ)) (.inr rfl)
        replace hm := ite_f hm (of_decide_eq_false h42)
        refine g_no rfl rfl rfl rfl rfl h42 <| g_v rfl (r_pick0 rfl h42) <| g_v rfl r_move <| g_no rfl rfl rfl rfl rfl rfl <| g_no rfl rfl rfl rfl rfl rfl <| g_v rfl (r_pick0 rfl rfl) <| g_v rfl r_move <| g_no rfl rfl rfl rfl rfl rfl <| g_no rfl rfl rfl rfl rfl rfl <| g_v rfl (r_pick0 rfl rfl) ?_
        refine g_v rfl r_move ?_
        iterate 3 refine g_no rfl rfl rfl rfl rfl rfl ?_
        refine g_v rfl (r_pick0 rfl rfl) <| g_v rfl r_move ?_
        iterate 4 refine g_no rfl rfl rfl rfl rfl rfl ?_
        refine g_v rfl (r_pick0 rfl rfl) <| g_v rfl r_move ?_
        iterate 3 refine g_no rfl rfl rfl rfl rfl rfl ?_
        refine g_v rfl (r_pick0 rfl rfl) <| g_v rfl r_assign <| g_nil <| d_then ?_
        refine c_flat [(0, .bool false)] ⟨rfl, trivial⟩ (fun u => ?_)
        refine c_ret ?_
        cases hm
        exact d_retC () Tryd.results4 (res_tmp (res_nil rfl)) trivial (fun W h => ok_pre (H1 := []) (R1 := [_, _]) h (fun W hφ => hφ)) (.inr rfl)
       replace hm := ite_f hm (of_decide_eq_false h39)
       iterate 3 refine g_no rfl rfl rfl rfl rfl h39 ?_
       refine g_v rfl (r_pick0 rfl h39) <| g_v rfl r_move <| g_no rfl rfl rfl rfl rfl rfl <| g_no rfl rfl rfl rfl rfl rfl <| g_v rfl (r_pick0 rfl rfl) <| g_v rfl r_move <| g_no rfl rfl rfl rfl rfl rfl <| g_no rfl rfl rfl rfl rfl rfl <| g_v rfl (r_pick0 rfl rfl) <| g_v rfl r_move ?_
       refine g_no rfl rfl rfl rfl rfl rfl <| g_no rfl rfl rfl rfl rfl rfl <| g_v rfl (r_pick0 rfl rfl) <| g_v rfl r_move ?_
       iterate 3 refine g_no rfl rfl rfl rfl rfl rfl ?_
       refine g_v rfl (r_pick0 rfl rfl) <| g_v rfl r_move ?_
       iterate 4 refine g_no rfl rfl rfl rfl rfl rfl ?_
       refine g_v rfl (r_pick0 rfl rfl) <| g_v rfl r_move ?_
       iterate 3 refine g_no rfl rfl rfl rfl rfl rfl ?_
       refine g_v rfl (r_pick0 rfl rfl) <| g_v rfl r_assign <| g_nil <| d_then ?_
       refine c_flat [(0, .bool false)] ⟨rfl, trivial⟩ (fun u => ?_)
       refine c_ret ?_
       cases hm
       exact d_retC () Tryd.results4 (res_tmp (res_nil rfl)) trivial (fun W h => ok_pre (H1 := []) (R1 := [_, _]) h (fun W hφ => hφ)) (.inr rfl)
      replace hm := ite_f hm (bool_nt h36)
      refine g_no rfl rfl rfl rfl rfl h36 <| g_no rfl rfl rfl rfl rfl h36 <| g_v rfl (r_pick0 rfl h36) <| g_v rfl r_move ?_
      iterate 4 refine g_no rfl rfl rfl rfl rfl rfl ?_
      refine g_v rfl (r_pick0 rfl rfl) <| g_v rfl r_move <| g_no rfl rfl rfl rfl rfl rfl <| g_no rfl rfl rfl rfl rfl rfl <| g_v rfl (r_pick0 rfl rfl) <| g_v rfl r_move <| g_no rfl rfl rfl rfl rfl rfl <| g_no rfl rfl rfl rfl rfl rfl <| g_v rfl (r_pick0 rfl rfl) <| g_v rfl r_move ?_
      refine g_no rfl rfl rfl rfl rfl rfl <| g_no rfl rfl rfl rfl rfl rfl <| g_v rfl (r_pick0 rfl rfl) <| g_v rfl r_move ?_
      iterate 3 refine g_no rfl rfl rfl rfl rfl rfl ?_
      refine g_v rfl (r_pick0 rfl rfl) <| g_v rfl r_move ?_
      iterate 4 refine g_no rfl rfl rfl rfl rfl rfl ?_
      refine g_v rfl (r_pick0 rfl rfl) <| g_v rfl r_move ?_
      iterate 3 refine g_no rfl rfl rfl rfl rfl rfl ?_
      refine g_v rfl (r_pick0 rfl rfl) <| g_v rfl r_assign <| g_nil <| d_then ?_
      refine c_flat [(0, .bool false)] ⟨rfl, trivial⟩ (fun u => ?_)
      refine c_ret ?_
      cases hm
      exact d_retC () Tryd.results4 (res_tmp (res_nil rfl)) trivial (fun W h => ok_pre (H1 := []) (R1 := [_, _]) h (fun W hφ => hφ)) (.inr rfl)
     replace hm := ite_f hm (of_decide_eq_false h33)
     refine g_no rfl rfl rfl rfl rfl h33 <| g_no rfl rfl rfl rfl rfl h33 <| g_v rfl (r_pick0 rfl h33) <| g_v rfl r_move ?_
     iterate 3 refine g_no rfl rfl rfl rfl rfl rfl ?_
     refine g_v rfl (r_pick0 rfl rfl) <| g_v rfl r_move ?_
     iterate 4 refine g_no rfl rfl rfl rfl rfl rfl ?_
     refine g_v rfl (r_pick0 rfl rfl) <| g_v rfl r_move <| g_no rfl rfl rfl rfl rfl rfl <| g_no rfl rfl rfl rfl rfl rfl <| g_v rfl (r_pick0 rfl rfl) <| g_v rfl r_move <| g_no rfl rfl rfl rfl rfl rfl <| g_no rfl rfl rfl rfl rfl rfl <| g_v rfl (r_pick0 rfl rfl) <| g_v rfl r_move ?_
     refine g_no rfl rfl rfl rfl rfl rfl <| g_no rfl rfl rfl rfl rfl rfl <| g_v rfl (r_pick0 rfl rfl) <| g_v rfl r_move ?_
     iterate 3 refine g_no rfl rfl rfl rfl rfl rfl ?_
     refine g_v rfl (r_pick0 rfl rfl) <| g_v rfl r_move ?_
     iterate 4 refine g_no rfl rfl rfl rfl rfl rfl ?_
     refine g_v rfl (r_pick0 rfl rfl) <| g_v rfl r_move ?_
     iterate 3 refine g_no rfl rfl rfl rfl rfl rfl ?_
     refine g_v rfl (r_pick0 rfl rfl) <| g_v rfl r_assign <| g_nil <| d_then ?_
     refine c_flat [(0, .bool false)] ⟨rfl, trivial⟩ (fun u => ?_)
     refine c_ret ?_
     cases hm
     exact d_retC () Tryd.results4 (res_tmp (res_nil rfl)) trivial (fun W h => ok_pre (H1 := []) (R1 := [_, _]) h (fun W hφ => hφ)) (.inr rfl)
    replace hm := ite_f hm (of_decide_eq_false h32)
    refine g_no rfl rfl rfl rfl rfl h32 <| g_v rfl (r_pick0 rfl h32) <| g_v rfl r_move ?_
    iterate 3 refine g_no rfl rfl rfl rfl rfl rfl ?_
    refine g_v rfl (r_pick0 rfl rfl) <| g_v rfl r_move ?_
    iterate 3 refine g_no rfl rfl rfl rfl rfl rfl ?_
    refine g_v rfl (r_pick0 rfl rfl) <| g_v rfl r_move ?_
    iterate 4 refine g_no rfl rfl rfl rfl rfl rfl ?_
    refine g_v rfl (r_pick0 rfl rfl) <| g_v rfl r_move <| g_no rfl rfl rfl rfl rfl rfl <| g_no rfl rfl rfl rfl rfl rfl <| g_v rfl (r_pick0 rfl rfl) <| g_v rfl r_move <| g_no rfl rfl rfl rfl rfl rfl <| g_no rfl rfl rfl rfl rfl rfl <| g_v rfl (r_pick0 rfl rfl) <| g_v rfl r_move ?_
    refine g_no rfl rfl rfl rfl rfl rfl <| g_no rfl rfl rfl rfl rfl rfl <| g_v rfl (r_pick0 rfl rfl) <| g_v rfl r_move ?_
    iterate 3 refine g_no rfl rfl rfl rfl rfl rfl ?_
    refine g_v rfl (r_pick0 rfl rfl) <| g_v rfl r_move ?_
    iterate 4 refine g_no rfl rfl rfl rfl rfl rfl ?_
    refine g_v rfl (r_pick0 rfl rfl) <| g_v rfl r_move ?_
    iterate 3 refine g_no rfl rfl rfl rfl rfl rfl ?_
    refine g_v rfl (r_pick0 rfl rfl) <| g_v rfl r_assign <| g_nil <| d_then ?_
    refine c_flat [(0, .bool false)] ⟨rfl, trivial⟩ (fun u => ?_)
    refine c_ret ?_
    cases hm
    exact d_retC () Tryd.results4 (res_tmp (res_nil rfl)) trivial (fun W h => ok_pre (H1 := []) (R1 := [_, _]) h (fun W hφ => hφ)) (.inr rfl)
   replace hm := ite_f hm (of_decide_eq_false h29)
   refine g_no rfl rfl rfl rfl rfl h29 <| g_v rfl (r_pick0 rfl h29) <| g_v rfl r_move <| g_no rfl rfl rfl rfl rfl rfl <| g_no rfl rfl rfl rfl rfl rfl <| g_v rfl (r_pick0 rfl rfl) <| g_v rfl r_move ?_
   iterate 3 refine g_no rfl rfl rfl rfl rfl rfl ?_
   refine g_v rfl (r_pick0 rfl rfl) <| g_v rfl r_move ?_
   iterate 3 refine g_no rfl rfl rfl rfl rfl rfl ?_
   refine g_v rfl (r_pick0 rfl rfl) <| g_v rfl r_move ?_
   iterate 4 refine g_no rfl rfl rfl rfl rfl rfl ?_
   refine g_v rfl (r_pick0 rfl rfl) <| g_v rfl r_move <| g_no rfl rfl rfl rfl rfl rfl <| g_no rfl rfl rfl rfl rfl rfl <| g_v rfl (r_pick0 rfl rfl) <| g_v rfl r_move <| g_no rfl rfl rfl rfl rfl rfl <| g_no rfl rfl rfl rfl rfl rfl <| g_v rfl (r_pick0 rfl rfl) <| g_v rfl r_move ?_
   refine g_no rfl rfl rfl rfl rfl rfl <| g_no rfl rfl rfl rfl rfl rfl <| g_v rfl (r_pick0 rfl rfl) <| g_v rfl r_move ?_
   iterate 3 refine g_no rfl rfl rfl rfl rfl rfl ?_
   refine g_v rfl (r_pick0 rfl rfl) <| g_v rfl r_move ?_
   iterate 4 refine g_no rfl rfl rfl rfl rfl rfl ?_
   refine g_v rfl (r_pick0 rfl rfl) <| g_v rfl r_move ?_
   iterate 3 refine g_no rfl rfl rfl rfl rfl rfl ?_
   refine g_v rfl (r_pick0 rfl rfl) <| g_v rfl r_assign <| g_nil <| d_then ?_
   refine c_flat [(0, .bool false)] ⟨rfl, trivial⟩ (fun u => ?_)
   refine c_ret ?_
   cases hm
   exact d_retC () Tryd.results4 (res_tmp (res_nil rfl)) trivial (fun W h => ok_pre (H1 := []) (R1 := [_, _]) h (fun W hφ => hφ)) (.inr rfl)
  replace hm := ite_f hm (of_decide_eq_false h26)
  refine g_no rfl rfl rfl rfl rfl h26 <| g_no rfl rfl rfl rfl rfl h26 <| g_v rfl (r_pick0 rfl h26) <| g_v rfl r_move <| g_no rfl rfl rfl rfl rfl rfl <| g_no rfl rfl rfl rfl rfl rfl <| g_v rfl (r_pick0 rfl rfl) <| g_v rfl r_move <| g_no rfl rfl rfl rfl rfl rfl <| g_no rfl rfl rfl rfl rfl rfl ?_
  refine g_v rfl (r_pick0 rfl rfl) <| g_v rfl r_move ?_
  iterate 3 refine g_no rfl rfl rfl rfl rfl rfl ?_
  refine g_v rfl (r_pick0 rfl rfl) <| g_v rfl r_move ?_
  iterate 3 refine g_no rfl rfl rfl rfl rfl rfl ?_
  refine g_v rfl (r_pick0 rfl rfl) <| g_v rfl r_move ?_
  iterate 4 refine g_no rfl rfl rfl rfl rfl rfl ?_
  refine g_v rfl (r_pick0 rfl rfl) <| g_v rfl r_move <| g_no rfl rfl rfl rfl rfl rfl <| g_no rfl rfl rfl rfl rfl rfl <| g_v rfl (r_pick0 rfl rfl) <| g_v rfl r_move <| g_no rfl rfl rfl rfl rfl rfl <| g_no rfl rfl rfl rfl rfl rfl <| g_v rfl (r_pick0 rfl rfl) <| g_v rfl r_move ?_
  refine g_no rfl rfl rfl rfl rfl rfl <| g_no rfl rfl rfl rfl rfl rfl <| g_v rfl (r_pick0 rfl rfl) <| g_v rfl r_move ?_
  iterate 3 refine g_no rfl rfl rfl rfl rfl rfl ?_
  refine g_v rfl (r_pick0 rfl rfl) <| g_v rfl r_move ?_
  iterate 4 refine g_no rfl rfl rfl rfl rfl rfl ?_
  refine g_v rfl (r_pick0 rfl rfl) <| g_v rfl r_move ?_
  iterate 3 refine g_no rfl rfl rfl rfl rfl rfl ?_
  refine g_v rfl (r_pick0 rfl rfl) <| g_v rfl r_assign <| g_nil <| d_then ?_
  refine c_flat [(0, .bool false)] ⟨rfl, trivial⟩ (fun u => ?_)
  refine c_ret ?_
  cases hm
  exact d_retC () Tryd.results4 (res_tmp (res_nil rfl)) trivial (fun W h => ok_pre (H1 := []) (R1 := [_, _]) h (fun W hφ => hφ)) (.inr rfl)
 replace hm := ite_f hm (of_decide_eq_false h25)
 refine g_no rfl rfl rfl rfl rfl h25 <| g_v rfl (r_pick0 rfl h25) <| g_v rfl r_move ?_
 iterate 3 refine g_no rfl rfl rfl rfl rfl rfl ?_
 refine g_v rfl (r_pick0 rfl rfl) <| g_v rfl r_move <| g_no rfl rfl rfl rfl rfl rfl <| g_no rfl rfl rfl rfl rfl rfl <| g_v rfl (r_pick0 rfl rfl) <| g_v rfl r_move <| g_no rfl rfl rfl rfl rfl rfl <| g_no rfl rfl rfl rfl rfl rfl <| g_v rfl (r_pick0 rfl rfl) <| g_v rfl r_move ?_
 iterate 3 refine g_no rfl rfl rfl rfl rfl rfl ?_
 refine g_v rfl (r_pick0 rfl rfl) <| g_v rfl r_move ?_
 iterate 3 refine g_no rfl rfl rfl rfl rfl rfl ?_
 refine g_v rfl (r_pick0 rfl rfl) <| g_v rfl r_move ?_
 iterate 4 refine g_no rfl rfl rfl rfl rfl rfl ?_
 refine g_v rfl (r_pick0 rfl rfl) <| g_v rfl r_move <| g_no rfl rfl rfl rfl rfl rfl <| g_no rfl rfl rfl rfl rfl rfl <| g_v rfl (r_pick0 rfl rfl) <| g_v rfl r_move <| g_no rfl rfl rfl rfl rfl rfl <| g_no rfl rfl rfl rfl rfl rfl <| g_v rfl (r_pick0 rfl rfl) <| g_v rfl r_move ?_
 refine g_no rfl rfl rfl rfl rfl rfl <| g_no rfl rfl rfl rfl rfl rfl <| g_v rfl (r_pick0 rfl rfl) <| g_v rfl r_move ?_
 iterate 3 refine g_no rfl rfl rfl rfl rfl rfl ?_
 refine g_v rfl (r_pick0 rfl rfl) <| g_v rfl r_move ?_
 iterate 4 refine g_no rfl rfl rfl rfl rfl rfl ?_
 refine g_v rfl (r_pick0 rfl rfl) <| g_v rfl r_move ?_
 iterate 3 refine g_no rfl rfl rfl rfl rfl rfl ?_
 refine g_v rfl (r_pick0 rfl rfl) <| g_v rfl r_assign <| g_nil <| d_then ?_
 refine c_flat [(0, .bool false)] ⟨rfl, trivial⟩ (fun u => ?_)
 refine c_ret ?_
 cases hm
 exact d_retC () Tryd.results4 (res_tmp (res_nil rfl)) trivial (fun W h => ok_pre (H1 := []) (R1 := [_, _]) h (fun W hφ => hφ)) (.inr rfl)
noncomputable def m_law03_short (p0 : ByteArray) (p1 : Int) : Option ByteArray :=
  if p1 < (p0.size : Int) then
    (scutHi p0 p1).bind fun s2 =>
    some s2
  else
    some p0
theorem c_law03_short {w0 : World} {M : Nat → Prop} {H : List (Nat × Nat × Obj)} {R : List (Nat × Row)} {φ : World → Prop} (p0 : ByteArray) (p1 : Int) (r : ByteArray) (hm : m_law03_short p0 p1 = some r) :
    Cn Tryd.prog 5 #[.string p0, .int .i64 p1] ⟨w0, M, H, R, φ⟩ (fun x : Unit => .string r) (fun x => True) (fun x => ⟨w0, M, H, R, φ⟩) := by
 unfold m_law03_short at hm
 refine cn_intro (fn := Tryd.f5) (N := 13) Tryd.func5 rfl Tryd.ntmps5 rfl <| c_seq <| c_region <| g_v rfl r_assign <| g_nil <| d_then <| c_seq <| c_seq <| c_region <| g_v rfl r_move ?_
 refine g_v rfl (r_len Tryd.underlying9 rfl) <| g_v rfl r_move <| g_v rfl (r_gtr rfl rfl) <| g_nil <| d_then ?_
 refine c_cond rfl (fun h1 => ?_) (fun h1 => ?_)
 ·
  replace hm := ite_t hm (of_decide_eq_true h1)
  refine c_seq <| c_region <| g_v rfl r_move <| g_v rfl r_move ?_
  replace hm := bnd hm
  obtain ⟨s2, hs2, hm⟩ := hm
  refine g_v rfl (r_scutHi Tryd.underlying9 rfl rfl hs2) <| g_v rfl r_assign <| g_nil <| d_then ?_
  refine c_flat [(4, .string s2)] ⟨rfl, trivial⟩ (fun u => ?_)
  refine c_sta ⟨w0, M, H, R, φ⟩ (fun _ h => h) <| c_ret <| d_ret_then ?_
  cases hm
  exact d_retC () Tryd.results5 (res_tmp (res_nil rfl)) trivial (fun W h => ok_pre (H1 := []) (R1 := []) h (fun W hφ => hφ)) (.inr rfl)
 replace hm := ite_f hm (of_decide_eq_false h1)
 refine c_skip <| d_then <| c_seq <| c_region <| g_v rfl r_move <| g_v rfl r_assign <| g_nil <| d_then <| c_ret ?_
 cases hm
 exact d_retC () Tryd.results5 (res_tmp (res_nil rfl)) trivial (fun W h => ok_pre (H1 := []) (R1 := []) h (fun W hφ => hφ)) (.inr rfl)
noncomputable def m_ref03_Make_j1  (s98 : ByteArray) : Option (ByteArray × Int) :=
  if 254 < (s98.size : Int) then
    some ((⟨#[]⟩ : ByteArray), 11)
  else
    (sadd s98 (strOfNums [0])).bind fun s101 =>
    some (s101, 0)
noncomputable def m_ref03_Make_s2 (p0 : List ByteArray) (s149 : ByteArray) (i150 : Int) : Option ((ByteArray × Int) ⊕ (ByteArray ⊕ (ByteArray × Int))) :=
  if i150 < (p0.length : Int) then
    (at_ p0 i150).bind fun x200 =>
    if (x200.size : Int) < 1 then
      some (.inr (.inr ((⟨#[]⟩ : ByteArray), 10)))
    else
      (at_ p0 i150).bind fun x205 =>
      if 63 < (x205.size : Int) then
        some (.inr (.inr ((⟨#[]⟩ : ByteArray), 10)))
      else
        if (s149.size : Int) ≤ 255 then
          (at_ p0 i150).bind fun x233 =>
          (at_ p0 i150).bind fun x237 =>
          (sadd s149 (strOfNums [IntKind.u8.wrap (x233.size : Int)])).bind fun s242 =>
          (sadd s242 x237).bind fun s243 =>
          some (.inl (s243, w64 (i150 + 1)))
        else
          some (.inl (s149, w64 (i150 + 1)))
  else
    some (.inr (.inl s149))
noncomputable def m_ref03_Make (p0 : List ByteArray) : Option (ByteArray × Int) :=
  (loop (fun s => m_ref03_Make_s2 p0 s.1 s.2) ((⟨#[]⟩ : ByteArray), 0)).bind fun e => Sum.elim (fun e => m_ref03_Make_j1 e) (fun x => some x) e
theorem c_ref03_Make {w0 : World} {M : Nat → Prop} {H : List (Nat × Nat × Obj)} {R : List (Nat × Row)} {φ : World → Prop} (p0 : List ByteArray) (Ap0_0 : Option Addr) (cp0_0 : Nat) (hcp0_0 : p0.length ≤ cp0_0) (fp0_0 : ∀ W, (Sta.mk w0 M H R φ).ok W → Cl W Ap0_0 (p0.flatMap (fun x : ByteArray => [Value.string x]))) (r : ByteArray × Int) (hm : m_ref03_Make p0 = some r) :
    Cn Tryd.prog 17 #[.slice Ap0_0 p0.length cp0_0] ⟨w0, M, H, R, φ⟩ (fun x : Unit => .tuple #[.string r.1, .int .i64 r.2]) (fun x => True) (fun x => ⟨w0, M, H, R, φ⟩) := by
 unfold m_ref03_Make at hm
 refine cn_intro (fn := Tryd.f17) (N := 51) Tryd.func17 rfl Tryd.ntmps17 rfl <| c_seq <| c_region <| g_v rfl r_assign <| g_v rfl r_assign <| g_nil <| d_then <| c_seq <| c_region <| g_v rfl r_assign ?_
 refine g_nil <| d_then <| c_seq <| c_seq <| c_region <| g_v rfl r_assign <| g_nil <| d_then ?_
 refine c_cut (ι := ByteArray) [4] (fun s98 => [(4, .string s98)]) (fun s98 => ⟨w0, M, H, R, φ⟩) (fun s98 => m_ref03_Make_j1 s98 = some r) ?_ (fun s98 u hm => ?_)
 ·
  refine c_block ?_
  replace hm := bnd hm
  obtain ⟨out2, hl2, hr2⟩ := hm
  obtain ⟨n198', hl2⟩ := loop_lp hl2
  refine c_loopU (ι := Nat × ByteArray × Int) [0, 4, 5] (fun ⟨n198, s149, i150⟩ => [(4, .string s149), (5, .int .i64 i150)]) (fun ⟨n198, s149, i150⟩ => ⟨w0, M, H, R, φ⟩) (fun ⟨n198, s149, i150⟩ => Lp (fun s => m_ref03_Make_s2 p0 s.1 s.2) n198 (s149, i150) out2) (fun ⟨n198, s149, i150⟩ => n198) (n198', (⟨#[]⟩ : ByteArray), 0) hl2 ⟨rfl, rfl, rfl, trivial⟩ (fun W h => h.phi (fun W hφ => hφ)) (fun ⟨n198, s149, i150⟩ u hlp => ?_)
  obtain ⟨o2, hm, hnx2⟩ := lp_step hlp
  clear hlp
  replace hm : m_ref03_Make_s2 p0 s149 i150 = some o2 := hm
  unfold m_ref03_Make_s2 at hm
  refine c_flat [(0, .slice Ap0_0 p0.length cp0_0), (4, .string s149), (5, .int .i64 i150)] ⟨rfl, rfl, rfl, trivial⟩ (fun u => ?_)
  refine c_sta ⟨w0, M, H, R, φ⟩ (fun _ h => h) <| c_seq <| c_seq <| c_region <| g_v rfl r_move <| g_v rfl r_move <| g_v rfl (r_lenL Tryd.underlying30 rfl) <| g_v rfl (r_lss rfl rfl) <| g_nil <| d_then ?_
  refine c_cond rfl (fun h199 => ?_) (fun h199 => ?_)
  ·
   replace hm := ite_t hm (of_decide_eq_true h199)
   refine c_skip <| d_then <| c_seq <| c_block <| c_seq <| c_seq <| c_region <| g_v rfl r_move <| g_v rfl r_move ?_
   replace hm := bnd hm
   obtain ⟨x200, hx200, hm⟩ := hm
   refine g_know _ (fun W hS => cl_at (p := (Sta.mk w0 M H R φ).ok) (sz := 1) (fun _ => rfl) (by decide) (ok_pre (H1 := []) (R1 := []) hS (fun W h => h)) fp0_0 hx200) ?_
   rintro ⟨ad201, hA203, f202⟩
   refine g_v rfl (r_ix Tryd.underlying30 Tryd.sizeOf9 rfl hA203 rfl hx200) <| g_v rfl (r_ld rfl Tryd.isAgg9 (fun W hS => Cl.head (f202 W (ok_pre (H1 := []) (R1 := []) hS (fun W h => h))))) <| g_v rfl (r_len Tryd.underlying9 rfl) <| g_v rfl (r_lss rfl rfl) <| g_v rfl r_move ?_
   refine g_if rfl rfl rfl rfl rfl (fun h204 => ?_) (fun h204 => ?_)
   ·
    replace hm := ite_f hm (of_decide_eq_false h204)
    refine g_v rfl r_move <| g_do rfl rfl rfl rfl rfl h204 <| g_v rfl r_move <| g_do rfl rfl rfl rfl rfl h204 ?_
    replace hm := bnd hm
    obtain ⟨x205, hx205, hm⟩ := hm
    refine g_know _ (fun W hS => cl_at (p := (Sta.mk w0 M H R φ).ok) (sz := 1) (fun _ => rfl) (by decide) (ok_pre (H1 := []) (R1 := []) hS (fun W h => h)) fp0_0 hx205) ?_
    rintro ⟨ad206, hA208, f207⟩
    refine g_v rfl (r_ix Tryd.underlying30 Tryd.sizeOf9 rfl hA208 rfl hx205) <| g_do rfl rfl rfl rfl rfl h204 <| g_v rfl (r_ld rfl Tryd.isAgg9 (fun W hS => Cl.head (f207 W (ok_pre (H1 := []) (R1 := []) hS (fun W h => h))))) <| g_do rfl rfl rfl rfl rfl h204 <| g_v rfl (r_len Tryd.underlying9 rfl) <| g_do rfl rfl rfl rfl rfl h204 <| g_v rfl (r_gtr rfl rfl) <| g_v rfl (r_pick0 rfl h204) <| g_nil <| d_then ?_
    refine c_flat [(0, .slice Ap0_0 p0.length cp0_0), (4, .string s149), (5, .int .i64 i150), (25, .bool (decide (63 < (x205.size : Int))))] ⟨rfl, rfl, rfl, rfl, trivial⟩ (fun u => ?_)
    refine c_cond rfl (fun h209 => ?_) (fun h209 => ?_)
    ·
     replace hm := ite_t hm (of_decide_eq_true h209)
     refine c_seq <| c_region <| g_v rfl r_assign <| g_v rfl r_assign <| g_nil <| d_then <| c_ret <| d_ret_then <| d_ret_block <| d_ret_then ?_
     refine d_ret_then <| d_ret_block <| d_ret_then <| d_ret_then ?_
     replace hm := nx_out (C := (fun e : ByteArray ⊕ (ByteArray × Int) => Sum.elim (fun e => m_ref03_Make_j1 e) (fun x => some x) e = some r)) hm hnx2 hr2
     replace hm : some ((⟨#[]⟩ : ByteArray), 10) = some r := hm
     cases hm
     exact d_retC () Tryd.results17 (res_tmp (res_tmp (res_nil rfl))) trivial (fun W h => ok_pre (H1 := []) (R1 := []) h (fun W hφ => hφ)) (.inr rfl)
    replace hm := ite_f hm (of_decide_eq_false h209)
    refine c_skip <| d_then <| c_seq <| c_region <| g_v rfl r_move <| g_v rfl (r_len Tryd.underlying9 rfl) <| g_v rfl (r_leq rfl rfl) <| g_nil <| d_then ?_
    refine c_cond rfl (fun h210 => ?_) (fun h210 => ?_)
    ·
     replace hm := ite_t hm (of_decide_eq_true h210)
     refine ga_start (n := 16) ⟨w0, M, H, R, φ⟩ [] #[false, false, false, false, false, false, false, false, false, false, false, false, false, false, false, false] (fun W h => h.phi (fun W hφ => hφ)) mixed rfl rfl <| ga_v (i := 0) (bz 16 1) rfl (by kernel_rfl) (fun _ _ _ _ h => h) rfl (r_move) <| ga_v (i := 1) (bz 16 3) rfl (by kernel_rfl) (fun _ _ _ _ h => h) rfl (r_move) <| ga_v (i := 2) (bz 16 7) rfl (by kernel_rfl) (fun _ _ _ _ h => h) rfl (r_move) ?_
     replace hm := bnd hm
     obtain ⟨x233, hx233, hm⟩ := hm
     refine ga_know _ (fun W hS => cl_at (p := (Sta.mk w0 M H R φ).ok) (sz := 1) (fun _ => rfl) (by decide) (ok_pre (H1 := []) (R1 := []) hS (fun W h => h)) fp0_0 hx233) ?_
     rintro ⟨ad234, hA236, f235⟩
     refine ga_v (i := 3) (bz 16 15) rfl (by kernel_rfl) (fun _ _ _ _ h => h) rfl (r_ix Tryd.underlying30 Tryd.sizeOf9 rfl hA236 rfl hx233) <| ga_v (i := 4) (bz 16 31) rfl (by kernel_rfl) (fun _ _ _ _ h => h) rfl (r_ld rfl Tryd.isAgg9 (fun W hS => Cl.head (f235 W (ok_pre (H1 := []) (R1 := []) hS (fun W h => h))))) <| ga_v (i := 5) (bz 16 63) rfl (by kernel_rfl) (fun _ _ _ _ h => h) rfl (r_len Tryd.underlying9 rfl) <| ga_v (i := 6) (bz 16 127) rfl (by kernel_rfl) (fun _ _ _ _ h => h) rfl (r_conv Tryd.underlying3 Tryd.underlying5 rfl rfl) <| ga_v (i := 10) (bz 16 1151) rfl (by kernel_rfl) (fun _ _ _ _ h => h) rfl (r_move) <| ga_v (i := 11) (bz 16 3199) rfl (by kernel_rfl) (fun _ _ _ _ h => h) rfl (r_move) ?_
     replace hm := bnd hm
     obtain ⟨x237, hx237, hm⟩ := hm
     refine ga_know _ (fun W hS => cl_at (p := (Sta.mk w0 M H R φ).ok) (sz := 1) (fun _ => rfl) (by decide) (ok_pre (H1 := []) (R1 := []) hS (fun W h => h)) fp0_0 hx237) ?_
     rintro ⟨ad238, hA240, f239⟩
     refine ga_v (i := 12) (bz 16 7295) rfl (by kernel_rfl) (fun _ _ _ _ h => h) rfl (r_ix Tryd.underlying30 Tryd.sizeOf9 rfl hA240 rfl hx237) <| ga_v (i := 13) (bz 16 15487) rfl (by kernel_rfl) (fun _ _ _ _ h => h) rfl (r_ld rfl Tryd.isAgg9 (fun W hS => Cl.head (f239 W (ok_pre (H1 := []) (R1 := []) hS (fun W h => h))))) ?_
     refine ga_e (i := 7) (bz 16 15615) rfl (by kernel_rfl) (by decide) rfl  (e_lit (tag := 100360) (l := [IntKind.u8.wrap (x233.size : Int)]) (enc := (fun x : Int => [Value.int .u8 x])) (sz := 1) rfl Tryd.underlying35 (lit5_1 _) rfl rfl (fun _ => rfl)) (fun g241 W _ h => (h.dropR (t := 100360) rfl).phi (fun W hφ => hφ)) (fun g241 _ => ?_)
     refine ga_r (i := 8) (bz 16 15871) rfl (by kernel_rfl) (by decide) rfl (r_textE Tryd.underlying35 Tryd.underlying5 Tryd.underlying9 rfl (fun W hS => rowCl (tag := 100360) rfl W hS)) ?_
     replace hm := bnd hm
     obtain ⟨s242, hs242, hm⟩ := hm
     refine ga_r (i := 9) (bz 16 16383) rfl (by kernel_rfl) (by decide) rfl (r_addT rfl rfl hs242) ?_
     replace hm := bnd hm
     obtain ⟨s243, hs243, hm⟩ := hm
     refine ga_r (i := 14) (bz 16 32767) rfl (by kernel_rfl) (by decide) rfl (r_addT rfl rfl hs243) <| ga_r (i := 15) (bz 16 65535) rfl (by kernel_rfl) (by decide) rfl (r_assign) <| ga_done (by kernel_rfl) <| d_normal_block <| d_then ?_
     refine c_flat [(0, .slice Ap0_0 p0.length cp0_0), (4, .string s243), (5, .int .i64 i150)] ⟨rfl, rfl, rfl, trivial⟩ (fun u => ?_)
     refine c_sta ⟨w0, M, H, (100360, ⟨.slice (some ⟨g241, 0, none⟩) [IntKind.u8.wrap (x233.size : Int)].length 1, 5, 1, [IntKind.u8.wrap (x233.size : Int)].length, [IntKind.u8.wrap (x233.size : Int)].flatMap (fun x : Int => [Value.int .u8 x])⟩) :: R, φ⟩ (fun _ h => h) <| c_region <| g_v rfl r_move <| g_v rfl (r_add rfl rfl rfl) <| g_v rfl r_assign <| g_nil ?_
     obtain ⟨n244, hn244, hlp⟩ := nx_inl hm hnx2
     exact d_round (n244, s243, w64 (i150 + 1)) hlp hn244 ⟨rfl, rfl, rfl, trivial⟩ (fun W h => (h.dropR (t := 100360) rfl).phi (fun W hφ => hφ))
    replace hm := ite_f hm (of_decide_eq_false h210)
    refine c_skip <| d_normal_block <| d_then <| c_region <| g_v rfl r_move <| g_v rfl (r_add rfl rfl rfl) <| g_v rfl r_assign <| g_nil ?_
    obtain ⟨n245, hn245, hlp⟩ := nx_inl hm hnx2
    exact d_round (n245, s149, w64 (i150 + 1)) hlp hn245 ⟨rfl, rfl, rfl, trivial⟩ (fun W h => h.phi (fun W hφ => hφ))
   replace hm := ite_t hm (of_decide_eq_true h204)
   iterate 5 refine g_no rfl rfl rfl rfl rfl h204 ?_
   refine g_v rfl (r_pick1 rfl h204) <| g_nil <| d_then ?_
   refine c_flat [(0, .slice Ap0_0 p0.length cp0_0), (4, .string s149), (5, .int .i64 i150), (25, .bool true)] ⟨rfl, rfl, rfl, rfl, trivial⟩ (fun u => ?_)
   refine c_cond1 rfl rfl <| c_seq <| c_region <| g_v rfl r_assign <| g_v rfl r_assign <| g_nil <| d_then <| c_ret <| d_ret_then <| d_ret_block ?_
   refine d_ret_then <| d_ret_then <| d_ret_block <| d_ret_then <| d_ret_then ?_
   replace hm := nx_out (C := (fun e : ByteArray ⊕ (ByteArray × Int) => Sum.elim (fun e => m_ref03_Make_j1 e) (fun x => some x) e = some r)) hm hnx2 hr2
   replace hm : some ((⟨#[]⟩ : ByteArray), 10) = some r := hm
   cases hm
   exact d_retC () Tryd.results17 (res_tmp (res_tmp (res_nil rfl))) trivial (fun W h => ok_pre (H1 := []) (R1 := []) h (fun W hφ => hφ)) (.inr rfl)
  replace hm := ite_f hm (of_decide_eq_false h199)
  refine c_exit <| d_exit_then <| d_exit_then <| d_exit_block ?_
  replace hm := nx_out (C := (fun e : ByteArray ⊕ (ByteArray × Int) => Sum.elim (fun e => m_ref03_Make_j1 e) (fun x => some x) e = some r)) hm hnx2 hr2
  exact d_round s149 hm Nat.zero_lt_one ⟨rfl, trivial⟩ (fun W h => h.phi (fun W hφ => hφ))
 unfold m_ref03_Make_j1 at hm
 refine d_flat [(4, .string s98)] ⟨rfl, trivial⟩ (fun u => ?_)
 refine d_sta ⟨w0, M, H, R, φ⟩ (fun _ h => h) <| d_then <| c_seq <| c_seq <| c_region <| g_v rfl r_move <| g_v rfl (r_len Tryd.underlying9 rfl) <| g_v rfl (r_gtr rfl rfl) <| g_nil <| d_then ?_
 refine c_cond rfl (fun h99 => ?_) (fun h99 => ?_)
 ·
  replace hm := ite_t hm (of_decide_eq_true h99)
  refine c_seq <| c_region <| g_v rfl r_assign <| g_v rfl r_assign <| g_nil <| d_then <| c_ret <| d_ret_then ?_
  cases hm
  exact d_retC () Tryd.results17 (res_tmp (res_tmp (res_nil rfl))) trivial (fun W h => ok_pre (H1 := []) (R1 := []) h (fun W hφ => hφ)) (.inr rfl)
 replace hm := ite_f hm (of_decide_eq_false h99)
 refine c_skip <| d_then <| c_seq <| c_region <| g_v rfl r_move ?_
 refine g_e rfl (e_lit (tag := 100480) (l := [0]) (enc := (fun x : Int => [Value.int .u8 x])) (sz := 1) rfl Tryd.underlying35 (lit5_1 _) rfl rfl (fun _ => rfl)) (fun g100 _ => ?_)
 refine g_v rfl (r_textE Tryd.underlying35 Tryd.underlying5 Tryd.underlying9 rfl (fun W hS => rowCl (tag := 100480) rfl W hS)) ?_
 replace hm := bnd hm
 obtain ⟨s101, hs101, hm⟩ := hm
 refine g_v rfl (r_addT rfl rfl hs101) <| g_v rfl r_assign <| g_v rfl r_assign <| g_nil <| d_then ?_
 refine c_flat [(2, .string s101), (3, .int .i64 0)] ⟨rfl, rfl, trivial⟩ (fun u => ?_)
 refine c_sta ⟨w0, M, H, (100480, ⟨.slice (some ⟨g100, 0, none⟩) [0].length 1, 5, 1, [0].length, [0].flatMap (fun x : Int => [Value.int .u8 x])⟩) :: R, φ⟩ (fun _ h => h) <| c_ret ?_
 cases hm
 exact d_retC () Tryd.results17 (res_tmp (res_tmp (res_nil rfl))) trivial (fun W h => ok_pre (H1 := []) (R1 := [_]) h (fun W hφ => hφ)) (.inr rfl)
noncomputable def m_ref03_Parse_j2  (l262 : List ByteArray) : Option (ByteArray × Int) :=
  (m_ref03_Make l262).bind fun (z268 : ByteArray × Int) =>
  some (z268.1, z268.2)
noncomputable def m_ref03_Parse_j1  (l252 : List ByteArray) (s255 : ByteArray) (b256 : Bool) : Option (ByteArray × Int) :=
  if b256 = true then
    m_ref03_Parse_j2 l252
  else
    (app 16 l252 [s255]).bind fun l271 =>
    m_ref03_Parse_j2 l271
noncomputable def m_ref03_Parse_j4 (s325 : ByteArray) (l322 : List ByteArray) (i327 : Int) (i416 : Int) : Option (((List ByteArray) × ByteArray × Bool × Int) ⊕ (((List ByteArray) × ByteArray × Bool) ⊕ (ByteArray × Int))) :=
  if 255 < i416 then
    some (.inr (.inr ((⟨#[]⟩ : ByteArray), 10)))
  else
    (sadd s325 (strOfNums [IntKind.u8.wrap i416])).bind fun s419 =>
    some (.inl (l322, s419, false, w64 (i327 + 4)))
noncomputable def m_ref03_Parse_s5 (p0 : ByteArray) (i327 : Int) (i428 : Int) (i429 : Int) : Option ((Int × Int) ⊕ (Int ⊕ (ByteArray × Int))) :=
  if i429 < 4 then
    if (p0.size : Int) ≤ w64 (i327 + i429) then
      some (.inr (.inr ((⟨#[]⟩ : ByteArray), 10)))
    else
      (sat_ p0 (w64 (i327 + i429))).bind fun b442 =>
      if b442 < 48 then
        some (.inr (.inr ((⟨#[]⟩ : ByteArray), 10)))
      else
        (sat_ p0 (w64 (i327 + i429))).bind fun b444 =>
        if 57 < b444 then
          some (.inr (.inr ((⟨#[]⟩ : ByteArray), 10)))
        else
          (sat_ p0 (w64 (i327 + i429))).bind fun b446 =>
          some (.inl (w64 ((w64 (i428 * 10)) + (w64 (IntKind.u8.wrap (b446 - 48)))), w64 (i429 + 1)))
  else
    some (.inr (.inl i428))
noncomputable def m_ref03_Parse_s3 (p0 : ByteArray) (l322 : List ByteArray) (s325 : ByteArray) (b326 : Bool) (i327 : Int) : Option (((List ByteArray) × ByteArray × Bool × Int) ⊕ (((List ByteArray) × ByteArray × Bool) ⊕ (ByteArray × Int))) :=
  if i327 < (p0.size : Int) then
    (sat_ p0 i327).bind fun b378 =>
    if b378 = 46 then
      if s325 = (⟨#[]⟩ : ByteArray) then
        some (.inr (.inr ((⟨#[]⟩ : ByteArray), 10)))
      else
        (app 16 l322 [s325]).bind fun l382 =>
        some (.inl (l382, (⟨#[]⟩ : ByteArray), true, w64 (i327 + 1)))
    else
      if b378 ≠ 92 then
        (sadd s325 (strOfNums [b378])).bind fun s388 =>
        some (.inl (l322, s388, false, w64 (i327 + 1)))
      else
        if (p0.size : Int) ≤ w64 (i327 + 1) then
          some (.inr (.inr ((⟨#[]⟩ : ByteArray), 10)))
        else
          (sat_ p0 (w64 (i327 + 1))).bind fun b391 =>
          if b391 < 48 then
            (sadd s325 (strOfNums [b391])).bind fun s449 =>
            some (.inl (l322, s449, false, w64 (i327 + 2)))
          else
            if 57 < b391 then
              (sadd s325 (strOfNums [b391])).bind fun s395 =>
              some (.inl (l322, s395, false, w64 (i327 + 2)))
            else
              (loop (fun s => m_ref03_Parse_s5 p0 i327 s.1 s.2) (0, 1)).bind fun e => Sum.elim (fun e => m_ref03_Parse_j4 s325 l322 i327 e) (fun x => some (.inr (.inr x))) e
  else
    some (.inr (.inl (l322, s325, b326)))
noncomputable def m_ref03_Parse (p0 : ByteArray) : Option (ByteArray × Int) :=
  if p0 = (⟨#[46]⟩ : ByteArray) then
    some (strOfNums [0], 0)
  else
    if p0 = (⟨#[]⟩ : ByteArray) then
      some ((⟨#[]⟩ : ByteArray), 10)
    else
      (loop (fun s => m_ref03_Parse_s3 p0 s.1 s.2.1 s.2.2.1 s.2.2.2) (([] : List ByteArray), (⟨#[]⟩ : ByteArray), false, 0)).bind fun e => Sum.elim (fun e => m_ref03_Parse_j1 e.1 e.2.1 e.2.2) (fun x => some x) e
theorem c_ref03_Parse {w0 : World} {M : Nat → Prop} {H : List (Nat × Nat × Obj)} {R : List (Nat × Row)} {φ : World → Prop} (p0 : ByteArray) (r : ByteArray × Int) (hm : m_ref03_Parse p0 = some r) :
    Cn Tryd.prog 7 #[.string p0] ⟨w0, M, H, R, φ⟩ (fun x : Unit => .tuple #[.string r.1, .int .i64 r.2]) (fun x => True) (fun x => ⟨w0, M, H, R, φ⟩) := by
 unfold m_ref03_Parse at hm
 refine cn_intro (fn := Tryd.f7) (N := 122) Tryd.func7 rfl Tryd.ntmps7 rfl <| c_seq <| c_region <| g_v rfl r_assign <| g_v rfl r_assign <| g_nil <| d_then <| c_seq <| c_seq <| c_region ?_
 refine g_v rfl r_move <| g_v rfl (r_eqlT rfl rfl) <| g_nil <| d_then ?_
 refine c_cond rfl (fun h1 => ?_) (fun h1 => ?_)
 ·
  replace hm := ite_t hm (of_decide_eq_true h1)
  refine c_seq <| c_region ?_
  refine g_e rfl (e_lit (tag := 100140) (l := [0]) (enc := (fun x : Int => [Value.int .u8 x])) (sz := 1) rfl Tryd.underlying35 (lit5_1 _) rfl rfl (fun _ => rfl)) (fun g2 _ => ?_)
  refine g_v rfl (r_textE Tryd.underlying35 Tryd.underlying5 Tryd.underlying9 rfl (fun W hS => rowCl (tag := 100140) rfl W hS)) <| g_v rfl r_assign <| g_v rfl r_assign <| g_nil <| d_then <| c_ret <| d_ret_then ?_
  cases hm
  exact d_retC () Tryd.results7 (res_tmp (res_tmp (res_nil rfl))) trivial (fun W h => ok_pre (H1 := []) (R1 := [_]) h (fun W hφ => hφ)) (.inr rfl)
 replace hm := ite_f hm (of_decide_eq_false h1)
 refine c_skip <| d_then <| c_seq <| c_seq <| c_region <| g_v rfl r_move <| g_v rfl (r_eqlT rfl rfl) <| g_nil <| d_then ?_
 refine c_cond rfl (fun h3 => ?_) (fun h3 => ?_)
 ·
  replace hm := ite_t hm (of_decide_eq_true h3)
  refine c_seq <| c_region <| g_v rfl r_assign <| g_v rfl r_assign <| g_nil <| d_then <| c_ret <| d_ret_then ?_
  cases hm
  exact d_retC () Tryd.results7 (res_tmp (res_tmp (res_nil rfl))) trivial (fun W h => ok_pre (H1 := []) (R1 := []) h (fun W hφ => hφ)) (.inr rfl)
 replace hm := ite_f hm (of_decide_eq_false h3)
 refine c_skip <| d_then <| c_seq <| c_region <| g_v rfl r_assign <| g_nil <| d_then <| c_seq <| c_region <| g_v rfl r_assign ?_
 refine g_nil <| d_then <| c_seq <| c_region <| g_v rfl r_assign <| g_nil <| d_then ?_
 refine c_flat [(0, .string p0), (4, .slice none 0 0), (5, .string (⟨#[]⟩ : ByteArray)), (6, .bool false)] ⟨rfl, rfl, rfl, rfl, trivial⟩ (fun u => ?_)
 refine c_sta ⟨w0, M, H, R, φ⟩ (fun _ h => h) <| c_seq <| c_seq <| c_region <| g_v rfl r_assign <| g_nil <| d_then <| c_sta _ (fun W h => nilR h 13 9 1) ?_
 refine c_cut (ι := (List ByteArray) × ByteArray × Bool × Option Addr × Nat) [4, 5, 6] (fun ⟨l252, s255, b256, A253, c254⟩ => [(4, .slice A253 l252.length c254), (5, .string s255), (6, .bool b256)]) (fun ⟨l252, s255, b256, A253, c254⟩ => ⟨w0, M, H, (13, ⟨.slice A253 l252.length c254, 9, 1, l252.length, l252.flatMap (fun x : ByteArray => [Value.string x])⟩) :: R, φ⟩) (fun ⟨l252, s255, b256, A253, c254⟩ => m_ref03_Parse_j1 l252 s255 b256 = some r ∧ l252.length ≤ c254) ?_ (fun ⟨l252, s255, b256, A253, c254⟩ u ⟨hm, hc254⟩ => ?_)
 ·
  refine c_block ?_
  replace hm := bnd hm
  obtain ⟨out3, hl3, hr3⟩ := hm
  obtain ⟨n376', hl3⟩ := loop_lp hl3
  refine c_loopU (ι := Nat × (List ByteArray) × ByteArray × Bool × Int × Option Addr × Nat) [0, 4, 5, 6, 7] (fun ⟨n376, l322, s325, b326, i327, A323, c324⟩ => [(4, .slice A323 l322.length c324), (5, .string s325), (6, .bool b326), (7, .int .i64 i327)]) (fun ⟨n376, l322, s325, b326, i327, A323, c324⟩ => ⟨w0, M, H, (13, ⟨.slice A323 l322.length c324, 9, 1, l322.length, l322.flatMap (fun x : ByteArray => [Value.string x])⟩) :: R, φ⟩) (fun ⟨n376, l322, s325, b326, i327, A323, c324⟩ => Lp (fun s => m_ref03_Parse_s3 p0 s.1 s.2.1 s.2.2.1 s.2.2.2) n376 (l322, s325, b326, i327) out3 ∧ l322.length ≤ c324) (fun ⟨n376, l322, s325, b326, i327, A323, c324⟩ => n376) (n376', ([] : List ByteArray), (⟨#[]⟩ : ByteArray), false, 0, none, 0) ⟨hl3, (Nat.le_refl 0)⟩ ⟨rfl, rfl, rfl, rfl, rfl, trivial⟩ (fun W h => h.phi (fun W hφ => hφ)) (fun ⟨n376, l322, s325, b326, i327, A323, c324⟩ u ⟨hlp, hc324⟩ => ?_)
  obtain ⟨o3, hm, hnx3⟩ := lp_step hlp
  clear hlp
  replace hm : m_ref03_Parse_s3 p0 l322 s325 b326 i327 = some o3 := hm
  unfold m_ref03_Parse_s3 at hm
  refine c_flat [(0, .string p0), (4, .slice A323 l322.length c324), (5, .string s325), (6, .bool b326), (7, .int .i64 i327)] ⟨rfl, rfl, rfl, rfl, rfl, trivial⟩ (fun u => ?_)
  refine c_sta ⟨w0, M, H, (13, ⟨.slice A323 l322.length c324, 9, 1, l322.length, l322.flatMap (fun x : ByteArray => [Value.string x])⟩) :: R, φ⟩ (fun _ h => h) <| c_seq <| c_seq <| c_region <| g_v rfl r_move <| g_v rfl r_move <| g_v rfl (r_len Tryd.underlying9 rfl) <| g_v rfl (r_lss rfl rfl) <| g_nil <| d_then ?_
  refine c_cond rfl (fun h377 => ?_) (fun h377 => ?_)
  ·
   replace hm := ite_t hm (of_decide_eq_true h377)
   refine c_skip <| d_then <| c_block <| c_seq <| c_region <| g_v rfl r_move <| g_v rfl r_move ?_
   replace hm := bnd hm
   obtain ⟨b378, hb378, hm⟩ := hm
   refine g_v rfl (r_sat Tryd.underlying9 rfl rfl hb378) <| g_v rfl r_assign <| g_nil <| d_then <| c_seq <| c_region <| g_v rfl r_assign <| g_nil <| d_then ?_
   refine c_flat [(0, .string p0), (4, .slice A323 l322.length c324), (5, .string s325), (6, .bool false), (7, .int .i64 i327), (8, .int .u8 b378)] ⟨rfl, rfl, rfl, rfl, rfl, rfl, trivial⟩ (fun u => ?_)
   refine c_seq <| c_seq <| c_region <| g_v rfl r_move <| g_v rfl (r_eql rfl rfl) <| g_nil <| d_then ?_
   refine c_cond rfl (fun h379 => ?_) (fun h379 => ?_)
   ·
    replace hm := ite_t hm (of_decide_eq_true h379)
    refine c_seq <| c_seq <| c_region <| g_v rfl r_move <| g_v rfl (r_eqlT rfl rfl) <| g_nil <| d_then ?_
    refine c_cond rfl (fun h380 => ?_) (fun h380 => ?_)
    ·
     replace hm := ite_t hm (of_decide_eq_true h380)
     refine c_seq <| c_region <| g_v rfl r_assign <| g_v rfl r_assign <| g_nil <| d_then <| c_ret <| d_ret_then <| d_ret_then <| d_ret_block ?_
     refine d_ret_then <| d_ret_block <| d_ret_then <| d_ret_then ?_
     replace hm := nx_out (C := (fun e : ((List ByteArray) × ByteArray × Bool) ⊕ (ByteArray × Int) => Sum.elim (fun e => m_ref03_Parse_j1 e.1 e.2.1 e.2.2) (fun x => some x) e = some r)) hm hnx3 hr3
     replace hm : some ((⟨#[]⟩ : ByteArray), 10) = some r := hm
     cases hm
     exact d_retC () Tryd.results7 (res_tmp (res_tmp (res_nil rfl))) trivial (fun W h => ok_pre (H1 := []) (R1 := [_]) h (fun W hφ => hφ)) (.inr rfl)
    replace hm := ite_f hm (of_decide_eq_false h380)
    refine c_skip <| d_then <| c_seq <| c_region <| g_v rfl r_move <| g_v rfl r_move ?_
    refine g_e rfl (e_lit (tag := 100310) (l := [s325]) (enc := (fun x : ByteArray => [Value.string x])) (sz := 1) rfl Tryd.underlying30 (lit9_3 _) rfl rfl (fun _ => rfl)) (fun g381 _ => ?_)
    replace hm := bnd hm
    obtain ⟨l382, hl382, hm⟩ := hm
    refine g_e rfl (e_appR (enc := (fun x : ByteArray => [Value.string x])) (l := l322) (l1 := [s325]) (l2 := l382) (tag := 13) Tryd.underlying30 inf9_4 rfl (by decide) (by decide) (fun _ => rfl) (fun _ => rfl) rfl hc324 rfl rfl (fun W hS => rowCl (tag := 100310) rfl W hS) hl382) (fun ⟨A383, c384⟩ hc384 => ?_)
    refine g_v rfl r_assign <| g_nil <| d_then ?_
    refine c_flat [(0, .string p0), (4, .slice A383 l382.length c384), (7, .int .i64 i327)] ⟨rfl, rfl, rfl, trivial⟩ (fun u => ?_)
    refine c_sta ⟨w0, M, H, (100310, ⟨.slice (some ⟨g381, 0, none⟩) [s325].length 1, 9, 1, [s325].length, [s325].flatMap (fun x : ByteArray => [Value.string x])⟩) :: (13, ⟨.slice A383 l382.length c384, 9, 1, l382.length, l382.flatMap (fun x : ByteArray => [Value.string x])⟩) :: R, φ⟩ (fun _ h => h) <| c_seq <| c_region <| g_v rfl r_assign <| g_nil <| d_then <| c_seq <| c_region <| g_v rfl r_assign <| g_nil ?_
    refine d_then <| c_seq <| c_region <| g_v rfl r_move <| g_v rfl (r_add rfl rfl rfl) <| g_v rfl r_assign <| g_nil <| d_then <| c_exit <| d_exit_then ?_
    refine d_exit_block ?_
    obtain ⟨n385, hn385, hlp⟩ := nx_inl hm hnx3
    exact d_round (n385, l382, (⟨#[]⟩ : ByteArray), true, w64 (i327 + 1), A383, c384) ⟨hlp, hc384⟩ hn385 ⟨rfl, rfl, rfl, rfl, rfl, trivial⟩ (fun W h => (h.dropR (t := 100310) rfl).phi (fun W hφ => hφ))
   replace hm := ite_f hm (of_decide_eq_false h379)
   refine c_skip <| d_then <| c_seq <| c_seq <| c_region <| g_v rfl r_move <| g_v rfl (r_neq rfl rfl) <| g_nil <| d_then ?_
   refine c_cond rfl (fun h386 => ?_) (fun h386 => ?_)
   ·
    replace hm := ite_t hm (of_decide_eq_true h386)
    refine c_seq <| c_region <| g_v rfl r_move <| g_v rfl r_move ?_
    refine g_e rfl (e_lit (tag := 100390) (l := [b378]) (enc := (fun x : Int => [Value.int .u8 x])) (sz := 1) rfl Tryd.underlying35 (lit5_1 _) rfl rfl (fun _ => rfl)) (fun g387 _ => ?_)
    refine g_v rfl (r_textE Tryd.underlying35 Tryd.underlying5 Tryd.underlying9 rfl (fun W hS => rowCl (tag := 100390) rfl W hS)) ?_
    replace hm := bnd hm
    obtain ⟨s388, hs388, hm⟩ := hm
    refine g_v rfl (r_addT rfl rfl hs388) <| g_v rfl r_assign <| g_nil <| d_then ?_
    refine c_flat [(0, .string p0), (4, .slice A323 l322.length c324), (5, .string s388), (6, .bool false), (7, .int .i64 i327)] ⟨rfl, rfl, rfl, rfl, rfl, trivial⟩ (fun u => ?_)
    refine c_sta ⟨w0, M, H, (100390, ⟨.slice (some ⟨g387, 0, none⟩) [b378].length 1, 5, 1, [b378].length, [b378].flatMap (fun x : Int => [Value.int .u8 x])⟩) :: (13, ⟨.slice A323 l322.length c324, 9, 1, l322.length, l322.flatMap (fun x : ByteArray => [Value.string x])⟩) :: R, φ⟩ (fun _ h => h) <| c_seq <| c_region <| g_v rfl r_move <| g_v rfl (r_add rfl rfl rfl) <| g_v rfl r_assign <| g_nil <| d_then <| c_exit <| d_exit_then ?_
    refine d_exit_block ?_
    obtain ⟨n389, hn389, hlp⟩ := nx_inl hm hnx3
    exact d_round (n389, l322, s388, false, w64 (i327 + 1), A323, c324) ⟨hlp, hc324⟩ hn389 ⟨rfl, rfl, rfl, rfl, rfl, trivial⟩ (fun W h => (h.dropR (t := 100390) rfl).phi (fun W hφ => hφ))
   replace hm := ite_f hm (of_decide_eq_false h386)
   refine c_skip <| d_then <| c_seq <| c_seq <| c_region <| g_v rfl r_move <| g_v rfl (r_add rfl rfl rfl) <| g_v rfl r_move <| g_v rfl (r_len Tryd.underlying9 rfl) <| g_v rfl (r_geq rfl rfl) ?_
   refine g_nil <| d_then ?_
   refine c_flat [(0, .string p0), (4, .slice A323 l322.length c324), (5, .string s325), (6, .bool false), (7, .int .i64 i327), (48, .bool (decide ((p0.size : Int) ≤ w64 (i327 + 1))))] ⟨rfl, rfl, rfl, rfl, rfl, rfl, trivial⟩ (fun u => ?_)
   refine c_cond rfl (fun h390 => ?_) (fun h390 => ?_)
   ·
    replace hm := ite_t hm (of_decide_eq_true h390)
    refine c_seq <| c_region <| g_v rfl r_assign <| g_v rfl r_assign <| g_nil <| d_then <| c_ret <| d_ret_then <| d_ret_block <| d_ret_then ?_
    refine d_ret_block <| d_ret_then <| d_ret_then ?_
    replace hm := nx_out (C := (fun e : ((List ByteArray) × ByteArray × Bool) ⊕ (ByteArray × Int) => Sum.elim (fun e => m_ref03_Parse_j1 e.1 e.2.1 e.2.2) (fun x => some x) e = some r)) hm hnx3 hr3
    replace hm : some ((⟨#[]⟩ : ByteArray), 10) = some r := hm
    cases hm
    exact d_retC () Tryd.results7 (res_tmp (res_tmp (res_nil rfl))) trivial (fun W h => ok_pre (H1 := []) (R1 := [_]) h (fun W hφ => hφ)) (.inr rfl)
   replace hm := ite_f hm (of_decide_eq_false h390)
   refine c_skip <| d_then <| c_seq <| c_region <| g_v rfl r_move <| g_v rfl r_move <| g_v rfl (r_add rfl rfl rfl) ?_
   replace hm := bnd hm
   obtain ⟨b391, hb391, hm⟩ := hm
   refine g_v rfl (r_sat Tryd.underlying9 rfl rfl hb391) <| g_v rfl r_assign <| g_nil <| d_then <| c_seq <| c_seq <| c_region <| g_v rfl r_move <| g_v rfl (r_lss rfl rfl) <| g_v rfl r_move ?_
   refine g_if rfl rfl rfl rfl rfl (fun h392 => ?_) (fun h392 => ?_)
   ·
    replace hm := ite_f hm (of_decide_eq_false h392)
    refine g_v rfl r_move <| g_do rfl rfl rfl rfl rfl h392 <| g_v rfl (r_gtr rfl rfl) <| g_v rfl (r_pick0 rfl h392) <| g_nil <| d_then ?_
    refine c_flat [(0, .string p0), (4, .slice A323 l322.length c324), (5, .string s325), (6, .bool false), (7, .int .i64 i327), (9, .int .u8 b391), (58, .bool (decide (57 < b391)))] ⟨rfl, rfl, rfl, rfl, rfl, rfl, rfl, trivial⟩ (fun u => ?_)
    refine c_cond rfl (fun h393 => ?_) (fun h393 => ?_)
    ·
     replace hm := ite_t hm (of_decide_eq_true h393)
     refine c_seq <| c_region <| g_v rfl r_move <| g_v rfl r_move ?_
     refine g_e rfl (e_lit (tag := 100610) (l := [b391]) (enc := (fun x : Int => [Value.int .u8 x])) (sz := 1) rfl Tryd.underlying35 (lit5_1 _) rfl rfl (fun _ => rfl)) (fun g394 _ => ?_)
     refine g_v rfl (r_textE Tryd.underlying35 Tryd.underlying5 Tryd.underlying9 rfl (fun W hS => rowCl (tag := 100610) rfl W hS)) ?_
     replace hm := bnd hm
     obtain ⟨s395, hs395, hm⟩ := hm
     refine g_v rfl (r_addT rfl rfl hs395) <| g_v rfl r_assign <| g_nil <| d_then <| c_seq <| c_region <| g_v rfl r_move <| g_v rfl (r_add rfl rfl rfl) <| g_v rfl r_assign <| g_nil ?_
     refine d_then ?_
     refine c_flat [(0, .string p0), (4, .slice A323 l322.length c324), (5, .string s395), (6, .bool false), (7, .int .i64 (w64 (i327 + 2)))] ⟨rfl, rfl, rfl, rfl, rfl, trivial⟩ (fun u => ?_)
     refine c_sta ⟨w0, M, H, (100610, ⟨.slice (some ⟨g394, 0, none⟩) [b391].length 1, 5, 1, [b391].length, [b391].flatMap (fun x : Int => [Value.int .u8 x])⟩) :: (13, ⟨.slice A323 l322.length c324, 9, 1, l322.length, l322.flatMap (fun x : ByteArray => [Value.string x])⟩) :: R, φ⟩ (fun _ h => h) <| c_exit <| d_exit_then <| d_exit_block ?_
     obtain ⟨n396, hn396, hlp⟩ := nx_inl hm hnx3
     exact d_round (n396, l322, s395, false, w64 (i327 + 2), A323, c324) ⟨hlp, hc324⟩ hn396 ⟨rfl, rfl, rfl, rfl, rfl, trivial⟩ (fun W h => (h.dropR (t := 100610) rfl).phi (fun W hφ => hφ))
    replace hm := ite_f hm (of_decide_eq_false h393)
    refine c_skip <| d_then <| c_seq <| c_region <| g_v rfl r_assign <| g_nil <| d_then <| c_seq <| c_seq <| c_region ?_
    refine g_v rfl r_assign <| g_nil <| d_then ?_
    refine c_cut (ι := Int) [0, 4, 5, 6, 7, 10] (fun i416 => [(10, .int .i64 i416)]) (fun i416 => ⟨w0, M, H, (13, ⟨.slice A323 l322.length c324, 9, 1, l322.length, l322.flatMap (fun x : ByteArray => [Value.string x])⟩) :: R, φ⟩) (fun i416 => m_ref03_Parse_j4 s325 l322 i327 i416 = some o3) ?_ (fun i416 u hm => ?_)
    ·
     refine c_block ?_
     replace hm := bnd hm
     obtain ⟨out5, hl5, hr5⟩ := hm
     obtain ⟨n439', hl5⟩ := loop_lp hl5
     refine c_loopU (ι := Nat × Int × Int) [0, 4, 5, 6, 7, 10, 11] (fun ⟨n439, i428, i429⟩ => [(10, .int .i64 i428), (11, .int .i64 i429)]) (fun ⟨n439, i428, i429⟩ => ⟨w0, M, H, (13, ⟨.slice A323 l322.length c324, 9, 1, l322.length, l322.flatMap (fun x : ByteArray => [Value.string x])⟩) :: R, φ⟩) (fun ⟨n439, i428, i429⟩ => Lp (fun s => m_ref03_Parse_s5 p0 i327 s.1 s.2) n439 (i428, i429) out5) (fun ⟨n439, i428, i429⟩ => n439) (n439', 0, 1) hl5 ⟨rfl, rfl, rfl, rfl, rfl, rfl, rfl, trivial⟩ (fun W h => h.phi (fun W hφ => hφ)) (fun ⟨n439, i428, i429⟩ u hlp => ?_)
     obtain ⟨o5, hm, hnx5⟩ := lp_step hlp
     clear hlp
     replace hm : m_ref03_Parse_s5 p0 i327 i428 i429 = some o5 := hm
     unfold m_ref03_Parse_s5 at hm
     refine c_flat [(0, .string p0), (4, .slice A323 l322.length c324), (5, .string s325), (6, .bool false), (7, .int .i64 i327), (10, .int .i64 i428), (11, .int .i64 i429)] ⟨rfl, rfl, rfl, rfl, rfl, rfl, rfl, trivial⟩ (fun u => ?_)
     refine c_seq <| c_seq <| c_region <| g_v rfl r_move <| g_v rfl (r_lss rfl rfl) <| g_nil <| d_then ?_
     refine c_cond rfl (fun h440 => ?_) (fun h440 => ?_)
     ·
      replace hm := ite_t hm (of_decide_eq_true h440)
      refine c_skip <| d_then <| c_seq <| c_block <| c_seq <| c_seq <| c_region <| g_v rfl r_move <| g_v rfl r_move <| g_v rfl (r_add rfl rfl rfl) ?_
      refine g_v rfl r_move <| g_v rfl (r_len Tryd.underlying9 rfl) <| g_v rfl (r_geq rfl rfl) <| g_v rfl r_move ?_
      refine g_if rfl rfl rfl rfl rfl (fun h441 => ?_) (fun h441 => ?_)
      ·
       replace hm := ite_f hm (of_decide_eq_false h441)
       refine g_v rfl r_move <| g_do rfl rfl rfl rfl rfl h441 <| g_v rfl r_move <| g_do rfl rfl rfl rfl rfl h441 <| g_v rfl r_move <| g_do rfl rfl rfl rfl rfl h441 <| g_v rfl (r_add rfl rfl rfl) <| g_do rfl rfl rfl rfl rfl h441 ?_
       replace hm := bnd hm
       obtain ⟨b442, hb442, hm⟩ := hm
       refine g_v rfl (r_sat Tryd.underlying9 rfl rfl hb442) <| g_do rfl rfl rfl rfl rfl h441 <| g_v rfl (r_lss rfl rfl) <| g_v rfl (r_pick0 rfl h441) <| g_v rfl r_move ?_
       refine g_if rfl rfl rfl rfl rfl (fun h443 => ?_) (fun h443 => ?_)
       ·
        replace hm := ite_f hm (of_decide_eq_false h443)
        refine g_v rfl r_move <| g_do rfl rfl rfl rfl rfl h443 <| g_v rfl r_move <| g_do rfl rfl rfl rfl rfl h443 <| g_v rfl r_move <| g_do rfl rfl rfl rfl rfl h443 <| g_v rfl (r_add rfl rfl rfl) <| g_do rfl rfl rfl rfl rfl h443 ?_
        replace hm := bnd hm
        obtain ⟨b444, hb444, hm⟩ := hm
        refine g_v rfl (r_sat Tryd.underlying9 rfl rfl hb444) <| g_do rfl rfl rfl rfl rfl h443 <| g_v rfl (r_gtr rfl rfl) <| g_v rfl (r_pick0 rfl h443) <| g_nil <| d_then ?_
        refine c_flat [(0, .string p0), (4, .slice A323 l322.length c324), (5, .string s325), (6, .bool false), (7, .int .i64 i327), (10, .int .i64 i428), (11, .int .i64 i429), (91, .bool (decide (57 < b444)))] ⟨rfl, rfl, rfl, rfl, rfl, rfl, rfl, rfl, trivial⟩ (fun u => ?_)
        refine c_cond rfl (fun h445 => ?_) (fun h445 => ?_)
        ·
         replace hm := ite_t hm (of_decide_eq_true h445)
         refine c_seq <| c_region <| g_v rfl r_assign <| g_v rfl r_assign <| g_nil <| d_then <| c_ret <| d_ret_then <| d_ret_block <| d_ret_then ?_
         refine d_ret_then <| d_ret_block <| d_ret_then <| d_ret_then <| d_ret_block <| d_ret_then <| d_ret_block <| d_ret_then <| d_ret_then ?_
         replace hm := nx_out (C := (fun e : Int ⊕ (ByteArray × Int) => Sum.elim (fun e => m_ref03_Parse_j4 s325 l322 i327 e) (fun x => some (.inr (.inr x))) e = some o3)) hm hnx5 hr5
         replace hm : some (.inr (.inr ((⟨#[]⟩ : ByteArray), 10))) = some o3 := hm
         replace hm := nx_out (C := (fun e : ((List ByteArray) × ByteArray × Bool) ⊕ (ByteArray × Int) => Sum.elim (fun e => m_ref03_Parse_j1 e.1 e.2.1 e.2.2) (fun x => some x) e = some r)) hm hnx3 hr3
         replace hm : some ((⟨#[]⟩ : ByteArray), 10) = some r := hm
         cases hm
         exact d_retC () Tryd.results7 (res_tmp (res_tmp (res_nil rfl))) trivial (fun W h => ok_pre (H1 := []) (R1 := [_]) h (fun W hφ => hφ)) (.inr rfl)
        replace hm := ite_f hm (of_decide_eq_false h445)
        refine c_skip <| d_then <| c_region <| g_v rfl r_move <| g_v rfl (r_mul rfl rfl rfl) ?_
        iterate 3 refine g_v rfl r_move ?_
        refine g_v rfl (r_add rfl rfl rfl) ?_
        replace hm := bnd hm
        obtain ⟨b446, hb446, hm⟩ := hm
        refine g_v rfl (r_sat Tryd.underlying9 rfl rfl hb446) <| g_v rfl (r_sub rfl rfl rfl) <| g_v rfl (r_conv Tryd.underlying5 Tryd.underlying3 rfl rfl) <| g_v rfl (r_add rfl rfl rfl) <| g_v rfl r_assign <| g_nil <| d_normal_block <| d_then ?_
        refine c_flat [(0, .string p0), (4, .slice A323 l322.length c324), (5, .string s325), (6, .bool false), (7, .int .i64 i327), (10, .int .i64 (w64 ((w64 (i428 * 10)) + (w64 (IntKind.u8.wrap (b446 - 48)))))), (11, .int .i64 i429)] ⟨rfl, rfl, rfl, rfl, rfl, rfl, rfl, trivial⟩ (fun u => ?_)
        refine c_region <| g_v rfl r_move <| g_v rfl (r_add rfl rfl rfl) <| g_v rfl r_assign <| g_nil ?_
        obtain ⟨n447, hn447, hlp⟩ := nx_inl hm hnx5
        exact d_round (n447, w64 ((w64 (i428 * 10)) + (w64 (IntKind.u8.wrap (b446 - 48)))), w64 (i429 + 1)) hlp hn447 ⟨rfl, rfl, rfl, rfl, rfl, rfl, rfl, trivial⟩ (fun W h => h.phi (fun W hφ => hφ))
       replace hm := ite_t hm (of_decide_eq_true h443)
       iterate 5 refine g_no rfl rfl rfl rfl rfl h443 ?_
       refine g_v rfl (r_pick1 rfl h443) <| g_nil <| d_then ?_
       refine c_flat [(0, .string p0), (4, .slice A323 l322.length c324), (5, .string s325), (6, .bool false), (7, .int .i64 i327), (10, .int .i64 i428), (11, .int .i64 i429), (91, .bool true)] ⟨rfl, rfl, rfl, rfl, rfl, rfl, rfl, rfl, trivial⟩ (fun u => ?_)
       refine c_cond1 rfl rfl <| c_seq <| c_region <| g_v rfl r_assign <| g_v rfl r_assign <| g_nil <| d_then <| c_ret <| d_ret_then <| d_ret_block ?_
       refine d_ret_then <| d_ret_then <| d_ret_block <| d_ret_then <| d_ret_then <| d_ret_block <| d_ret_then <| d_ret_block <| d_ret_then <| d_ret_then ?_
       replace hm := nx_out (C := (fun e : Int ⊕ (ByteArray × Int) => Sum.elim (fun e => m_ref03_Parse_j4 s325 l322 i327 e) (fun x => some (.inr (.inr x))) e = some o3)) hm hnx5 hr5
       replace hm : some (.inr (.inr ((⟨#[]⟩ : ByteArray), 10))) = some o3 := hm
       replace hm := nx_out (C := (fun e : ((List ByteArray) × ByteArray × Bool) ⊕ (ByteArray × Int) => Sum.elim (fun e => m_ref03_Parse_j1 e.1 e.2.1 e.2.2) (fun x => some x) e = some r)) hm hnx3 hr3
       replace hm : some ((⟨#[]⟩ : ByteArray), 10) = some r := hm
       cases hm
       exact d_retC () Tryd.results7 (res_tmp (res_tmp (res_nil rfl))) trivial (fun W h => ok_pre (H1 := []) (R1 := [_]) h (fun W hφ => hφ)) (.inr rfl)
      replace hm := ite_t hm (of_decide_eq_true h441)
      iterate 5 refine g_no rfl rfl rfl rfl rfl h441 ?_
      refine g_v rfl (r_pick1 rfl h441) <| g_v rfl r_move ?_
      iterate 6 refine g_no rfl rfl rfl rfl rfl rfl ?_
      refine g_v rfl (r_pick1 rfl rfl) <| g_nil <| d_then ?_
      refine c_flat [(0, .string p0), (4, .slice A323 l322.length c324), (5, .string s325), (6, .bool false), (7, .int .i64 i327), (10, .int .i64 i428), (11, .int .i64 i429), (91, .bool true)] ⟨rfl, rfl, rfl, rfl, rfl, rfl, rfl, rfl, trivial⟩ (fun u => ?_)
      refine c_cond1 rfl rfl <| c_seq <| c_region <| g_v rfl r_assign <| g_v rfl r_assign <| g_nil <| d_then <| c_ret <| d_ret_then <| d_ret_block ?_
      refine d_ret_then <| d_ret_then <| d_ret_block <| d_ret_then <| d_ret_then <| d_ret_block <| d_ret_then <| d_ret_block <| d_ret_then <| d_ret_then ?_
      replace hm := nx_out (C := (fun e : Int ⊕ (ByteArray × Int) => Sum.elim (fun e => m_ref03_Parse_j4 s325 l322 i327 e) (fun x => some (.inr (.inr x))) e = some o3)) hm hnx5 hr5
      replace hm : some (.inr (.inr ((⟨#[]⟩ : ByteArray), 10))) = some o3 := hm
      replace hm := nx_out (C := (fun e : ((List ByteArray) × ByteArray × Bool) ⊕ (ByteArray × Int) => Sum.elim (fun e => m_ref03_Parse_j1 e.1 e.2.1 e.2.2) (fun x => some x) e = some r)) hm hnx3 hr3
      replace hm : some ((⟨#[]⟩ : ByteArray), 10) = some r := hm
      cases hm
      exact d_retC () Tryd.results7 (res_tmp (res_tmp (res_nil rfl))) trivial (fun W h => ok_pre (H1 := []) (R1 := [_]) h (fun W hφ => hφ)) (.inr rfl)
     replace hm := ite_f hm (of_decide_eq_false h440)
     refine c_exit <| d_exit_then <| d_exit_then <| d_exit_block ?_
     replace hm := nx_out (C := (fun e : Int ⊕ (ByteArray × Int) => Sum.elim (fun e => m_ref03_Parse_j4 s325 l322 i327 e) (fun x => some (.inr (.inr x))) e = some o3)) hm hnx5 hr5
     exact d_round i428 hm Nat.zero_lt_one ⟨rfl, rfl, rfl, rfl, rfl, rfl, trivial⟩ (fun W h => h.phi (fun W hφ => hφ))
    unfold m_ref03_Parse_j4 at hm
    refine d_flat [(0, .string p0), (4, .slice A323 l322.length c324), (5, .string s325), (6, .bool false), (7, .int .i64 i327), (10, .int .i64 i416)] ⟨rfl, rfl, rfl, rfl, rfl, rfl, trivial⟩ (fun u => ?_)
    refine d_then <| c_seq <| c_seq <| c_region <| g_v rfl r_move <| g_v rfl (r_gtr rfl rfl) <| g_nil <| d_then ?_
    refine c_cond rfl (fun h417 => ?_) (fun h417 => ?_)
    ·
     replace hm := ite_t hm (of_decide_eq_true h417)
     refine c_seq <| c_region <| g_v rfl r_assign <| g_v rfl r_assign <| g_nil <| d_then <| c_ret <| d_ret_then <| d_ret_block <| d_ret_then ?_
     refine d_ret_block <| d_ret_then <| d_ret_then ?_
     replace hm := nx_out (C := (fun e : ((List ByteArray) × ByteArray × Bool) ⊕ (ByteArray × Int) => Sum.elim (fun e => m_ref03_Parse_j1 e.1 e.2.1 e.2.2) (fun x => some x) e = some r)) hm hnx3 hr3
     replace hm : some ((⟨#[]⟩ : ByteArray), 10) = some r := hm
     cases hm
     exact d_retC () Tryd.results7 (res_tmp (res_tmp (res_nil rfl))) trivial (fun W h => ok_pre (H1 := []) (R1 := [_]) h (fun W hφ => hφ)) (.inr rfl)
    replace hm := ite_f hm (of_decide_eq_false h417)
    refine c_skip <| d_then <| c_seq <| c_region <| g_v rfl r_move <| g_v rfl r_move <| g_v rfl (r_conv Tryd.underlying3 Tryd.underlying5 rfl rfl) ?_
    refine g_e rfl (e_lit (tag := 101070) (l := [IntKind.u8.wrap i416]) (enc := (fun x : Int => [Value.int .u8 x])) (sz := 1) rfl Tryd.underlying35 (lit5_1 _) rfl rfl (fun _ => rfl)) (fun g418 _ => ?_)
    refine g_v rfl (r_textE Tryd.underlying35 Tryd.underlying5 Tryd.underlying9 rfl (fun W hS => rowCl (tag := 101070) rfl W hS)) ?_
    replace hm := bnd hm
    obtain ⟨s419, hs419, hm⟩ := hm
    refine g_v rfl (r_addT rfl rfl hs419) <| g_v rfl r_assign <| g_nil <| d_then ?_
    refine c_flat [(0, .string p0), (4, .slice A323 l322.length c324), (5, .string s419), (6, .bool false), (7, .int .i64 i327)] ⟨rfl, rfl, rfl, rfl, rfl, trivial⟩ (fun u => ?_)
    refine c_sta ⟨w0, M, H, (101070, ⟨.slice (some ⟨g418, 0, none⟩) [IntKind.u8.wrap i416].length 1, 5, 1, [IntKind.u8.wrap i416].length, [IntKind.u8.wrap i416].flatMap (fun x : Int => [Value.int .u8 x])⟩) :: (13, ⟨.slice A323 l322.length c324, 9, 1, l322.length, l322.flatMap (fun x : ByteArray => [Value.string x])⟩) :: R, φ⟩ (fun _ h => h) <| c_region <| g_v rfl r_move <| g_v rfl (r_add rfl rfl rfl) <| g_v rfl r_assign <| g_nil <| d_normal_block ?_
    obtain ⟨n420, hn420, hlp⟩ := nx_inl hm hnx3
    exact d_round (n420, l322, s419, false, w64 (i327 + 4), A323, c324) ⟨hlp, hc324⟩ hn420 ⟨rfl, rfl, rfl, rfl, rfl, trivial⟩ (fun W h => (h.dropR (t := 101070) rfl).phi (fun W hφ => hφ))
   replace hm := ite_t hm (of_decide_eq_true h392)
   refine g_no rfl rfl rfl rfl rfl h392 <| g_v rfl (r_pick1 rfl h392) <| g_nil <| d_then ?_
   refine c_flat [(0, .string p0), (4, .slice A323 l322.length c324), (5, .string s325), (6, .bool false), (7, .int .i64 i327), (9, .int .u8 b391), (58, .bool true)] ⟨rfl, rfl, rfl, rfl, rfl, rfl, rfl, trivial⟩ (fun u => ?_)
   refine c_cond1 rfl rfl <| c_seq <| c_region <| g_v rfl r_move <| g_v rfl r_move ?_
   refine g_e rfl (e_lit (tag := 100610) (l := [b391]) (enc := (fun x : Int => [Value.int .u8 x])) (sz := 1) rfl Tryd.underlying35 (lit5_1 _) rfl rfl (fun _ => rfl)) (fun g448 _ => ?_)
   refine g_v rfl (r_textE Tryd.underlying35 Tryd.underlying5 Tryd.underlying9 rfl (fun W hS => rowCl (tag := 100610) rfl W hS)) ?_
   replace hm := bnd hm
   obtain ⟨s449, hs449, hm⟩ := hm
   refine g_v rfl (r_addT rfl rfl hs449) <| g_v rfl r_assign <| g_nil <| d_then <| c_seq <| c_region <| g_v rfl r_move <| g_v rfl (r_add rfl rfl rfl) <| g_v rfl r_assign <| g_nil ?_
   refine d_then ?_
   refine c_flat [(0, .string p0), (4, .slice A323 l322.length c324), (5, .string s449), (6, .bool false), (7, .int .i64 (w64 (i327 + 2)))] ⟨rfl, rfl, rfl, rfl, rfl, trivial⟩ (fun u => ?_)
   refine c_sta ⟨w0, M, H, (100610, ⟨.slice (some ⟨g448, 0, none⟩) [b391].length 1, 5, 1, [b391].length, [b391].flatMap (fun x : Int => [Value.int .u8 x])⟩) :: (13, ⟨.slice A323 l322.length c324, 9, 1, l322.length, l322.flatMap (fun x : ByteArray => [Value.string x])⟩) :: R, φ⟩ (fun _ h => h) <| c_exit <| d_exit_then <| d_exit_block ?_
   obtain ⟨n450, hn450, hlp⟩ := nx_inl hm hnx3
   exact d_round (n450, l322, s449, false, w64 (i327 + 2), A323, c324) ⟨hlp, hc324⟩ hn450 ⟨rfl, rfl, rfl, rfl, rfl, trivial⟩ (fun W h => (h.dropR (t := 100610) rfl).phi (fun W hφ => hφ))
  replace hm := ite_f hm (of_decide_eq_false h377)
  refine c_exit <| d_exit_then <| d_exit_then <| d_exit_block ?_
  replace hm := nx_out (C := (fun e : ((List ByteArray) × ByteArray × Bool) ⊕ (ByteArray × Int) => Sum.elim (fun e => m_ref03_Parse_j1 e.1 e.2.1 e.2.2) (fun x => some x) e = some r)) hm hnx3 hr3
  exact d_round (l322, s325, b326, A323, c324) ⟨hm, hc324⟩ Nat.zero_lt_one ⟨rfl, rfl, rfl, trivial⟩ (fun W h => h.phi (fun W hφ => hφ))
 unfold m_ref03_Parse_j1 at hm
 refine d_flat [(4, .slice A253 l252.length c254), (5, .string s255), (6, .bool b256)] ⟨rfl, rfl, rfl, trivial⟩ (fun u => ?_)
 refine d_sta ⟨w0, M, H, (13, ⟨.slice A253 l252.length c254, 9, 1, l252.length, l252.flatMap (fun x : ByteArray => [Value.string x])⟩) :: R, φ⟩ (fun _ h => h) <| d_then <| c_seq ?_
 refine c_cut (ι := (List ByteArray) × Option Addr × Nat) [4] (fun ⟨l262, A263, c264⟩ => [(4, .slice A263 l262.length c264)]) (fun ⟨l262, A263, c264⟩ => ⟨w0, M, H, (13, ⟨.slice A263 l262.length c264, 9, 1, l262.length, l262.flatMap (fun x : ByteArray => [Value.string x])⟩) :: R, φ⟩) (fun ⟨l262, A263, c264⟩ => m_ref03_Parse_j2 l262 = some r ∧ l262.length ≤ c264) ?_ (fun ⟨l262, A263, c264⟩ u ⟨hm, hc264⟩ => ?_)
 ·
  refine c_seq <| c_region <| g_v rfl r_move <| g_v rfl (r_not rfl) <| g_nil <| d_then ?_
  refine c_cond rfl (fun h269 => ?_) (fun h269 => ?_)
  ·
   have h269' : b256 = false := by revert h269; cases b256 <;> simp
   replace hm := ite_f hm (bool_nt h269')
   refine c_region <| g_v rfl r_move <| g_v rfl r_move ?_
   refine g_e rfl (e_lit (tag := 101160) (l := [s255]) (enc := (fun x : ByteArray => [Value.string x])) (sz := 1) rfl Tryd.underlying30 (lit9_3 _) rfl rfl (fun _ => rfl)) (fun g270 _ => ?_)
   replace hm := bnd hm
   obtain ⟨l271, hl271, hm⟩ := hm
   refine g_e rfl (e_appR (enc := (fun x : ByteArray => [Value.string x])) (l := l252) (l1 := [s255]) (l2 := l271) (tag := 13) Tryd.underlying30 inf9_4 rfl (by decide) (by decide) (fun _ => rfl) (fun _ => rfl) rfl hc254 rfl rfl (fun W hS => rowCl (tag := 101160) rfl W hS) hl271) (fun ⟨A272, c273⟩ hc273 => ?_)
   refine g_v rfl r_assign <| g_nil ?_
   exact d_round (l271, A272, c273) ⟨hm, hc273⟩ Nat.zero_lt_one ⟨rfl, trivial⟩ (fun W h => (h.dropR (t := 101160) rfl).phi (fun W hφ => hφ))
  have h269' : b256 = true := by revert h269; cases b256 <;> simp
  replace hm := ite_t hm h269'
  refine c_skip ?_
  exact d_round (l252, A253, c254) ⟨hm, hc254⟩ Nat.zero_lt_one ⟨rfl, trivial⟩ (fun W h => h.phi (fun W hφ => hφ))
 unfold m_ref03_Parse_j2 at hm
 refine d_flat [(4, .slice A263 l262.length c264)] ⟨rfl, trivial⟩ (fun u => ?_)
 refine d_sta ⟨w0, M, H, (13, ⟨.slice A263 l262.length c264, 9, 1, l262.length, l262.flatMap (fun x : ByteArray => [Value.string x])⟩) :: R, φ⟩ (fun _ h => h) <| d_then <| c_seq <| c_region <| g_v rfl r_move ?_
 replace hm := bnd hm
 obtain ⟨⟨x265, x266⟩, hx267, hm⟩ := hm
 refine g_cn ⟨w0, M, _, _, φ⟩ (fun _ h => h) Tryd.call17 rfl rfl (c_ref03_Make l262 A263 c264 hc264 (fun W hS => rowCl (tag := 13) rfl W hS) _ hx267) (fun _ _ => ?_)
 refine g_v rfl (r_extract rfl rfl) <| g_v rfl (r_extract rfl rfl) <| g_v rfl r_assign <| g_v rfl r_assign <| g_nil <| d_then <| c_ret ?_
 cases hm
 exact d_retC () Tryd.results7 (res_tmp (res_tmp (res_nil rfl))) trivial (fun W h => ok_pre (H1 := []) (R1 := [_]) h (fun W hφ => hφ)) (.inr rfl)
noncomputable def m_ref03_row_j1 (p0 : ByteArray) (l82 : List ByteArray) (i85 : Int) : Option ((List ByteArray) × Bool) :=
  some (l82, decide (i85 = w64 ((p0.size : Int) - 1)))
noncomputable def m_ref03_row_s2 (p0 : ByteArray) (l101 : List ByteArray) (i104 : Int) : Option (((List ByteArray) × Int) ⊕ (((List ByteArray) × Int) ⊕ ((List ByteArray) × Bool))) :=
  if i104 < (p0.size : Int) then
    (sat_ p0 i104).bind fun b122 =>
    if b122 ≠ 0 then
      (sat_ p0 i104).bind fun b124 =>
      if 63 < w64 b124 then
        some (.inr (.inr (([] : List ByteArray), false)))
      else
        if (p0.size : Int) < w64 ((w64 (i104 + 1)) + (w64 b124)) then
          some (.inr (.inr (([] : List ByteArray), false)))
        else
          (scutMid p0 (w64 (i104 + 1)) (w64 ((w64 (i104 + 1)) + (w64 b124)))).bind fun s127 =>
          (app 16 l101 [s127]).bind fun l129 =>
          some (.inl (l129, w64 ((w64 (i104 + 1)) + (w64 b124))))
    else
      some (.inr (.inl (l101, i104)))
  else
    some (.inr (.inl (l101, i104)))
noncomputable def m_ref03_row (p0 : ByteArray) : Option ((List ByteArray) × Bool) :=
  (loop (fun s => m_ref03_row_s2 p0 s.1 s.2) (([] : List ByteArray), 0)).bind fun e => Sum.elim (fun e => m_ref03_row_j1 p0 e.1 e.2) (fun x => some x) e
theorem c_ref03_row {w0 : World} {M : Nat → Prop} {H : List (Nat × Nat × Obj)} {R : List (Nat × Row)} {φ : World → Prop} (p0 : ByteArray) (r : (List ByteArray) × Bool) (hm : m_ref03_row p0 = some r) :
    Cn Tryd.prog 29 #[.string p0] ⟨w0, M, H, R, φ⟩ (fun x : Option Addr × Nat => .tuple #[.slice x.1 r.1.length x.2, .bool r.2]) (fun x => r.1.length ≤ x.2) (fun x => ⟨w0, M, H, (2000, ⟨.slice x.1 r.1.length x.2, 9, 1, r.1.length, r.1.flatMap (fun x : ByteArray => [Value.string x])⟩) :: R, φ⟩) := by
 unfold m_ref03_row at hm
 refine cn_intro (fn := Tryd.f29) (N := 53) Tryd.func29 rfl Tryd.ntmps29 rfl <| c_seq <| c_region <| g_v rfl r_assign <| g_v rfl r_assign <| g_nil <| d_then <| c_seq <| c_region <| g_v rfl r_assign ?_
 refine g_nil <| d_then <| c_seq <| c_region <| g_v rfl r_assign <| g_nil <| d_then <| c_seq <| c_sta _ (fun W h => nilR h 19 9 1) ?_
 refine c_cut (ι := (List ByteArray) × Int × Option Addr × Nat) [0, 4, 5] (fun ⟨l82, i85, A83, c84⟩ => [(4, .slice A83 l82.length c84), (5, .int .i64 i85)]) (fun ⟨l82, i85, A83, c84⟩ => ⟨w0, M, H, (19, ⟨.slice A83 l82.length c84, 9, 1, l82.length, l82.flatMap (fun x : ByteArray => [Value.string x])⟩) :: R, φ⟩) (fun ⟨l82, i85, A83, c84⟩ => m_ref03_row_j1 p0 l82 i85 = some r ∧ l82.length ≤ c84) ?_ (fun ⟨l82, i85, A83, c84⟩ u ⟨hm, hc84⟩ => ?_)
 ·
  refine c_block ?_
  replace hm := bnd hm
  obtain ⟨out2, hl2, hr2⟩ := hm
  obtain ⟨n120', hl2⟩ := loop_lp hl2
  refine c_loopU (ι := Nat × (List ByteArray) × Int × Option Addr × Nat) [0, 4, 5] (fun ⟨n120, l101, i104, A102, c103⟩ => [(4, .slice A102 l101.length c103), (5, .int .i64 i104)]) (fun ⟨n120, l101, i104, A102, c103⟩ => ⟨w0, M, H, (19, ⟨.slice A102 l101.length c103, 9, 1, l101.length, l101.flatMap (fun x : ByteArray => [Value.string x])⟩) :: R, φ⟩) (fun ⟨n120, l101, i104, A102, c103⟩ => Lp (fun s => m_ref03_row_s2 p0 s.1 s.2) n120 (l101, i104) out2 ∧ l101.length ≤ c103) (fun ⟨n120, l101, i104, A102, c103⟩ => n120) (n120', ([] : List ByteArray), 0, none, 0) ⟨hl2, (Nat.le_refl 0)⟩ ⟨rfl, rfl, rfl, trivial⟩ (fun W h => h.phi (fun W hφ => hφ)) (fun ⟨n120, l101, i104, A102, c103⟩ u ⟨hlp, hc103⟩ => ?_)
  obtain ⟨o2, hm, hnx2⟩ := lp_step hlp
  clear hlp
  replace hm : m_ref03_row_s2 p0 l101 i104 = some o2 := hm
  unfold m_ref03_row_s2 at hm
  refine c_flat [(0, .string p0), (4, .slice A102 l101.length c103), (5, .int .i64 i104)] ⟨rfl, rfl, rfl, trivial⟩ (fun u => ?_)
  refine c_sta ⟨w0, M, H, (19, ⟨.slice A102 l101.length c103, 9, 1, l101.length, l101.flatMap (fun x : ByteArray => [Value.string x])⟩) :: R, φ⟩ (fun _ h => h) <| c_seq <| c_seq <| c_region <| g_v rfl r_move <| g_v rfl r_move <| g_v rfl (r_len Tryd.underlying9 rfl) <| g_v rfl (r_lss rfl rfl) <| g_v rfl r_move ?_
  refine g_if rfl rfl rfl rfl rfl (fun h121 => ?_) (fun h121 => ?_)
  ·
   replace hm := ite_t hm (of_decide_eq_true h121)
   refine g_v rfl r_move <| g_do rfl rfl rfl rfl rfl h121 <| g_v rfl r_move <| g_do rfl rfl rfl rfl rfl h121 ?_
   replace hm := bnd hm
   obtain ⟨b122, hb122, hm⟩ := hm
   refine g_v rfl (r_sat Tryd.underlying9 rfl rfl hb122) <| g_do rfl rfl rfl rfl rfl h121 <| g_v rfl (r_neq rfl rfl) <| g_v rfl (r_pick1 rfl h121) <| g_nil <| d_then ?_
   refine c_flat [(0, .string p0), (4, .slice A102 l101.length c103), (5, .int .i64 i104), (16, .bool (decide (b122 ≠ 0)))] ⟨rfl, rfl, rfl, rfl, trivial⟩ (fun u => ?_)
   refine c_cond rfl (fun h123 => ?_) (fun h123 => ?_)
   ·
    replace hm := ite_t hm (of_decide_eq_true h123)
    refine c_skip <| d_then <| c_block <| c_seq <| c_region <| g_v rfl r_move <| g_v rfl r_move ?_
    replace hm := bnd hm
    obtain ⟨b124, hb124, hm⟩ := hm
    refine g_v rfl (r_sat Tryd.underlying9 rfl rfl hb124) <| g_v rfl (r_conv Tryd.underlying5 Tryd.underlying3 rfl rfl) <| g_v rfl r_assign <| g_nil <| d_then <| c_seq <| c_seq <| c_region <| g_v rfl r_move <| g_v rfl (r_gtr rfl rfl) ?_
    refine g_v rfl r_move ?_
    refine g_if rfl rfl rfl rfl rfl (fun h125 => ?_) (fun h125 => ?_)
    ·
     replace hm := ite_f hm (of_decide_eq_false h125)
     refine g_v rfl r_move <| g_do rfl rfl rfl rfl rfl h125 <| g_v rfl (r_add rfl rfl rfl) <| g_do rfl rfl rfl rfl rfl h125 <| g_v rfl r_move <| g_do rfl rfl rfl rfl rfl h125 <| g_v rfl (r_add rfl rfl rfl) <| g_do rfl rfl rfl rfl rfl h125 <| g_v rfl r_move <| g_do rfl rfl rfl rfl rfl h125 ?_
     refine g_v rfl (r_len Tryd.underlying9 rfl) <| g_do rfl rfl rfl rfl rfl h125 <| g_v rfl (r_gtr rfl rfl) <| g_v rfl (r_pick0 rfl h125) <| g_nil <| d_then ?_
     refine c_flat [(0, .string p0), (4, .slice A102 l101.length c103), (5, .int .i64 i104), (6, .int .i64 (w64 b124)), (31, .bool (decide ((p0.size : Int) < w64 ((w64 (i104 + 1)) + (w64 b124)))))] ⟨rfl, rfl, rfl, rfl, rfl, trivial⟩ (fun u => ?_)
     refine c_cond rfl (fun h126 => ?_) (fun h126 => ?_)
     ·
      replace hm := ite_t hm (of_decide_eq_true h126)
      refine c_seq <| c_region <| g_v rfl r_assign <| g_v rfl r_assign <| g_nil <| d_then <| c_ret <| d_ret_then <| d_ret_block <| d_ret_then ?_
      refine d_ret_block <| d_ret_then <| d_ret_then ?_
      replace hm := nx_out (C := (fun e : ((List ByteArray) × Int) ⊕ ((List ByteArray) × Bool) => Sum.elim (fun e => m_ref03_row_j1 p0 e.1 e.2) (fun x => some x) e = some r)) hm hnx2 hr2
      replace hm : some (([] : List ByteArray), false) = some r := hm
      cases hm
      refine d_sta _ (fun W h => nilR h 28 9 1) <| d_sta _ (fun W h => ok_frontR (t := 28) (t' := 2000) h rfl) ?_
      exact d_retC (none, 0) Tryd.results29 (res_tmp (res_tmp (res_nil rfl))) (Nat.le_refl 0) (fun W h => (h.dropR (t := 19) rfl).phi (fun W hφ => hφ)) (.inr rfl)
     replace hm := ite_f hm (of_decide_eq_false h126)
     refine c_skip <| d_then <| c_seq <| c_region ?_
     iterate 3 refine g_v rfl r_move ?_
     refine g_v rfl (r_add rfl rfl rfl) <| g_v rfl r_move <| g_v rfl (r_add rfl rfl rfl) <| g_v rfl r_move <| g_v rfl (r_add rfl rfl rfl) ?_
     replace hm := bnd hm
     obtain ⟨s127, hs127, hm⟩ := hm
     refine g_v rfl (r_scutMid Tryd.underlying9 rfl rfl rfl hs127) ?_
     refine g_e rfl (e_lit (tag := 100410) (l := [s127]) (enc := (fun x : ByteArray => [Value.string x])) (sz := 1) rfl Tryd.underlying30 (lit9_3 _) rfl rfl (fun _ => rfl)) (fun g128 _ => ?_)
     replace hm := bnd hm
     obtain ⟨l129, hl129, hm⟩ := hm
     refine g_e rfl (e_appR (enc := (fun x : ByteArray => [Value.string x])) (l := l101) (l1 := [s127]) (l2 := l129) (tag := 19) Tryd.underlying30 inf9_4 rfl (by decide) (by decide) (fun _ => rfl) (fun _ => rfl) rfl hc103 rfl rfl (fun W hS => rowCl (tag := 100410) rfl W hS) hl129) (fun ⟨A130, c131⟩ hc131 => ?_)
     refine g_v rfl r_assign <| g_nil <| d_then ?_
     refine c_flat [(0, .string p0), (4, .slice A130 l129.length c131), (5, .int .i64 i104), (6, .int .i64 (w64 b124))] ⟨rfl, rfl, rfl, rfl, trivial⟩ (fun u => ?_)
     refine c_sta ⟨w0, M, H, (100410, ⟨.slice (some ⟨g128, 0, none⟩) [s127].length 1, 9, 1, [s127].length, [s127].flatMap (fun x : ByteArray => [Value.string x])⟩) :: (19, ⟨.slice A130 l129.length c131, 9, 1, l129.length, l129.flatMap (fun x : ByteArray => [Value.string x])⟩) :: R, φ⟩ (fun _ h => h) <| c_region <| g_v rfl r_move <| g_v rfl (r_add rfl rfl rfl) <| g_v rfl r_move <| g_v rfl (r_add rfl rfl rfl) <| g_v rfl r_assign <| g_nil <| d_normal_block ?_
     obtain ⟨n132, hn132, hlp⟩ := nx_inl hm hnx2
     exact d_round (n132, l129, w64 ((w64 (i104 + 1)) + (w64 b124)), A130, c131) ⟨hlp, hc131⟩ hn132 ⟨rfl, rfl, rfl, trivial⟩ (fun W h => (h.dropR (t := 100410) rfl).phi (fun W hφ => hφ))
    replace hm := ite_t hm (of_decide_eq_true h125)
    iterate 6 refine g_no rfl rfl rfl rfl rfl h125 ?_
    refine g_v rfl (r_pick1 rfl h125) <| g_nil <| d_then ?_
    refine c_flat [(0, .string p0), (4, .slice A102 l101.length c103), (5, .int .i64 i104), (6, .int .i64 (w64 b124)), (31, .bool true)] ⟨rfl, rfl, rfl, rfl, rfl, trivial⟩ (fun u => ?_)
    refine c_cond1 rfl rfl <| c_seq <| c_region <| g_v rfl r_assign <| g_v rfl r_assign <| g_nil <| d_then <| c_ret <| d_ret_then <| d_ret_block ?_
    refine d_ret_then <| d_ret_block <| d_ret_then <| d_ret_then ?_
    replace hm := nx_out (C := (fun e : ((List ByteArray) × Int) ⊕ ((List ByteArray) × Bool) => Sum.elim (fun e => m_ref03_row_j1 p0 e.1 e.2) (fun x => some x) e = some r)) hm hnx2 hr2
    replace hm : some (([] : List ByteArray), false) = some r := hm
    cases hm
    refine d_sta _ (fun W h => nilR h 29 9 1) <| d_sta _ (fun W h => ok_frontR (t := 29) (t' := 2000) h rfl) ?_
    exact d_retC (none, 0) Tryd.results29 (res_tmp (res_tmp (res_nil rfl))) (Nat.le_refl 0) (fun W h => (h.dropR (t := 19) rfl).phi (fun W hφ => hφ)) (.inr rfl)
   replace hm := ite_f hm (of_decide_eq_false h123)
   refine c_exit <| d_exit_then <| d_exit_then <| d_exit_block ?_
   replace hm := nx_out (C := (fun e : ((List ByteArray) × Int) ⊕ ((List ByteArray) × Bool) => Sum.elim (fun e => m_ref03_row_j1 p0 e.1 e.2) (fun x => some x) e = some r)) hm hnx2 hr2
   exact d_round (l101, i104, A102, c103) ⟨hm, hc103⟩ Nat.zero_lt_one ⟨rfl, rfl, rfl, trivial⟩ (fun W h => h.phi (fun W hφ => hφ))
  replace hm := ite_f hm (of_decide_eq_false h121)
  iterate 3 refine g_no rfl rfl rfl rfl rfl h121 ?_
  refine g_v rfl (r_pick0 rfl h121) <| g_nil <| d_then <| c_cond0 rfl rfl <| c_exit <| d_exit_then <| d_exit_then <| d_exit_block ?_
  replace hm := nx_out (C := (fun e : ((List ByteArray) × Int) ⊕ ((List ByteArray) × Bool) => Sum.elim (fun e => m_ref03_row_j1 p0 e.1 e.2) (fun x => some x) e = some r)) hm hnx2 hr2
  exact d_round (l101, i104, A102, c103) ⟨hm, hc103⟩ Nat.zero_lt_one ⟨rfl, rfl, rfl, trivial⟩ (fun W h => h.phi (fun W hφ => hφ))
 unfold m_ref03_row_j1 at hm
 refine d_flat [(0, .string p0), (4, .slice A83 l82.length c84), (5, .int .i64 i85)] ⟨rfl, rfl, rfl, trivial⟩ (fun u => ?_)
 refine d_sta ⟨w0, M, H, (19, ⟨.slice A83 l82.length c84, 9, 1, l82.length, l82.flatMap (fun x : ByteArray => [Value.string x])⟩) :: R, φ⟩ (fun _ h => h) <| d_then <| c_seq <| c_region ?_
 iterate 3 refine g_v rfl r_move ?_
 refine g_v rfl (r_len Tryd.underlying9 rfl) <| g_v rfl (r_sub rfl rfl rfl) <| g_v rfl (r_eql rfl rfl) <| g_v rfl r_assign <| g_v rfl r_assign <| g_nil <| d_then <| c_ret ?_
 cases hm
 refine d_sta _ (fun W h => ok_frontR (t := 19) (t' := 2000) h rfl) ?_
 exact d_retC (A83, c84) Tryd.results29 (res_tmp (res_tmp (res_nil rfl))) hc84 (fun W h => h.phi (fun W hφ => hφ)) (.inr rfl)
noncomputable def m_ref03_Check (p0 : ByteArray) : Option Int :=
  (m_ref03_row p0).bind fun (z7 : (List ByteArray) × Bool) =>
  if z7.2 = true then
    if 255 < (p0.size : Int) then
      some 11
    else
      some 0
  else
    some 10
theorem c_ref03_Check {w0 : World} {M : Nat → Prop} {H : List (Nat × Nat × Obj)} {R : List (Nat × Row)} {φ : World → Prop} (p0 : ByteArray) (r : Int) (hm : m_ref03_Check p0 = some r) :
    Cn Tryd.prog 28 #[.string p0] ⟨w0, M, H, R, φ⟩ (fun x : Unit => .int .i64 r) (fun x => True) (fun x => ⟨w0, M, H, R, φ⟩) := by
 unfold m_ref03_Check at hm
 refine cn_intro (fn := Tryd.f28) (N := 15) Tryd.func28 rfl Tryd.ntmps28 rfl <| c_seq <| c_region <| g_v rfl r_assign <| g_nil <| d_then <| c_seq <| c_region <| g_v rfl r_move ?_
 replace hm := bnd hm
 obtain ⟨⟨x1, x2⟩, hx3, hm⟩ := hm
 refine g_cn ⟨w0, M, _, _, φ⟩ (fun _ h => h) Tryd.call29 rfl rfl (c_ref03_row p0 _ hx3) (fun ⟨A4, c5⟩ hc5 => ?_)
 refine g_sta _ (fun W h => (ok_frontR (t := 2000) (t' := 100070) h rfl)) <| g_v rfl r_move <| g_v rfl (r_extract rfl rfl) <| g_v rfl (r_extract rfl rfl) <| g_v rfl r_assign <| g_v rfl r_assign <| g_nil <| d_then <| c_seq <| c_seq ?_
 refine c_region <| g_v rfl r_move <| g_v rfl (r_not rfl) <| g_nil <| d_then ?_
 refine c_flat [(0, .string p0), (11, .bool (!x2))] ⟨rfl, rfl, trivial⟩ (fun u => ?_)
 refine c_sta ⟨w0, M, H, (100070, ⟨.slice A4 x1.length c5, 9, 1, x1.length, x1.flatMap (fun x : ByteArray => [Value.string x])⟩) :: R, φ⟩ (fun _ h => h) ?_
 refine c_cond rfl (fun h8 => ?_) (fun h8 => ?_)
 ·
  have h8' : x2 = false := by revert h8; cases x2 <;> simp
  replace hm := ite_f hm (bool_nt h8')
  refine c_seq <| c_region <| g_v rfl r_assign <| g_nil <| d_then <| c_ret <| d_ret_then ?_
  cases hm
  exact d_retC () Tryd.results28 (res_tmp (res_nil rfl)) trivial (fun W h => ok_pre (H1 := []) (R1 := [_]) h (fun W hφ => hφ)) (.inr rfl)
 have h8' : x2 = true := by revert h8; cases x2 <;> simp
 replace hm := ite_t hm h8'
 refine c_skip <| d_then <| c_seq <| c_seq <| c_region <| g_v rfl r_move <| g_v rfl (r_len Tryd.underlying9 rfl) <| g_v rfl (r_gtr rfl rfl) <| g_nil <| d_then ?_
 refine c_cond rfl (fun h9 => ?_) (fun h9 => ?_)
 ·
  replace hm := ite_t hm (of_decide_eq_true h9)
  refine c_seq <| c_region <| g_v rfl r_assign <| g_nil <| d_then <| c_ret <| d_ret_then ?_
  cases hm
  exact d_retC () Tryd.results28 (res_tmp (res_nil rfl)) trivial (fun W h => ok_pre (H1 := []) (R1 := [_]) h (fun W hφ => hφ)) (.inr rfl)
 replace hm := ite_f hm (of_decide_eq_false h9)
 refine c_skip <| d_then <| c_seq <| c_region <| g_v rfl r_assign <| g_nil <| d_then <| c_ret ?_
 cases hm
 exact d_retC () Tryd.results28 (res_tmp (res_nil rfl)) trivial (fun W h => ok_pre (H1 := []) (R1 := [_]) h (fun W hφ => hφ)) (.inr rfl)
noncomputable def m_ref03_Labels (p0 : ByteArray) : Option ((List ByteArray) × Int) :=
  (m_ref03_Check p0).bind fun x1 =>
  if x1 ≠ 0 then
    some (([] : List ByteArray), x1)
  else
    (m_ref03_row p0).bind fun (z10 : (List ByteArray) × Bool) =>
    some (z10.1, 0)
theorem c_ref03_Labels {w0 : World} {M : Nat → Prop} {H : List (Nat × Nat × Obj)} {R : List (Nat × Row)} {φ : World → Prop} (p0 : ByteArray) (r : (List ByteArray) × Int) (hm : m_ref03_Labels p0 = some r) :
    Cn Tryd.prog 20 #[.string p0] ⟨w0, M, H, R, φ⟩ (fun x : Option Addr × Nat => .tuple #[.slice x.1 r.1.length x.2, .int .i64 r.2]) (fun x => r.1.length ≤ x.2) (fun x => ⟨w0, M, H, (2000, ⟨.slice x.1 r.1.length x.2, 9, 1, r.1.length, r.1.flatMap (fun x : ByteArray => [Value.string x])⟩) :: R, φ⟩) := by
 unfold m_ref03_Labels at hm
 refine cn_intro (fn := Tryd.f20) (N := 18) Tryd.func20 rfl Tryd.ntmps20 rfl <| c_seq <| c_region <| g_v rfl r_assign <| g_v rfl r_assign <| g_nil <| d_then <| c_seq <| c_region <| g_v rfl r_move ?_
 replace hm := bnd hm
 obtain ⟨x1, hx2, hm⟩ := hm
 refine g_cn ⟨w0, M, _, _, φ⟩ (fun _ h => h) Tryd.call28 rfl rfl (c_ref03_Check p0 _ hx2) (fun _ _ => ?_)
 refine g_v rfl r_assign <| g_nil <| d_then <| c_seq <| c_seq <| c_region <| g_v rfl r_move <| g_v rfl (r_neq rfl rfl) <| g_nil <| d_then ?_
 refine c_cond rfl (fun h3 => ?_) (fun h3 => ?_)
 ·
  replace hm := ite_t hm (of_decide_eq_true h3)
  refine c_seq <| c_region <| g_v rfl r_move <| g_v rfl r_assign <| g_v rfl r_assign <| g_nil <| d_then ?_
  refine c_flat [(2, .slice none 0 0), (3, .int .i64 x1)] ⟨rfl, rfl, trivial⟩ (fun u => ?_)
  refine c_sta ⟨w0, M, H, R, φ⟩ (fun _ h => h) <| c_ret <| d_ret_then ?_
  cases hm
  refine d_sta _ (fun W h => nilR h 11 9 1) <| d_sta _ (fun W h => ok_frontR (t := 11) (t' := 2000) h rfl) ?_
  exact d_retC (none, 0) Tryd.results20 (res_tmp (res_tmp (res_nil rfl))) (Nat.le_refl 0) (fun W h => h.phi (fun W hφ => hφ)) (.inr rfl)
 replace hm := ite_f hm (of_decide_eq_false h3)
 refine c_skip <| d_then <| c_seq <| c_region <| g_v rfl r_move ?_
 replace hm := bnd hm
 obtain ⟨⟨x4, x5⟩, hx6, hm⟩ := hm
 refine g_cn ⟨w0, M, _, _, φ⟩ (fun _ h => h) Tryd.call29 rfl rfl (c_ref03_row p0 _ hx6) (fun ⟨A7, c8⟩ hc8 => ?_)
 refine g_sta _ (fun W h => (ok_frontR (t := 2000) (t' := 100140) h rfl)) <| g_v rfl r_move <| g_v rfl (r_extract rfl rfl) <| g_v rfl (r_extract rfl rfl) <| g_v rfl r_assign <| g_v rfl r_assign <| g_nil <| d_then ?_
 refine c_flat [(5, .slice A7 x4.length c8)] ⟨rfl, trivial⟩ (fun u => ?_)
 refine c_sta ⟨w0, M, H, (100140, ⟨.slice A7 x4.length c8, 9, 1, x4.length, x4.flatMap (fun x : ByteArray => [Value.string x])⟩) :: R, φ⟩ (fun _ h => h) <| c_seq <| c_region <| g_v rfl r_move <| g_v rfl r_assign <| g_v rfl r_assign <| g_nil <| d_then <| c_ret ?_
 cases hm
 refine d_sta _ (fun W h => ok_frontR (t := 100140) (t' := 2000) h rfl) ?_
 exact d_retC (A7, c8) Tryd.results20 (res_tmp (res_tmp (res_nil rfl))) hc8 (fun W h => h.phi (fun W hφ => hφ)) (.inr rfl)
noncomputable def m_ref03_Text_j1  (s165 : ByteArray) : Option ByteArray :=
  some s165
noncomputable def m_ref03_Text_j3 (i243 : Int) (s393 : ByteArray) : Option ((ByteArray × Int) ⊕ ByteArray) :=
  (sadd s393 (⟨#[46]⟩ : ByteArray)).bind fun s394 =>
  some (.inl (s394, w64 (i243 + 1)))
noncomputable def m_ref03_Text_s4 (x1 : List ByteArray) (i243 : Int) (s430 : ByteArray) (i431 : Int) : Option ((ByteArray × Int) ⊕ ByteArray) :=
  (at_ x1 i243).bind fun x467 =>
  if i431 < (x467.size : Int) then
    (at_ x1 i243).bind fun x472 =>
    (sat_ x472 i431).bind fun b476 =>
    if b476 = 46 then
      (sadd s430 (⟨#[92]⟩ : ByteArray)).bind fun s500 =>
      (sadd s500 (strOfNums [b476])).bind fun s502 =>
      some (.inl (s502, w64 (i431 + 1)))
    else
      if b476 = 92 then
        (sadd s430 (⟨#[92]⟩ : ByteArray)).bind fun s479 =>
        (sadd s479 (strOfNums [b476])).bind fun s481 =>
        some (.inl (s481, w64 (i431 + 1)))
      else
        if b476 < 33 then
          (m_strconv_Itoa (w64 (1000 + (w64 b476)))).bind fun x494 =>
          (sadd s430 (⟨#[92]⟩ : ByteArray)).bind fun s496 =>
          (scutLo x494 1).bind fun s497 =>
          (sadd s496 s497).bind fun s498 =>
          some (.inl (s498, w64 (i431 + 1)))
        else
          if 126 < b476 then
            (m_strconv_Itoa (w64 (1000 + (w64 b476)))).bind fun x485 =>
            (sadd s430 (⟨#[92]⟩ : ByteArray)).bind fun s487 =>
            (scutLo x485 1).bind fun s488 =>
            (sadd s487 s488).bind fun s489 =>
            some (.inl (s489, w64 (i431 + 1)))
          else
            (sadd s430 (strOfNums [b476])).bind fun s492 =>
            some (.inl (s492, w64 (i431 + 1)))
  else
    some (.inr s430)
noncomputable def m_ref03_Text_s2 (x1 : List ByteArray) (s242 : ByteArray) (i243 : Int) : Option ((ByteArray × Int) ⊕ ByteArray) :=
  if i243 < (x1.length : Int) then
    (loop (fun s => m_ref03_Text_s4 x1 i243 s.1 s.2) (s242, 0)).bind fun e => m_ref03_Text_j3 i243 e
  else
    some (.inr s242)
noncomputable def m_ref03_Text (p0 : ByteArray) : Option ByteArray :=
  (m_ref03_Labels p0).bind fun (z7 : (List ByteArray) × Int) =>
  if z7.2 ≠ 0 then
    some (⟨#[]⟩ : ByteArray)
  else
    if (z7.1.length : Int) = 0 then
      some (⟨#[46]⟩ : ByteArray)
    else
      (loop (fun s => m_ref03_Text_s2 z7.1 s.1 s.2) ((⟨#[]⟩ : ByteArray), 0)).bind fun e => m_ref03_Text_j1 e
theorem c_ref03_Text {w0 : World} {M : Nat → Prop} {H : List (Nat × Nat × Obj)} {R : List (Nat × Row)} {φ : World → Prop} (hT : TabP Tryd.prog w0) (p0 : ByteArray) (r : ByteArray) (hm : m_ref03_Text p0 = some r) :
    Cn Tryd.prog 9 #[.string p0] ⟨w0, M, H, R, φ⟩ (fun x : Unit => .string r) (fun x => True) (fun x => ⟨w0, M, H, R, φ⟩) := by
 unfold m_ref03_Text at hm
 refine cn_intro (fn := Tryd.f9) (N := 76) Tryd.func9 rfl Tryd.ntmps9 rfl <| c_seq <| c_region <| g_v rfl r_assign <| g_nil <| d_then <| c_seq <| c_region <| g_v rfl r_move ?_
 replace hm := bnd hm
 obtain ⟨⟨x1, x2⟩, hx3, hm⟩ := hm
 refine g_cn ⟨w0, M, _, _, φ⟩ (fun _ h => h) Tryd.call20 rfl rfl (c_ref03_Labels p0 _ hx3) (fun ⟨A4, c5⟩ hc5 => ?_)
 refine g_sta _ (fun W h => (ok_frontR (t := 2000) (t' := 100120) h rfl)) <| g_v rfl r_move <| g_v rfl (r_extract rfl rfl) <| g_v rfl (r_extract rfl rfl) <| g_v rfl r_assign <| g_v rfl r_assign <| g_nil <| d_then <| c_seq <| c_seq ?_
 refine c_region <| g_v rfl r_move <| g_v rfl (r_neq rfl rfl) <| g_nil <| d_then ?_
 refine c_flat [(3, .slice A4 x1.length c5), (16, .bool (decide (x2 ≠ 0)))] ⟨rfl, rfl, trivial⟩ (fun u => ?_)
 refine c_sta ⟨w0, M, H, (100120, ⟨.slice A4 x1.length c5, 9, 1, x1.length, x1.flatMap (fun x : ByteArray => [Value.string x])⟩) :: R, φ⟩ (fun _ h => h) ?_
 refine c_cond rfl (fun h8 => ?_) (fun h8 => ?_)
 ·
  replace hm := ite_t hm (of_decide_eq_true h8)
  refine c_seq <| c_region <| g_v rfl r_assign <| g_nil <| d_then <| c_ret <| d_ret_then ?_
  cases hm
  exact d_retC () Tryd.results9 (res_tmp (res_nil rfl)) trivial (fun W h => ok_pre (H1 := []) (R1 := [_]) h (fun W hφ => hφ)) (.inr rfl)
 replace hm := ite_f hm (of_decide_eq_false h8)
 refine c_skip <| d_then <| c_seq <| c_seq <| c_region <| g_v rfl r_move <| g_v rfl (r_lenL Tryd.underlying30 rfl) <| g_v rfl (r_eql rfl rfl) <| g_nil <| d_then ?_
 refine c_cond rfl (fun h9 => ?_) (fun h9 => ?_)
 ·
  replace hm := ite_t hm (of_decide_eq_true h9)
  refine c_seq <| c_region <| g_v rfl r_assign <| g_nil <| d_then <| c_ret <| d_ret_then ?_
  cases hm
  exact d_retC () Tryd.results9 (res_tmp (res_nil rfl)) trivial (fun W h => ok_pre (H1 := []) (R1 := [_]) h (fun W hφ => hφ)) (.inr rfl)
 replace hm := ite_f hm (of_decide_eq_false h9)
 refine c_skip <| d_then <| c_seq <| c_region <| g_v rfl r_assign <| g_nil <| d_then <| c_seq <| c_seq <| c_region ?_
 refine g_v rfl r_assign <| g_nil <| d_then ?_
 refine c_cut (ι := ByteArray) [5] (fun s165 => [(5, .string s165)]) (fun s165 => ⟨w0, M, H, R, φ⟩) (fun s165 => m_ref03_Text_j1 s165 = some r) ?_ (fun s165 u hm => ?_)
 ·
  refine c_block ?_
  replace hm := bnd hm
  obtain ⟨out2, hl2, hr2⟩ := hm
  obtain ⟨n320', hl2⟩ := loop_lp hl2
  refine c_loopU (ι := Nat × ByteArray × Int) [3, 5, 6] (fun ⟨n320, s242, i243⟩ => [(5, .string s242), (6, .int .i64 i243)]) (fun ⟨n320, s242, i243⟩ => ⟨w0, M, H, (100120, ⟨.slice A4 x1.length c5, 9, 1, x1.length, x1.flatMap (fun x : ByteArray => [Value.string x])⟩) :: R, φ⟩) (fun ⟨n320, s242, i243⟩ => Lp (fun s => m_ref03_Text_s2 x1 s.1 s.2) n320 (s242, i243) out2) (fun ⟨n320, s242, i243⟩ => n320) (n320', (⟨#[]⟩ : ByteArray), 0) hl2 ⟨rfl, rfl, rfl, trivial⟩ (fun W h => h.phi (fun W hφ => hφ)) (fun ⟨n320, s242, i243⟩ u hlp => ?_)
  obtain ⟨o2, hm, hnx2⟩ := lp_step hlp
  clear hlp
  replace hm : m_ref03_Text_s2 x1 s242 i243 = some o2 := hm
  unfold m_ref03_Text_s2 at hm
  refine c_flat [(3, .slice A4 x1.length c5), (5, .string s242), (6, .int .i64 i243)] ⟨rfl, rfl, rfl, trivial⟩ (fun u => ?_)
  refine c_seq <| c_seq <| c_region <| g_v rfl r_move <| g_v rfl r_move <| g_v rfl (r_lenL Tryd.underlying30 rfl) <| g_v rfl (r_lss rfl rfl) <| g_nil <| d_then ?_
  refine c_cond rfl (fun h321 => ?_) (fun h321 => ?_)
  ·
   replace hm := ite_t hm (of_decide_eq_true h321)
   refine c_skip <| d_then <| c_seq <| c_block <| c_seq <| c_seq <| c_region <| g_v rfl r_assign <| g_nil <| d_then ?_
   refine c_cut (ι := ByteArray) [3, 5, 6] (fun s393 => [(5, .string s393)]) (fun s393 => ⟨w0, M, H, (100120, ⟨.slice A4 x1.length c5, 9, 1, x1.length, x1.flatMap (fun x : ByteArray => [Value.string x])⟩) :: R, φ⟩) (fun s393 => m_ref03_Text_j3 i243 s393 = some o2) ?_ (fun s393 u hm => ?_)
   ·
    refine c_block ?_
    replace hm := bnd hm
    obtain ⟨out4, hl4, hr4⟩ := hm
    obtain ⟨n466', hl4⟩ := loop_lp hl4
    refine c_loopU (ι := Nat × ByteArray × Int) [3, 5, 6, 7] (fun ⟨n466, s430, i431⟩ => [(5, .string s430), (7, .int .i64 i431)]) (fun ⟨n466, s430, i431⟩ => ⟨w0, M, H, (100120, ⟨.slice A4 x1.length c5, 9, 1, x1.length, x1.flatMap (fun x : ByteArray => [Value.string x])⟩) :: R, φ⟩) (fun ⟨n466, s430, i431⟩ => Lp (fun s => m_ref03_Text_s4 x1 i243 s.1 s.2) n466 (s430, i431) out4) (fun ⟨n466, s430, i431⟩ => n466) (n466', s242, 0) hl4 ⟨rfl, rfl, rfl, rfl, trivial⟩ (fun W h => h.phi (fun W hφ => hφ)) (fun ⟨n466, s430, i431⟩ u hlp => ?_)
    obtain ⟨o4, hm, hnx4⟩ := lp_step hlp
    clear hlp
    replace hm : m_ref03_Text_s4 x1 i243 s430 i431 = some o4 := hm
    unfold m_ref03_Text_s4 at hm
    refine c_flat [(3, .slice A4 x1.length c5), (5, .string s430), (6, .int .i64 i243), (7, .int .i64 i431)] ⟨rfl, rfl, rfl, rfl, trivial⟩ (fun u => ?_)
    refine c_seq <| c_seq <| c_region ?_
    iterate 3 refine g_v rfl r_move ?_
    replace hm := bnd hm
    obtain ⟨x467, hx467, hm⟩ := hm
    refine g_know _ (fun W hS => cl_at (p := (Sta.ok ⟨w0, M, H, (100120, ⟨.slice A4 x1.length c5, 9, 1, x1.length, x1.flatMap (fun x : ByteArray => [Value.string x])⟩) :: R, φ⟩)) (sz := 1) (fun _ => rfl) (by decide) hS (fun W hS => rowCl (S := ⟨w0, M, H, (100120, ⟨.slice A4 x1.length c5, 9, 1, x1.length, x1.flatMap (fun x : ByteArray => [Value.string x])⟩) :: R, φ⟩) (tag := 100120) rfl W hS) hx467) ?_
    rintro ⟨ad468, hA470, f469⟩
    refine g_v rfl (r_ix Tryd.underlying30 Tryd.sizeOf9 rfl hA470 rfl hx467) <| g_v rfl (r_ld rfl Tryd.isAgg9 (fun W hS => Cl.head (f469 W hS))) <| g_v rfl (r_len Tryd.underlying9 rfl) <| g_v rfl (r_lss rfl rfl) <| g_nil <| d_then ?_
    refine c_cond rfl (fun h471 => ?_) (fun h471 => ?_)
    ·
     replace hm := ite_t hm (of_decide_eq_true h471)
     refine c_skip <| d_then <| c_seq <| c_block <| c_seq <| c_region <| g_v rfl r_move <| g_v rfl r_move ?_
     replace hm := bnd hm
     obtain ⟨x472, hx472, hm⟩ := hm
     refine g_know _ (fun W hS => cl_at (p := (Sta.ok ⟨w0, M, H, (100120, ⟨.slice A4 x1.length c5, 9, 1, x1.length, x1.flatMap (fun x : ByteArray => [Value.string x])⟩) :: R, φ⟩)) (sz := 1) (fun _ => rfl) (by decide) hS (fun W hS => rowCl (S := ⟨w0, M, H, (100120, ⟨.slice A4 x1.length c5, 9, 1, x1.length, x1.flatMap (fun x : ByteArray => [Value.string x])⟩) :: R, φ⟩) (tag := 100120) rfl W hS) hx472) ?_
     rintro ⟨ad473, hA475, f474⟩
     refine g_v rfl (r_ix Tryd.underlying30 Tryd.sizeOf9 rfl hA475 rfl hx472) <| g_v rfl (r_ld rfl Tryd.isAgg9 (fun W hS => Cl.head (f474 W hS))) <| g_v rfl r_move ?_
     replace hm := bnd hm
     obtain ⟨b476, hb476, hm⟩ := hm
     refine g_v rfl (r_sat Tryd.underlying9 rfl rfl hb476) <| g_v rfl r_assign <| g_nil <| d_then ?_
     refine c_flat [(3, .slice A4 x1.length c5), (5, .string s430), (6, .int .i64 i243), (7, .int .i64 i431), (8, .int .u8 b476)] ⟨rfl, rfl, rfl, rfl, rfl, trivial⟩ (fun u => ?_)
     refine c_seq <| c_region <| g_v rfl r_move <| g_v rfl (r_eql rfl rfl) <| g_v rfl r_move ?_
     refine g_if rfl rfl rfl rfl rfl (fun h477 => ?_) (fun h477 => ?_)
     ·
      replace hm := ite_f hm (of_decide_eq_false h477)
      refine g_v rfl r_move <| g_do rfl rfl rfl rfl rfl h477 <| g_v rfl (r_eql rfl rfl) <| g_v rfl (r_pick0 rfl h477) <| g_nil <| d_then ?_
      refine c_cond rfl (fun h478 => ?_) (fun h478 => ?_)
      ·
       replace hm := ite_t hm (of_decide_eq_true h478)
       refine c_region <| g_v rfl r_move ?_
       replace hm := bnd hm
       obtain ⟨s479, hs479, hm⟩ := hm
       refine g_v rfl (r_addT rfl rfl hs479) <| g_v rfl r_move ?_
       refine g_e rfl (e_lit (tag := 100500) (l := [b476]) (enc := (fun x : Int => [Value.int .u8 x])) (sz := 1) rfl Tryd.underlying35 (lit5_1 _) rfl rfl (fun _ => rfl)) (fun g480 _ => ?_)
       refine g_v rfl (r_textE Tryd.underlying35 Tryd.underlying5 Tryd.underlying9 rfl (fun W hS => rowCl (tag := 100500) rfl W hS)) ?_
       replace hm := bnd hm
       obtain ⟨s481, hs481, hm⟩ := hm
       refine g_v rfl (r_addT rfl rfl hs481) <| g_v rfl r_assign <| g_nil <| d_normal_block <| d_then ?_
       refine c_flat [(3, .slice A4 x1.length c5), (5, .string s481), (6, .int .i64 i243), (7, .int .i64 i431)] ⟨rfl, rfl, rfl, rfl, trivial⟩ (fun u => ?_)
       refine c_sta ⟨w0, M, H, (100500, ⟨.slice (some ⟨g480, 0, none⟩) [b476].length 1, 5, 1, [b476].length, [b476].flatMap (fun x : Int => [Value.int .u8 x])⟩) :: (100120, ⟨.slice A4 x1.length c5, 9, 1, x1.length, x1.flatMap (fun x : ByteArray => [Value.string x])⟩) :: R, φ⟩ (fun _ h => h) <| c_region <| g_v rfl r_move <| g_v rfl (r_add rfl rfl rfl) <| g_v rfl r_assign <| g_nil ?_
       obtain ⟨n482, hn482, hlp⟩ := nx_inl hm hnx4
       exact d_round (n482, s481, w64 (i431 + 1)) hlp hn482 ⟨rfl, rfl, rfl, rfl, trivial⟩ (fun W h => (h.dropR (t := 100500) rfl).phi (fun W hφ => hφ))
      replace hm := ite_f hm (of_decide_eq_false h478)
      refine c_seq <| c_region <| g_v rfl r_move <| g_v rfl (r_lss rfl rfl) <| g_v rfl r_move ?_
      refine g_if rfl rfl rfl rfl rfl (fun h483 => ?_) (fun h483 => ?_)
      ·
       replace hm := ite_f hm (of_decide_eq_false h483)
       refine g_v rfl r_move <| g_do rfl rfl rfl rfl rfl h483 <| g_v rfl (r_gtr rfl rfl) <| g_v rfl (r_pick0 rfl h483) <| g_nil <| d_then ?_
       refine c_flat [(3, .slice A4 x1.length c5), (5, .string s430), (6, .int .i64 i243), (7, .int .i64 i431), (8, .int .u8 b476), (58, .bool (decide (126 < b476)))] ⟨rfl, rfl, rfl, rfl, rfl, rfl, trivial⟩ (fun u => ?_)
       refine c_cond rfl (fun h484 => ?_) (fun h484 => ?_)
       ·
        replace hm := ite_t hm (of_decide_eq_true h484)
        refine c_seq <| c_region <| g_v rfl r_move <| g_v rfl (r_conv Tryd.underlying5 Tryd.underlying3 rfl rfl) <| g_v rfl (r_add rfl rfl rfl) ?_
        replace hm := bnd hm
        obtain ⟨x485, hx486, hm⟩ := hm
        refine g_cn ⟨w0, M, _, _, φ⟩ (fun _ h => h) Tryd.call21 rfl rfl (c_strconv_Itoa hT (w64 (1000 + (w64 b476))) _ hx486) (fun _ _ => ?_)
        refine g_v rfl r_assign <| g_nil <| d_then <| c_region <| g_v rfl r_move ?_
        replace hm := bnd hm
        obtain ⟨s487, hs487, hm⟩ := hm
        refine g_v rfl (r_addT rfl rfl hs487) <| g_v rfl r_move ?_
        replace hm := bnd hm
        obtain ⟨s488, hs488, hm⟩ := hm
        refine g_v rfl (r_scutLo Tryd.underlying9 rfl rfl hs488) ?_
        replace hm := bnd hm
        obtain ⟨s489, hs489, hm⟩ := hm
        refine g_v rfl (r_addT rfl rfl hs489) <| g_v rfl r_assign <| g_nil <| d_normal_block <| d_then ?_
        refine c_flat [(3, .slice A4 x1.length c5), (5, .string s489), (6, .int .i64 i243), (7, .int .i64 i431)] ⟨rfl, rfl, rfl, rfl, trivial⟩ (fun u => ?_)
        refine c_region <| g_v rfl r_move <| g_v rfl (r_add rfl rfl rfl) <| g_v rfl r_assign <| g_nil ?_
        obtain ⟨n490, hn490, hlp⟩ := nx_inl hm hnx4
        exact d_round (n490, s489, w64 (i431 + 1)) hlp hn490 ⟨rfl, rfl, rfl, rfl, trivial⟩ (fun W h => h.phi (fun W hφ => hφ))
       replace hm := ite_f hm (of_decide_eq_false h484)
       refine c_region <| g_v rfl r_move <| g_v rfl r_move ?_
       refine g_e rfl (e_lit (tag := 100700) (l := [b476]) (enc := (fun x : Int => [Value.int .u8 x])) (sz := 1) rfl Tryd.underlying35 (lit5_1 _) rfl rfl (fun _ => rfl)) (fun g491 _ => ?_)
       refine g_v rfl (r_textE Tryd.underlying35 Tryd.underlying5 Tryd.underlying9 rfl (fun W hS => rowCl (tag := 100700) rfl W hS)) ?_
       replace hm := bnd hm
       obtain ⟨s492, hs492, hm⟩ := hm
       refine g_v rfl (r_addT rfl rfl hs492) <| g_v rfl r_assign <| g_nil <| d_normal_block <| d_then <| c_region <| g_v rfl r_move <| g_v rfl (r_add rfl rfl rfl) <| g_v rfl r_assign <| g_nil ?_
       obtain ⟨n493, hn493, hlp⟩ := nx_inl hm hnx4
       exact d_round (n493, s492, w64 (i431 + 1)) hlp hn493 ⟨rfl, rfl, rfl, rfl, trivial⟩ (fun W h => (h.dropR (t := 100700) rfl).phi (fun W hφ => hφ))
      replace hm := ite_t hm (of_decide_eq_true h483)
      refine g_no rfl rfl rfl rfl rfl h483 <| g_v rfl (r_pick1 rfl h483) <| g_nil <| d_then ?_
      refine c_flat [(3, .slice A4 x1.length c5), (5, .string s430), (6, .int .i64 i243), (7, .int .i64 i431), (8, .int .u8 b476), (58, .bool true)] ⟨rfl, rfl, rfl, rfl, rfl, rfl, trivial⟩ (fun u => ?_)
      refine c_cond1 rfl rfl <| c_seq <| c_region <| g_v rfl r_move <| g_v rfl (r_conv Tryd.underlying5 Tryd.underlying3 rfl rfl) <| g_v rfl (r_add rfl rfl rfl) ?_
      replace hm := bnd hm
      obtain ⟨x494, hx495, hm⟩ := hm
      refine g_cn ⟨w0, M, _, _, φ⟩ (fun _ h => h) Tryd.call21 rfl rfl (c_strconv_Itoa hT (w64 (1000 + (w64 b476))) _ hx495) (fun _ _ => ?_)
      refine g_v rfl r_assign <| g_nil <| d_then <| c_region <| g_v rfl r_move ?_
      replace hm := bnd hm
      obtain ⟨s496, hs496, hm⟩ := hm
      refine g_v rfl (r_addT rfl rfl hs496) <| g_v rfl r_move ?_
      replace hm := bnd hm
      obtain ⟨s497, hs497, hm⟩ := hm
      refine g_v rfl (r_scutLo Tryd.underlying9 rfl rfl hs497) ?_
      replace hm := bnd hm
      obtain ⟨s498, hs498, hm⟩ := hm
      refine g_v rfl (r_addT rfl rfl hs498) <| g_v rfl r_assign <| g_nil <| d_normal_block <| d_then ?_
      refine c_flat [(3, .slice A4 x1.length c5), (5, .string s498), (6, .int .i64 i243), (7, .int .i64 i431)] ⟨rfl, rfl, rfl, rfl, trivial⟩ (fun u => ?_)
      refine c_region <| g_v rfl r_move <| g_v rfl (r_add rfl rfl rfl) <| g_v rfl r_assign <| g_nil ?_
      obtain ⟨n499, hn499, hlp⟩ := nx_inl hm hnx4
      exact d_round (n499, s498, w64 (i431 + 1)) hlp hn499 ⟨rfl, rfl, rfl, rfl, trivial⟩ (fun W h => h.phi (fun W hφ => hφ))
     replace hm := ite_t hm (of_decide_eq_true h477)
     refine g_no rfl rfl rfl rfl rfl h477 <| g_v rfl (r_pick1 rfl h477) <| g_nil <| d_then <| c_cond1 rfl rfl <| c_region <| g_v rfl r_move ?_
     replace hm := bnd hm
     obtain ⟨s500, hs500, hm⟩ := hm
     refine g_v rfl (r_addT rfl rfl hs500) <| g_v rfl r_move ?_
     refine g_e rfl (e_lit (tag := 100500) (l := [b476]) (enc := (fun x : Int => [Value.int .u8 x])) (sz := 1) rfl Tryd.underlying35 (lit5_1 _) rfl rfl (fun _ => rfl)) (fun g501 _ => ?_)
     refine g_v rfl (r_textE Tryd.underlying35 Tryd.underlying5 Tryd.underlying9 rfl (fun W hS => rowCl (tag := 100500) rfl W hS)) ?_
     replace hm := bnd hm
     obtain ⟨s502, hs502, hm⟩ := hm
     refine g_v rfl (r_addT rfl rfl hs502) <| g_v rfl r_assign <| g_nil <| d_normal_block <| d_then ?_
     refine c_flat [(3, .slice A4 x1.length c5), (5, .string s502), (6, .int .i64 i243), (7, .int .i64 i431)] ⟨rfl, rfl, rfl, rfl, trivial⟩ (fun u => ?_)
     refine c_sta ⟨w0, M, H, (100500, ⟨.slice (some ⟨g501, 0, none⟩) [b476].length 1, 5, 1, [b476].length, [b476].flatMap (fun x : Int => [Value.int .u8 x])⟩) :: (100120, ⟨.slice A4 x1.length c5, 9, 1, x1.length, x1.flatMap (fun x : ByteArray => [Value.string x])⟩) :: R, φ⟩ (fun _ h => h) <| c_region <| g_v rfl r_move <| g_v rfl (r_add rfl rfl rfl) <| g_v rfl r_assign <| g_nil ?_
     obtain ⟨n503, hn503, hlp⟩ := nx_inl hm hnx4
     exact d_round (n503, s502, w64 (i431 + 1)) hlp hn503 ⟨rfl, rfl, rfl, rfl, trivial⟩ (fun W h => (h.dropR (t := 100500) rfl).phi (fun W hφ => hφ))
    replace hm := ite_f hm (of_decide_eq_false h471)
    refine c_exit <| d_exit_then <| d_exit_then <| d_exit_block ?_
    replace hm := nx_out (C := (fun e : ByteArray => m_ref03_Text_j3 i243 e = some o2)) hm hnx4 hr4
    exact d_round s430 hm Nat.zero_lt_one ⟨rfl, rfl, rfl, trivial⟩ (fun W h => h.phi (fun W hφ => hφ))
   unfold m_ref03_Text_j3 at hm
   refine d_flat [(3, .slice A4 x1.length c5), (5, .string s393), (6, .int .i64 i243)] ⟨rfl, rfl, rfl, trivial⟩ (fun u => ?_)
   refine d_then <| c_region <| g_v rfl r_move ?_
   replace hm := bnd hm
   obtain ⟨s394, hs394, hm⟩ := hm
   refine g_v rfl (r_addT rfl rfl hs394) <| g_v rfl r_assign <| g_nil <| d_normal_block <| d_then <| c_region <| g_v rfl r_move <| g_v rfl (r_add rfl rfl rfl) <| g_v rfl r_assign <| g_nil ?_
   obtain ⟨n395, hn395, hlp⟩ := nx_inl hm hnx2
   exact d_round (n395, s394, w64 (i243 + 1)) hlp hn395 ⟨rfl, rfl, rfl, trivial⟩ (fun W h => h.phi (fun W hφ => hφ))
  replace hm := ite_f hm (of_decide_eq_false h321)
  refine c_exit <| d_exit_then <| d_exit_then <| d_exit_block ?_
  replace hm := nx_out (C := (fun e : ByteArray => m_ref03_Text_j1 e = some r)) hm hnx2 hr2
  exact d_round s242 hm Nat.zero_lt_one ⟨rfl, trivial⟩ (fun W h => (h.dropR (t := 100120) rfl).phi (fun W hφ => hφ))
 unfold m_ref03_Text_j1 at hm
 refine d_flat [(5, .string s165)] ⟨rfl, trivial⟩ (fun u => ?_)
 refine d_sta ⟨w0, M, H, R, φ⟩ (fun _ h => h) <| d_then <| c_seq <| c_region <| g_v rfl r_move <| g_v rfl r_assign <| g_nil <| d_then <| c_ret ?_
 cases hm
 exact d_retC () Tryd.results9 (res_tmp (res_nil rfl)) trivial (fun W h => ok_pre (H1 := []) (R1 := []) h (fun W hφ => hφ)) (.inr rfl)
end Go.Proofs.YtkmkpodioedlfaaDoor
