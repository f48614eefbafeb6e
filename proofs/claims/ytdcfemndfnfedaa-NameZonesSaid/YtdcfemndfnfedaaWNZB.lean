import Derived.Test.YtdcfemndfnfedaaWNZA
set_option maxRecDepth 100000
set_option maxHeartbeats 4000000
set_option linter.unusedVariables false
set_option linter.unusedSimpArgs false
namespace Go.Proofs.Ytdcfemndfnfedaa
open Go.RowKit Go.Proofs.YtdcfemndfnfedaaW.PrintLast
noncomputable def m_law03_NameZones_j4 (x1 : Bool) (x167 : ByteArray) (x175 : ByteArray) (x181 : ByteArray) (l86 : List ByteArray) (l164 : List ByteArray) (l125 : List ByteArray) (b199 : Bool) : Option Bool :=
  if x1 = true then
    if b199 = true then
      (m_name_Under x167 x175).bind fun x202 =>
      if x202 = true then
        (m_name_Under x175 x181).bind fun x205 =>
        if x205 = true then
          (m_name_Under x167 x181).bind fun x208 =>
          if x208 = true then
            (m_name_Under x167 x167).bind fun x211 =>
            if x211 = true then
              (m_name_Under x167 (⟨#[0]⟩ : ByteArray)).bind fun x214 =>
              if x214 = true then
                (m_name_Under x175 x167).bind fun x217 =>
                if (x217 == (decide ((l86.length : Int) = 0))) = true then
                  (m_name_Shared x167 x181).bind fun x220 =>
                  some (decide (x220 = w64 ((l164.length : Int) - (l125.length : Int))))
                else
                  some false
              else
                some false
            else
              some false
          else
            some false
        else
          some false
      else
        some false
    else
      some false
  else
    some false
noncomputable def m_law03_NameZones_j3 (l86 : List ByteArray) (l125 : List ByteArray) (x1 : Bool) (l164 : List ByteArray) : Option Bool :=
  (m_name_Make l164).bind fun (z170 : ByteArray × Int) =>
  (cutLo l164 (l86.length : Int)).bind fun l174 =>
  (m_name_Make l174).bind fun (z178 : ByteArray × Int) =>
  (cutLo l164 (l125.length : Int)).bind fun l180 =>
  (m_name_Make l180).bind fun (z184 : ByteArray × Int) =>
  if z170.2 ≠ 0 then
    some x1
  else
    if z178.2 ≠ 0 then
      some x1
    else
      if z184.2 ≠ 0 then
        some x1
      else
        (m_name_Cut z170.1 (w64 ((l164.length : Int) - (l86.length : Int)))).bind fun x222 =>
        if x222 = z178.1 then
          (m_name_Cut z170.1 (w64 ((l164.length : Int) - (l125.length : Int)))).bind fun x225 =>
          if x225 = z184.1 then
            (m_name_Cut z170.1 (w64 ((l164.length : Int) + 1))).bind fun x228 =>
            if x228 = z170.1 then
              (m_name_Cut z170.1 0).bind fun x231 =>
              m_law03_NameZones_j4 x1 z170.1 z178.1 z184.1 l86 l164 l125 (decide (x231 = (⟨#[0]⟩ : ByteArray)))
            else
              m_law03_NameZones_j4 x1 z170.1 z178.1 z184.1 l86 l164 l125 false
          else
            m_law03_NameZones_j4 x1 z170.1 z178.1 z184.1 l86 l164 l125 false
        else
          m_law03_NameZones_j4 x1 z170.1 z178.1 z184.1 l86 l164 l125 false
noncomputable def m_law03_NameZones_s5 (p2 : List ByteArray) (l248 : List ByteArray) (i251 : Int) : Option (((List ByteArray) × Int) ⊕ (List ByteArray)) :=
  if i251 < (p2.length : Int) then
    if i251 < 4 then
      (at_ p2 i251).bind fun x271 =>
      (m_law03_short x271 20).bind fun x275 =>
      (app 16 l248 [x275]).bind fun l278 =>
      some (.inl (l278, w64 (i251 + 1)))
    else
      some (.inr l248)
  else
    some (.inr l248)
noncomputable def m_law03_NameZones_j2 (p2 : List ByteArray) (l86 : List ByteArray) (x1 : Bool) (l125 : List ByteArray) : Option Bool :=
  (loop (fun s => m_law03_NameZones_s5 p2 s.1 s.2) (l125, 0)).bind fun e => m_law03_NameZones_j3 l86 l125 x1 e
noncomputable def m_law03_NameZones_s6 (p1 : List ByteArray) (l297 : List ByteArray) (i300 : Int) : Option (((List ByteArray) × Int) ⊕ (List ByteArray)) :=
  if i300 < (p1.length : Int) then
    if i300 < 4 then
      (at_ p1 i300).bind fun x320 =>
      (m_law03_short x320 20).bind fun x324 =>
      (app 16 l297 [x324]).bind fun l327 =>
      some (.inl (l327, w64 (i300 + 1)))
    else
      some (.inr l297)
  else
    some (.inr l297)
noncomputable def m_law03_NameZones_j1 (p1 : List ByteArray) (p2 : List ByteArray) (x1 : Bool) (l86 : List ByteArray) : Option Bool :=
  (loop (fun s => m_law03_NameZones_s6 p1 s.1 s.2) (l86, 0)).bind fun e => m_law03_NameZones_j2 p2 l86 x1 e
noncomputable def m_law03_NameZones_s7 (p0 : List ByteArray) (l346 : List ByteArray) (i349 : Int) : Option (((List ByteArray) × Int) ⊕ (List ByteArray)) :=
  if i349 < (p0.length : Int) then
    if i349 < 4 then
      (at_ p0 i349).bind fun x369 =>
      (m_law03_short x369 20).bind fun x373 =>
      (app 16 l346 [x373]).bind fun l376 =>
      some (.inl (l376, w64 (i349 + 1)))
    else
      some (.inr l346)
  else
    some (.inr l346)
noncomputable def m_law03_NameZones (p0 : List ByteArray) (p1 : List ByteArray) (p2 : List ByteArray) : Option Bool :=
  (m_law03_awake).bind fun x1 =>
  (loop (fun s => m_law03_NameZones_s7 p0 s.1 s.2) (([] : List ByteArray), 0)).bind fun e => m_law03_NameZones_j1 p1 p2 x1 e
theorem c_law03_NameZones {w0 : World} {M : Nat → Prop} {H : List (Nat × Nat × Obj)} {R : List (Nat × Row)} {φ : World → Prop} (p0 : List ByteArray) (Ap0_0 : Option Addr) (cp0_0 : Nat) (hcp0_0 : p0.length ≤ cp0_0) (fp0_0 : ∀ W, (Sta.mk w0 M H R φ).ok W → Cl W Ap0_0 (p0.flatMap (fun x : ByteArray => [Value.string x]))) (p1 : List ByteArray) (Ap1_0 : Option Addr) (cp1_0 : Nat) (hcp1_0 : p1.length ≤ cp1_0) (fp1_0 : ∀ W, (Sta.mk w0 M H R φ).ok W → Cl W Ap1_0 (p1.flatMap (fun x : ByteArray => [Value.string x]))) (p2 : List ByteArray) (Ap2_0 : Option Addr) (cp2_0 : Nat) (hcp2_0 : p2.length ≤ cp2_0) (fp2_0 : ∀ W, (Sta.mk w0 M H R φ).ok W → Cl W Ap2_0 (p2.flatMap (fun x : ByteArray => [Value.string x]))) (r : Bool) (hm : m_law03_NameZones p0 p1 p2 = some r) :
    Cn Try.prog 11 #[.slice Ap0_0 p0.length cp0_0, .slice Ap1_0 p1.length cp1_0, .slice Ap2_0 p2.length cp2_0] ⟨w0, M, H, R, φ⟩ (fun x : Unit => .bool r) (fun x => True) (fun x => ⟨w0, M, H, R, φ⟩) := by
 unfold m_law03_NameZones at hm
 refine cn_intro (fn := Try.f11) (N := 187) Try.func11 rfl Try.ntmps11 rfl ?_
 refine c_seq ?_
 refine c_region ?_
 refine g_v rfl r_assign ?_
 refine g_nil ?_
 refine d_then ?_
 refine c_seq ?_
 refine c_region ?_
 replace hm := bnd hm
 obtain ⟨x1, hx2, hm⟩ := hm
 refine g_cn ⟨w0, M, _, _, φ⟩ (fun _ h => h) Try.call37 rfl rfl (c_law03_awake  _ hx2) (fun _ _ => ?_)
 refine g_v rfl r_assign ?_
 refine g_nil ?_
 refine d_then ?_
 refine c_seq ?_
 refine c_region ?_
 refine g_v rfl r_assign ?_
 refine g_nil ?_
 refine d_then ?_
 refine c_seq ?_
 refine c_sta _ (fun W h => nilR h 13 9 1) ?_
 refine c_cut (ι := (List ByteArray) × Option Addr × Nat) [1, 2, 7, 8] (fun ⟨l86, A87, c88⟩ => [(8, .slice A87 l86.length c88)]) (fun ⟨l86, A87, c88⟩ => ⟨w0, M, H, (13, ⟨.slice A87 l86.length c88, 9, 1, l86.length, l86.flatMap (fun x : ByteArray => [Value.string x])⟩) :: R, φ⟩) (fun ⟨l86, A87, c88⟩ => m_law03_NameZones_j1 p1 p2 x1 l86 = some r ∧ l86.length ≤ c88) ?_ (fun ⟨l86, A87, c88⟩ u ⟨hm, hc88⟩ => ?_)
 ·
  refine c_seq ?_
  refine c_region ?_
  refine g_v rfl r_assign ?_
  refine g_nil ?_
  refine d_then ?_
  refine c_block ?_
  replace hm := bnd hm
  obtain ⟨out7, hl7, hr7⟩ := hm
  obtain ⟨n366', hl7⟩ := loop_lp hl7
  refine c_loopU (ι := Nat × (List ByteArray) × Int × Option Addr × Nat) [0, 1, 2, 7, 8, 9] (fun ⟨n366, l346, i349, A347, c348⟩ => [(8, .slice A347 l346.length c348), (9, .int .i64 i349)]) (fun ⟨n366, l346, i349, A347, c348⟩ => ⟨w0, M, H, (13, ⟨.slice A347 l346.length c348, 9, 1, l346.length, l346.flatMap (fun x : ByteArray => [Value.string x])⟩) :: R, φ⟩) (fun ⟨n366, l346, i349, A347, c348⟩ => Lp (fun s => m_law03_NameZones_s7 p0 s.1 s.2) n366 (l346, i349) out7 ∧ l346.length ≤ c348) (fun ⟨n366, l346, i349, A347, c348⟩ => n366) (n366', ([] : List ByteArray), 0, none, 0) ⟨hl7, (Nat.le_refl 0)⟩ ⟨rfl, rfl, rfl, rfl, rfl, rfl, trivial⟩ (fun W h => h.phi (fun W hφ => hφ)) (fun ⟨n366, l346, i349, A347, c348⟩ u ⟨hlp, hc348⟩ => ?_)
  obtain ⟨o7, hm, hnx7⟩ := lp_step hlp
  clear hlp
  replace hm : m_law03_NameZones_s7 p0 l346 i349 = some o7 := hm
  unfold m_law03_NameZones_s7 at hm
  refine c_flat [(0, .slice Ap0_0 p0.length cp0_0), (1, .slice Ap1_0 p1.length cp1_0), (2, .slice Ap2_0 p2.length cp2_0), (7, .bool x1), (8, .slice A347 l346.length c348), (9, .int .i64 i349)] ⟨rfl, rfl, rfl, rfl, rfl, rfl, trivial⟩ (fun u => ?_)
  refine c_sta ⟨w0, M, H, (13, ⟨.slice A347 l346.length c348, 9, 1, l346.length, l346.flatMap (fun x : ByteArray => [Value.string x])⟩) :: R, φ⟩ (fun _ h => h) ?_
  refine c_seq ?_
  refine c_seq ?_
  refine c_region ?_
  refine g_v rfl r_move ?_
  refine g_v rfl r_move ?_
  refine g_v rfl (r_lenL Try.underlying44 rfl) ?_
  refine g_v rfl (r_lss rfl rfl) ?_
  refine g_v rfl r_move ?_
  refine g_if rfl rfl rfl rfl rfl (fun h367 => ?_) (fun h367 => ?_)
  ·
   replace hm := ite_t hm (of_decide_eq_true h367)
   refine g_v rfl r_move ?_
   refine g_do rfl rfl rfl rfl rfl h367 ?_
   refine g_v rfl (r_lss rfl rfl) ?_
   refine g_v rfl (r_pick1 rfl h367) ?_
   refine g_nil ?_
   refine d_then ?_
   refine c_cond rfl (fun h368 => ?_) (fun h368 => ?_)
   ·
    replace hm := ite_t hm (of_decide_eq_true h368)
    refine c_skip ?_
    refine d_then ?_
    refine c_seq ?_
    refine c_block ?_
    refine c_region ?_
    refine g_v rfl r_move ?_
    refine g_v rfl r_move ?_
    refine g_v rfl r_move ?_
    replace hm := bnd hm
    obtain ⟨x369, hx369, hm⟩ := hm
    refine g_know _ (fun W hS => cl_at (p := (Sta.mk w0 M H R φ).ok) (sz := 1) (fun _ => rfl) (by decide) (ok_pre (H1 := []) (R1 := [_]) hS (fun W h => h)) fp0_0 hx369) ?_
    rintro ⟨ad370, hA372, f371⟩
    refine g_v rfl (r_ix Try.underlying44 Try.sizeOf9 rfl hA372 rfl hx369) ?_
    refine g_v rfl (r_ld rfl Try.isAgg9 (fun W hS => Cl.head (f371 W (ok_pre (H1 := []) (R1 := [_]) hS (fun W h => h))))) ?_
    replace hm := bnd hm
    obtain ⟨x373, hx374, hm⟩ := hm
    refine g_cn ⟨w0, M, _, _, φ⟩ (fun _ h => h) Try.call38 rfl rfl (c_law03_short x369 20 _ hx374) (fun _ _ => ?_)
    refine g_e rfl (e_lit (tag := 100390) (l := [x373]) (enc := (fun x : ByteArray => [Value.string x])) (sz := 1) rfl Try.underlying44 (lit9_3 _) rfl rfl (fun _ => rfl)) (fun g375 _ => ?_)
    replace hm := bnd hm
    obtain ⟨l376, hl376, hm⟩ := hm
    refine g_e rfl (e_appR (enc := (fun x : ByteArray => [Value.string x])) (l := l346) (l1 := [x373]) (l2 := l376) (tag := 13) Try.underlying44 inf9_4 rfl (by decide) (by decide) (fun _ => rfl) (fun _ => rfl) rfl hc348 rfl rfl (fun W hS => rowCl (tag := 100390) rfl W hS) hl376) (fun ⟨A377, c378⟩ hc378 => ?_)
    refine g_v rfl r_assign ?_
    refine g_nil ?_
    refine d_normal_block ?_
    refine d_then ?_
    refine c_flat [(0, .slice Ap0_0 p0.length cp0_0), (1, .slice Ap1_0 p1.length cp1_0), (2, .slice Ap2_0 p2.length cp2_0), (7, .bool x1), (8, .slice A377 l376.length c378), (9, .int .i64 i349)] ⟨rfl, rfl, rfl, rfl, rfl, rfl, trivial⟩ (fun u => ?_)
    refine c_sta ⟨w0, M, H, (100390, ⟨.slice (some ⟨g375, 0, none⟩) [x373].length 1, 9, 1, [x373].length, [x373].flatMap (fun x : ByteArray => [Value.string x])⟩) :: (13, ⟨.slice A377 l376.length c378, 9, 1, l376.length, l376.flatMap (fun x : ByteArray => [Value.string x])⟩) :: R, φ⟩ (fun _ h => h) ?_
    refine c_region ?_
    refine g_v rfl r_move ?_
    refine g_v rfl (r_add rfl rfl rfl) ?_
    refine g_v rfl r_assign ?_
    refine g_nil ?_
    obtain ⟨n379, hn379, hlp⟩ := nx_inl hm hnx7
    exact d_round (n379, l376, w64 (i349 + 1), A377, c378) ⟨hlp, hc378⟩ hn379 ⟨rfl, rfl, rfl, rfl, rfl, rfl, trivial⟩ (fun W h => (h.dropR (t := 100390) rfl).phi (fun W hφ => hφ))
   ·
    replace hm := ite_f hm (of_decide_eq_false h368)
    refine c_exit ?_
    refine d_exit_then ?_
    refine d_exit_then ?_
    refine d_exit_block ?_
    replace hm := nx_out (C := (fun e => m_law03_NameZones_j1 p1 p2 x1 e = some r)) hm hnx7 hr7
    exact d_round (l346, A347, c348) ⟨hm, hc348⟩ Nat.zero_lt_one ⟨rfl, rfl, rfl, rfl, trivial⟩ (fun W h => h.phi (fun W hφ => hφ))
  ·
   replace hm := ite_f hm (of_decide_eq_false h367)
   refine g_no rfl rfl rfl rfl rfl h367 ?_
   refine g_v rfl (r_pick0 rfl h367) ?_
   refine g_nil ?_
   refine d_then ?_
   refine c_cond0 rfl rfl ?_
   refine c_exit ?_
   refine d_exit_then ?_
   refine d_exit_then ?_
   refine d_exit_block ?_
   replace hm := nx_out (C := (fun e => m_law03_NameZones_j1 p1 p2 x1 e = some r)) hm hnx7 hr7
   exact d_round (l346, A347, c348) ⟨hm, hc348⟩ Nat.zero_lt_one ⟨rfl, rfl, rfl, rfl, trivial⟩ (fun W h => h.phi (fun W hφ => hφ))
 ·
  unfold m_law03_NameZones_j1 at hm
  refine d_flat [(1, .slice Ap1_0 p1.length cp1_0), (2, .slice Ap2_0 p2.length cp2_0), (7, .bool x1), (8, .slice A87 l86.length c88)] ⟨rfl, rfl, rfl, rfl, trivial⟩ (fun u => ?_)
  refine d_sta ⟨w0, M, H, (13, ⟨.slice A87 l86.length c88, 9, 1, l86.length, l86.flatMap (fun x : ByteArray => [Value.string x])⟩) :: R, φ⟩ (fun _ h => h) ?_
  refine d_then ?_
  refine c_seq ?_
  refine c_region ?_
  refine g_v rfl r_move ?_
  refine g_v rfl (r_lenL Try.underlying44 rfl) ?_
  refine g_v rfl r_assign ?_
  refine g_nil ?_
  refine d_then ?_
  refine c_seq ?_
  refine c_cut (ι := (List ByteArray) × Option Addr × Nat) [2, 7, 8, 10] (fun ⟨l125, A126, c127⟩ => [(8, .slice A126 l125.length c127)]) (fun ⟨l125, A126, c127⟩ => ⟨w0, M, H, (13, ⟨.slice A126 l125.length c127, 9, 1, l125.length, l125.flatMap (fun x : ByteArray => [Value.string x])⟩) :: R, φ⟩) (fun ⟨l125, A126, c127⟩ => m_law03_NameZones_j2 p2 l86 x1 l125 = some r ∧ l125.length ≤ c127) ?_ (fun ⟨l125, A126, c127⟩ u ⟨hm, hc127⟩ => ?_)
  ·
   refine c_seq ?_
   refine c_region ?_
   refine g_v rfl r_assign ?_
   refine g_nil ?_
   refine d_then ?_
   refine c_block ?_
   replace hm := bnd hm
   obtain ⟨out6, hl6, hr6⟩ := hm
   obtain ⟨n317', hl6⟩ := loop_lp hl6
   refine c_loopU (ι := Nat × (List ByteArray) × Int × Option Addr × Nat) [1, 2, 7, 8, 10, 11] (fun ⟨n317, l297, i300, A298, c299⟩ => [(8, .slice A298 l297.length c299), (11, .int .i64 i300)]) (fun ⟨n317, l297, i300, A298, c299⟩ => ⟨w0, M, H, (13, ⟨.slice A298 l297.length c299, 9, 1, l297.length, l297.flatMap (fun x : ByteArray => [Value.string x])⟩) :: R, φ⟩) (fun ⟨n317, l297, i300, A298, c299⟩ => Lp (fun s => m_law03_NameZones_s6 p1 s.1 s.2) n317 (l297, i300) out6 ∧ l297.length ≤ c299) (fun ⟨n317, l297, i300, A298, c299⟩ => n317) (n317', l86, 0, A87, c88) ⟨hl6, hc88⟩ ⟨rfl, rfl, rfl, rfl, rfl, rfl, trivial⟩ (fun W h => h.phi (fun W hφ => hφ)) (fun ⟨n317, l297, i300, A298, c299⟩ u ⟨hlp, hc299⟩ => ?_)
   obtain ⟨o6, hm, hnx6⟩ := lp_step hlp
   clear hlp
   replace hm : m_law03_NameZones_s6 p1 l297 i300 = some o6 := hm
   unfold m_law03_NameZones_s6 at hm
   refine c_flat [(1, .slice Ap1_0 p1.length cp1_0), (2, .slice Ap2_0 p2.length cp2_0), (7, .bool x1), (8, .slice A298 l297.length c299), (10, .int .i64 (l86.length : Int)), (11, .int .i64 i300)] ⟨rfl, rfl, rfl, rfl, rfl, rfl, trivial⟩ (fun u => ?_)
   refine c_sta ⟨w0, M, H, (13, ⟨.slice A298 l297.length c299, 9, 1, l297.length, l297.flatMap (fun x : ByteArray => [Value.string x])⟩) :: R, φ⟩ (fun _ h => h) ?_
   refine c_seq ?_
   refine c_seq ?_
   refine c_region ?_
   refine g_v rfl r_move ?_
   refine g_v rfl r_move ?_
   refine g_v rfl (r_lenL Try.underlying44 rfl) ?_
   refine g_v rfl (r_lss rfl rfl) ?_
   refine g_v rfl r_move ?_
   refine g_if rfl rfl rfl rfl rfl (fun h318 => ?_) (fun h318 => ?_)
   ·
    replace hm := ite_t hm (of_decide_eq_true h318)
    refine g_v rfl r_move ?_
    refine g_do rfl rfl rfl rfl rfl h318 ?_
    refine g_v rfl (r_lss rfl rfl) ?_
    refine g_v rfl (r_pick1 rfl h318) ?_
    refine g_nil ?_
    refine d_then ?_
    refine c_cond rfl (fun h319 => ?_) (fun h319 => ?_)
    ·
     replace hm := ite_t hm (of_decide_eq_true h319)
     refine c_skip ?_
     refine d_then ?_
     refine c_seq ?_
     refine c_block ?_
     refine c_region ?_
     refine g_v rfl r_move ?_
     refine g_v rfl r_move ?_
     refine g_v rfl r_move ?_
     replace hm := bnd hm
     obtain ⟨x320, hx320, hm⟩ := hm
     refine g_know _ (fun W hS => cl_at (p := (Sta.mk w0 M H R φ).ok) (sz := 1) (fun _ => rfl) (by decide) (ok_pre (H1 := []) (R1 := [_]) hS (fun W h => h)) fp1_0 hx320) ?_
     rintro ⟨ad321, hA323, f322⟩
     refine g_v rfl (r_ix Try.underlying44 Try.sizeOf9 rfl hA323 rfl hx320) ?_
     refine g_v rfl (r_ld rfl Try.isAgg9 (fun W hS => Cl.head (f322 W (ok_pre (H1 := []) (R1 := [_]) hS (fun W h => h))))) ?_
     replace hm := bnd hm
     obtain ⟨x324, hx325, hm⟩ := hm
     refine g_cn ⟨w0, M, _, _, φ⟩ (fun _ h => h) Try.call38 rfl rfl (c_law03_short x320 20 _ hx325) (fun _ _ => ?_)
     refine g_e rfl (e_lit (tag := 100590) (l := [x324]) (enc := (fun x : ByteArray => [Value.string x])) (sz := 1) rfl Try.underlying44 (lit9_3 _) rfl rfl (fun _ => rfl)) (fun g326 _ => ?_)
     replace hm := bnd hm
     obtain ⟨l327, hl327, hm⟩ := hm
     refine g_e rfl (e_appR (enc := (fun x : ByteArray => [Value.string x])) (l := l297) (l1 := [x324]) (l2 := l327) (tag := 13) Try.underlying44 inf9_4 rfl (by decide) (by decide) (fun _ => rfl) (fun _ => rfl) rfl hc299 rfl rfl (fun W hS => rowCl (tag := 100590) rfl W hS) hl327) (fun ⟨A328, c329⟩ hc329 => ?_)
     refine g_v rfl r_assign ?_
     refine g_nil ?_
     refine d_normal_block ?_
     refine d_then ?_
     refine c_flat [(1, .slice Ap1_0 p1.length cp1_0), (2, .slice Ap2_0 p2.length cp2_0), (7, .bool x1), (8, .slice A328 l327.length c329), (10, .int .i64 (l86.length : Int)), (11, .int .i64 i300)] ⟨rfl, rfl, rfl, rfl, rfl, rfl, trivial⟩ (fun u => ?_)
     refine c_sta ⟨w0, M, H, (100590, ⟨.slice (some ⟨g326, 0, none⟩) [x324].length 1, 9, 1, [x324].length, [x324].flatMap (fun x : ByteArray => [Value.string x])⟩) :: (13, ⟨.slice A328 l327.length c329, 9, 1, l327.length, l327.flatMap (fun x : ByteArray => [Value.string x])⟩) :: R, φ⟩ (fun _ h => h) ?_
     refine c_region ?_
     refine g_v rfl r_move ?_
     refine g_v rfl (r_add rfl rfl rfl) ?_
     refine g_v rfl r_assign ?_
     refine g_nil ?_
     obtain ⟨n330, hn330, hlp⟩ := nx_inl hm hnx6
     exact d_round (n330, l327, w64 (i300 + 1), A328, c329) ⟨hlp, hc329⟩ hn330 ⟨rfl, rfl, rfl, rfl, rfl, rfl, trivial⟩ (fun W h => (h.dropR (t := 100590) rfl).phi (fun W hφ => hφ))
    ·
     replace hm := ite_f hm (of_decide_eq_false h319)
     refine c_exit ?_
     refine d_exit_then ?_
     refine d_exit_then ?_
     refine d_exit_block ?_
     replace hm := nx_out (C := (fun e => m_law03_NameZones_j2 p2 l86 x1 e = some r)) hm hnx6 hr6
     exact d_round (l297, A298, c299) ⟨hm, hc299⟩ Nat.zero_lt_one ⟨rfl, rfl, rfl, rfl, trivial⟩ (fun W h => h.phi (fun W hφ => hφ))
   ·
    replace hm := ite_f hm (of_decide_eq_false h318)
    refine g_no rfl rfl rfl rfl rfl h318 ?_
    refine g_v rfl (r_pick0 rfl h318) ?_
    refine g_nil ?_
    refine d_then ?_
    refine c_cond0 rfl rfl ?_
    refine c_exit ?_
    refine d_exit_then ?_
    refine d_exit_then ?_
    refine d_exit_block ?_
    replace hm := nx_out (C := (fun e => m_law03_NameZones_j2 p2 l86 x1 e = some r)) hm hnx6 hr6
    exact d_round (l297, A298, c299) ⟨hm, hc299⟩ Nat.zero_lt_one ⟨rfl, rfl, rfl, rfl, trivial⟩ (fun W h => h.phi (fun W hφ => hφ))
  ·
   unfold m_law03_NameZones_j2 at hm
   refine d_flat [(2, .slice Ap2_0 p2.length cp2_0), (7, .bool x1), (8, .slice A126 l125.length c127), (10, .int .i64 (l86.length : Int))] ⟨rfl, rfl, rfl, rfl, trivial⟩ (fun u => ?_)
   refine d_sta ⟨w0, M, H, (13, ⟨.slice A126 l125.length c127, 9, 1, l125.length, l125.flatMap (fun x : ByteArray => [Value.string x])⟩) :: R, φ⟩ (fun _ h => h) ?_
   refine d_then ?_
   refine c_seq ?_
   refine c_region ?_
   refine g_v rfl r_move ?_
   refine g_v rfl (r_lenL Try.underlying44 rfl) ?_
   refine g_v rfl r_assign ?_
   refine g_nil ?_
   refine d_then ?_
   refine c_seq ?_
   refine c_cut (ι := (List ByteArray) × Option Addr × Nat) [7, 8, 10, 12] (fun ⟨l164, A165, c166⟩ => [(8, .slice A165 l164.length c166)]) (fun ⟨l164, A165, c166⟩ => ⟨w0, M, H, (13, ⟨.slice A165 l164.length c166, 9, 1, l164.length, l164.flatMap (fun x : ByteArray => [Value.string x])⟩) :: R, φ⟩) (fun ⟨l164, A165, c166⟩ => m_law03_NameZones_j3 l86 l125 x1 l164 = some r ∧ l164.length ≤ c166) ?_ (fun ⟨l164, A165, c166⟩ u ⟨hm, hc166⟩ => ?_)
   ·
    refine c_seq ?_
    refine c_region ?_
    refine g_v rfl r_assign ?_
    refine g_nil ?_
    refine d_then ?_
    refine c_block ?_
    replace hm := bnd hm
    obtain ⟨out5, hl5, hr5⟩ := hm
    obtain ⟨n268', hl5⟩ := loop_lp hl5
    refine c_loopU (ι := Nat × (List ByteArray) × Int × Option Addr × Nat) [2, 7, 8, 10, 12, 13] (fun ⟨n268, l248, i251, A249, c250⟩ => [(8, .slice A249 l248.length c250), (13, .int .i64 i251)]) (fun ⟨n268, l248, i251, A249, c250⟩ => ⟨w0, M, H, (13, ⟨.slice A249 l248.length c250, 9, 1, l248.length, l248.flatMap (fun x : ByteArray => [Value.string x])⟩) :: R, φ⟩) (fun ⟨n268, l248, i251, A249, c250⟩ => Lp (fun s => m_law03_NameZones_s5 p2 s.1 s.2) n268 (l248, i251) out5 ∧ l248.length ≤ c250) (fun ⟨n268, l248, i251, A249, c250⟩ => n268) (n268', l125, 0, A126, c127) ⟨hl5, hc127⟩ ⟨rfl, rfl, rfl, rfl, rfl, rfl, trivial⟩ (fun W h => h.phi (fun W hφ => hφ)) (fun ⟨n268, l248, i251, A249, c250⟩ u ⟨hlp, hc250⟩ => ?_)
    obtain ⟨o5, hm, hnx5⟩ := lp_step hlp
    clear hlp
    replace hm : m_law03_NameZones_s5 p2 l248 i251 = some o5 := hm
    unfold m_law03_NameZones_s5 at hm
    refine c_flat [(2, .slice Ap2_0 p2.length cp2_0), (7, .bool x1), (8, .slice A249 l248.length c250), (10, .int .i64 (l86.length : Int)), (12, .int .i64 (l125.length : Int)), (13, .int .i64 i251)] ⟨rfl, rfl, rfl, rfl, rfl, rfl, trivial⟩ (fun u => ?_)
    refine c_sta ⟨w0, M, H, (13, ⟨.slice A249 l248.length c250, 9, 1, l248.length, l248.flatMap (fun x : ByteArray => [Value.string x])⟩) :: R, φ⟩ (fun _ h => h) ?_
    refine c_seq ?_
    refine c_seq ?_
    refine c_region ?_
    refine g_v rfl r_move ?_
    refine g_v rfl r_move ?_
    refine g_v rfl (r_lenL Try.underlying44 rfl) ?_
    refine g_v rfl (r_lss rfl rfl) ?_
    refine g_v rfl r_move ?_
    refine g_if rfl rfl rfl rfl rfl (fun h269 => ?_) (fun h269 => ?_)
    ·
     replace hm := ite_t hm (of_decide_eq_true h269)
     refine g_v rfl r_move ?_
     refine g_do rfl rfl rfl rfl rfl h269 ?_
     refine g_v rfl (r_lss rfl rfl) ?_
     refine g_v rfl (r_pick1 rfl h269) ?_
     refine g_nil ?_
     refine d_then ?_
     refine c_cond rfl (fun h270 => ?_) (fun h270 => ?_)
     ·
      replace hm := ite_t hm (of_decide_eq_true h270)
      refine c_skip ?_
      refine d_then ?_
      refine c_seq ?_
      refine c_block ?_
      refine c_region ?_
      refine g_v rfl r_move ?_
      refine g_v rfl r_move ?_
      refine g_v rfl r_move ?_
      replace hm := bnd hm
      obtain ⟨x271, hx271, hm⟩ := hm
      refine g_know _ (fun W hS => cl_at (p := (Sta.mk w0 M H R φ).ok) (sz := 1) (fun _ => rfl) (by decide) (ok_pre (H1 := []) (R1 := [_]) hS (fun W h => h)) fp2_0 hx271) ?_
      rintro ⟨ad272, hA274, f273⟩
      refine g_v rfl (r_ix Try.underlying44 Try.sizeOf9 rfl hA274 rfl hx271) ?_
      refine g_v rfl (r_ld rfl Try.isAgg9 (fun W hS => Cl.head (f273 W (ok_pre (H1 := []) (R1 := [_]) hS (fun W h => h))))) ?_
      replace hm := bnd hm
      obtain ⟨x275, hx276, hm⟩ := hm
      refine g_cn ⟨w0, M, _, _, φ⟩ (fun _ h => h) Try.call38 rfl rfl (c_law03_short x271 20 _ hx276) (fun _ _ => ?_)
      refine g_e rfl (e_lit (tag := 100790) (l := [x275]) (enc := (fun x : ByteArray => [Value.string x])) (sz := 1) rfl Try.underlying44 (lit9_3 _) rfl rfl (fun _ => rfl)) (fun g277 _ => ?_)
      replace hm := bnd hm
      obtain ⟨l278, hl278, hm⟩ := hm
      refine g_e rfl (e_appR (enc := (fun x : ByteArray => [Value.string x])) (l := l248) (l1 := [x275]) (l2 := l278) (tag := 13) Try.underlying44 inf9_4 rfl (by decide) (by decide) (fun _ => rfl) (fun _ => rfl) rfl hc250 rfl rfl (fun W hS => rowCl (tag := 100790) rfl W hS) hl278) (fun ⟨A279, c280⟩ hc280 => ?_)
      refine g_v rfl r_assign ?_
      refine g_nil ?_
      refine d_normal_block ?_
      refine d_then ?_
      refine c_flat [(2, .slice Ap2_0 p2.length cp2_0), (7, .bool x1), (8, .slice A279 l278.length c280), (10, .int .i64 (l86.length : Int)), (12, .int .i64 (l125.length : Int)), (13, .int .i64 i251)] ⟨rfl, rfl, rfl, rfl, rfl, rfl, trivial⟩ (fun u => ?_)
      refine c_sta ⟨w0, M, H, (100790, ⟨.slice (some ⟨g277, 0, none⟩) [x275].length 1, 9, 1, [x275].length, [x275].flatMap (fun x : ByteArray => [Value.string x])⟩) :: (13, ⟨.slice A279 l278.length c280, 9, 1, l278.length, l278.flatMap (fun x : ByteArray => [Value.string x])⟩) :: R, φ⟩ (fun _ h => h) ?_
      refine c_region ?_
      refine g_v rfl r_move ?_
      refine g_v rfl (r_add rfl rfl rfl) ?_
      refine g_v rfl r_assign ?_
      refine g_nil ?_
      obtain ⟨n281, hn281, hlp⟩ := nx_inl hm hnx5
      exact d_round (n281, l278, w64 (i251 + 1), A279, c280) ⟨hlp, hc280⟩ hn281 ⟨rfl, rfl, rfl, rfl, rfl, rfl, trivial⟩ (fun W h => (h.dropR (t := 100790) rfl).phi (fun W hφ => hφ))
     ·
      replace hm := ite_f hm (of_decide_eq_false h270)
      refine c_exit ?_
      refine d_exit_then ?_
      refine d_exit_then ?_
      refine d_exit_block ?_
      replace hm := nx_out (C := (fun e => m_law03_NameZones_j3 l86 l125 x1 e = some r)) hm hnx5 hr5
      exact d_round (l248, A249, c250) ⟨hm, hc250⟩ Nat.zero_lt_one ⟨rfl, rfl, rfl, rfl, trivial⟩ (fun W h => h.phi (fun W hφ => hφ))
    ·
     replace hm := ite_f hm (of_decide_eq_false h269)
     refine g_no rfl rfl rfl rfl rfl h269 ?_
     refine g_v rfl (r_pick0 rfl h269) ?_
     refine g_nil ?_
     refine d_then ?_
     refine c_cond0 rfl rfl ?_
     refine c_exit ?_
     refine d_exit_then ?_
     refine d_exit_then ?_
     refine d_exit_block ?_
     replace hm := nx_out (C := (fun e => m_law03_NameZones_j3 l86 l125 x1 e = some r)) hm hnx5 hr5
     exact d_round (l248, A249, c250) ⟨hm, hc250⟩ Nat.zero_lt_one ⟨rfl, rfl, rfl, rfl, trivial⟩ (fun W h => h.phi (fun W hφ => hφ))
   ·
    unfold m_law03_NameZones_j3 at hm
    refine d_flat [(7, .bool x1), (8, .slice A165 l164.length c166), (10, .int .i64 (l86.length : Int)), (12, .int .i64 (l125.length : Int))] ⟨rfl, rfl, rfl, rfl, trivial⟩ (fun u => ?_)
    refine d_sta ⟨w0, M, H, (13, ⟨.slice A165 l164.length c166, 9, 1, l164.length, l164.flatMap (fun x : ByteArray => [Value.string x])⟩) :: R, φ⟩ (fun _ h => h) ?_
    refine d_then ?_
    refine c_seq ?_
    refine c_region ?_
    refine g_v rfl r_move ?_
    replace hm := bnd hm
    obtain ⟨⟨x167, x168⟩, hx169, hm⟩ := hm
    refine g_cn ⟨w0, M, _, _, φ⟩ (fun _ h => h) Try.call40 rfl rfl (c_name_Make l164 A165 c166 hc166 (fun W hS => rowCl (tag := 13) rfl W hS) _ hx169) (fun _ _ => ?_)
    refine g_v rfl r_move ?_
    refine g_v rfl (r_extract rfl rfl) ?_
    refine g_v rfl (r_extract rfl rfl) ?_
    refine g_v rfl r_assign ?_
    refine g_v rfl r_assign ?_
    refine g_nil ?_
    refine d_then ?_
    refine c_seq ?_
    refine c_region ?_
    refine g_v rfl r_move ?_
    refine g_v rfl r_move ?_
    refine g_shut (tag := 13) rfl (fun φ171 q171' => ?_)
    have q171 : ∀ W, φ171 W → φ W := fun W h => (q171' W h).1
    have f172 := fun (W : World) (h : φ171 W) => (q171' W h).2
    replace hm := bnd hm
    obtain ⟨l174, hl174, hm⟩ := hm
    have f173 := fun (W : World) (h : φ171 W) => cl_cutLo (enc := (fun x : ByteArray => [Value.string x])) (sz := 1) (c := c166) (fun _ => rfl) hc166 hl174 (f172 W h)
    refine g_v rfl (r_lcutLo Try.underlying44 Try.sizeOf9 rfl hc166 rfl hl174) ?_
    replace hm := bnd hm
    obtain ⟨⟨x175, x176⟩, hx177, hm⟩ := hm
    refine g_cn ⟨w0, M, _, _, φ171⟩ (fun _ h => h) Try.call40 rfl rfl (c_name_Make l174 (if c166 = ((l86.length : Int)).toNat then A165 else A165.map (·.add (((l86.length : Int)).toNat * 1))) (c166 - ((l86.length : Int)).toNat) (cutLo_len hc166 hl174) (fun W hS => f173 W hS.now) _ hx177) (fun _ _ => ?_)
    refine g_v rfl r_move ?_
    refine g_v rfl (r_extract rfl rfl) ?_
    refine g_v rfl (r_extract rfl rfl) ?_
    refine g_v rfl r_assign ?_
    refine g_v rfl r_assign ?_
    refine g_nil ?_
    refine d_then ?_
    refine c_flat [(7, .bool x1), (8, .slice A165 l164.length c166), (10, .int .i64 (l86.length : Int)), (12, .int .i64 (l125.length : Int)), (14, .string x167), (15, .int .i64 x168), (16, .string x175), (17, .int .i64 x176)] ⟨rfl, rfl, rfl, rfl, rfl, rfl, rfl, rfl, trivial⟩ (fun u => ?_)
    refine c_sta ⟨w0, M, H, R, φ171⟩ (fun _ h => h) ?_
    refine c_seq ?_
    refine c_region ?_
    refine g_v rfl r_move ?_
    refine g_v rfl r_move ?_
    replace hm := bnd hm
    obtain ⟨l180, hl180, hm⟩ := hm
    have f179 := fun (W : World) (h : φ171 W) => cl_cutLo (enc := (fun x : ByteArray => [Value.string x])) (sz := 1) (c := c166) (fun _ => rfl) hc166 hl180 (f172 W h)
    refine g_v rfl (r_lcutLo Try.underlying44 Try.sizeOf9 rfl hc166 rfl hl180) ?_
    replace hm := bnd hm
    obtain ⟨⟨x181, x182⟩, hx183, hm⟩ := hm
    refine g_cn ⟨w0, M, _, _, φ171⟩ (fun _ h => h) Try.call40 rfl rfl (c_name_Make l180 (if c166 = ((l125.length : Int)).toNat then A165 else A165.map (·.add (((l125.length : Int)).toNat * 1))) (c166 - ((l125.length : Int)).toNat) (cutLo_len hc166 hl180) (fun W hS => f179 W hS.now) _ hx183) (fun _ _ => ?_)
    refine g_v rfl r_move ?_
    refine g_v rfl (r_extract rfl rfl) ?_
    refine g_v rfl (r_extract rfl rfl) ?_
    refine g_v rfl r_assign ?_
    refine g_v rfl r_assign ?_
    refine g_nil ?_
    refine d_then ?_
    refine c_flat [(7, .bool x1), (8, .slice A165 l164.length c166), (10, .int .i64 (l86.length : Int)), (12, .int .i64 (l125.length : Int)), (14, .string x167), (15, .int .i64 x168), (16, .string x175), (17, .int .i64 x176), (18, .string x181), (19, .int .i64 x182)] ⟨rfl, rfl, rfl, rfl, rfl, rfl, rfl, rfl, rfl, rfl, trivial⟩ (fun u => ?_)
    refine c_sta ⟨w0, M, H, R, φ171⟩ (fun _ h => h) ?_
    refine c_seq ?_
    refine c_seq ?_
    refine c_region ?_
    refine g_v rfl r_move ?_
    refine g_v rfl (r_neq rfl rfl) ?_
    refine g_v rfl r_move ?_
    refine g_if rfl rfl rfl rfl rfl (fun h185 => ?_) (fun h185 => ?_)
    ·
     replace hm := ite_f hm (of_decide_eq_false h185)
     refine g_v rfl r_move ?_
     refine g_do rfl rfl rfl rfl rfl h185 ?_
     refine g_v rfl (r_neq rfl rfl) ?_
     refine g_v rfl (r_pick0 rfl h185) ?_
     refine g_v rfl r_move ?_
     refine g_if rfl rfl rfl rfl rfl (fun h186 => ?_) (fun h186 => ?_)
     ·
      replace hm := ite_f hm (of_decide_eq_false h186)
      refine g_v rfl r_move ?_
      refine g_do rfl rfl rfl rfl rfl h186 ?_
      refine g_v rfl (r_neq rfl rfl) ?_
      refine g_v rfl (r_pick0 rfl h186) ?_
      refine g_nil ?_
      refine d_then ?_
      refine c_flat [(7, .bool x1), (8, .slice A165 l164.length c166), (10, .int .i64 (l86.length : Int)), (12, .int .i64 (l125.length : Int)), (14, .string x167), (16, .string x175), (18, .string x181), (109, .bool (decide (x182 ≠ 0)))] ⟨rfl, rfl, rfl, rfl, rfl, rfl, rfl, rfl, trivial⟩ (fun u => ?_)
      refine c_sta ⟨w0, M, H, R, φ171⟩ (fun _ h => h) ?_
      refine c_cond rfl (fun h187 => ?_) (fun h187 => ?_)
      ·
       replace hm := ite_t hm (of_decide_eq_true h187)
       refine c_seq ?_
       refine c_region ?_
       refine g_v rfl r_move ?_
       refine g_v rfl r_assign ?_
       refine g_nil ?_
       refine d_then ?_
       refine c_ret ?_
       refine d_ret_then ?_
       replace hm := Option.some.inj hm
       subst hm
       refine d_retC () Try.results11 ?_ trivial (fun W h => ok_pre (H1 := []) (R1 := []) h (fun W hφ => (q171 _ hφ))) (.inr rfl)
       refine res_tmp ?_
       refine res_nil ?_
       exact rfl
      ·
       replace hm := ite_f hm (of_decide_eq_false h187)
       refine c_skip ?_
       refine d_then ?_
       refine c_seq ?_
       refine c_region ?_
       refine g_v rfl r_move ?_
       refine g_v rfl (r_lenL Try.underlying44 rfl) ?_
       refine g_v rfl r_assign ?_
       refine g_nil ?_
       refine d_then ?_
       refine c_seq ?_
       refine c_cut (ι := Bool) [7, 10, 12, 14, 16, 18, 20, 21] (fun b199 => [(21, .bool b199)]) (fun b199 => ⟨w0, M, H, R, φ171⟩) (fun b199 => m_law03_NameZones_j4 x1 x167 x175 x181 l86 l164 l125 b199 = some r) ?_ (fun b199 u hm => ?_)
       ·
        refine c_region ?_
        refine g_v rfl r_move ?_
        refine g_v rfl r_move ?_
        refine g_v rfl r_move ?_
        refine g_v rfl (r_sub rfl rfl rfl) ?_
        replace hm := bnd hm
        obtain ⟨x222, hx223, hm⟩ := hm
        refine g_cn ⟨w0, M, _, _, φ171⟩ (fun _ h => h) Try.call50 rfl rfl (c_name_Cut x167 (w64 ((l164.length : Int) - (l86.length : Int))) _ hx223) (fun _ _ => ?_)
        refine g_v rfl r_move ?_
        refine g_v rfl (r_eqlT rfl rfl) ?_
        refine g_v rfl r_move ?_
        refine g_if rfl rfl rfl rfl rfl (fun h224 => ?_) (fun h224 => ?_)
        ·
         replace hm := ite_t hm (of_decide_eq_true h224)
         refine g_v rfl r_move ?_
         refine g_do rfl rfl rfl rfl rfl h224 ?_
         refine g_v rfl r_move ?_
         refine g_do rfl rfl rfl rfl rfl h224 ?_
         refine g_v rfl r_move ?_
         refine g_do rfl rfl rfl rfl rfl h224 ?_
         refine g_v rfl (r_sub rfl rfl rfl) ?_
         refine g_do rfl rfl rfl rfl rfl h224 ?_
         replace hm := bnd hm
         obtain ⟨x225, hx226, hm⟩ := hm
         refine g_cn ⟨w0, M, _, _, φ171⟩ (fun _ h => h) Try.call50 rfl rfl (c_name_Cut x167 (w64 ((l164.length : Int) - (l125.length : Int))) _ hx226) (fun _ _ => ?_)
         refine g_do rfl rfl rfl rfl rfl h224 ?_
         refine g_v rfl r_move ?_
         refine g_do rfl rfl rfl rfl rfl h224 ?_
         refine g_v rfl (r_eqlT rfl rfl) ?_
         refine g_v rfl (r_pick1 rfl h224) ?_
         refine g_v rfl r_move ?_
         refine g_if rfl rfl rfl rfl rfl (fun h227 => ?_) (fun h227 => ?_)
         ·
          replace hm := ite_t hm (of_decide_eq_true h227)
          refine g_v rfl r_move ?_
          refine g_do rfl rfl rfl rfl rfl h227 ?_
          refine g_v rfl r_move ?_
          refine g_do rfl rfl rfl rfl rfl h227 ?_
          refine g_v rfl (r_add rfl rfl rfl) ?_
          refine g_do rfl rfl rfl rfl rfl h227 ?_
          replace hm := bnd hm
          obtain ⟨x228, hx229, hm⟩ := hm
          refine g_cn ⟨w0, M, _, _, φ171⟩ (fun _ h => h) Try.call50 rfl rfl (c_name_Cut x167 (w64 ((l164.length : Int) + 1)) _ hx229) (fun _ _ => ?_)
          refine g_do rfl rfl rfl rfl rfl h227 ?_
          refine g_v rfl r_move ?_
          refine g_do rfl rfl rfl rfl rfl h227 ?_
          refine g_v rfl (r_eqlT rfl rfl) ?_
          refine g_v rfl (r_pick1 rfl h227) ?_
          refine g_v rfl r_move ?_
          refine g_if rfl rfl rfl rfl rfl (fun h230 => ?_) (fun h230 => ?_)
          ·
           replace hm := ite_t hm (of_decide_eq_true h230)
           refine g_v rfl r_move ?_
           refine g_do rfl rfl rfl rfl rfl h230 ?_
           replace hm := bnd hm
           obtain ⟨x231, hx232, hm⟩ := hm
           refine g_cn ⟨w0, M, _, _, φ171⟩ (fun _ h => h) Try.call50 rfl rfl (c_name_Cut x167 0 _ hx232) (fun _ _ => ?_)
           refine g_do rfl rfl rfl rfl rfl h230 ?_
           refine g_v rfl (r_eqlT rfl rfl) ?_
           refine g_v rfl (r_pick1 rfl h230) ?_
           refine g_v rfl r_assign ?_
           refine g_nil ?_
           exact d_round (decide (x231 = (⟨#[0]⟩ : ByteArray))) hm Nat.zero_lt_one ⟨rfl, rfl, rfl, rfl, rfl, rfl, rfl, rfl, trivial⟩ (fun W h => h.phi (fun W hφ => hφ))
          ·
           replace hm := ite_f hm (of_decide_eq_false h230)
           refine g_no rfl rfl rfl rfl rfl h230 ?_
           refine g_no rfl rfl rfl rfl rfl h230 ?_
           refine g_v rfl (r_pick0 rfl h230) ?_
           refine g_v rfl r_assign ?_
           refine g_nil ?_
           exact d_round false hm Nat.zero_lt_one ⟨rfl, rfl, rfl, rfl, rfl, rfl, rfl, rfl, trivial⟩ (fun W h => h.phi (fun W hφ => hφ))
         ·
          replace hm := ite_f hm (of_decide_eq_false h227)
          refine g_no rfl rfl rfl rfl rfl h227 ?_
          refine g_no rfl rfl rfl rfl rfl h227 ?_
          refine g_no rfl rfl rfl rfl rfl h227 ?_
          refine g_no rfl rfl rfl rfl rfl h227 ?_
          refine g_no rfl rfl rfl rfl rfl h227 ?_
          refine g_v rfl (r_pick0 rfl h227) ?_
          refine g_v rfl r_move ?_
          refine g_no rfl rfl rfl rfl rfl rfl ?_
          refine g_no rfl rfl rfl rfl rfl rfl ?_
          refine g_no rfl rfl rfl rfl rfl rfl ?_
          refine g_v rfl (r_pick0 rfl rfl) ?_
          refine g_v rfl r_assign ?_
          refine g_nil ?_
          exact d_round false hm Nat.zero_lt_one ⟨rfl, rfl, rfl, rfl, rfl, rfl, rfl, rfl, trivial⟩ (fun W h => h.phi (fun W hφ => hφ))
        ·
         replace hm := ite_f hm (of_decide_eq_false h224)
         refine g_no rfl rfl rfl rfl rfl h224 ?_
         refine g_no rfl rfl rfl rfl rfl h224 ?_
         refine g_no rfl rfl rfl rfl rfl h224 ?_
         refine g_no rfl rfl rfl rfl rfl h224 ?_
         refine g_no rfl rfl rfl rfl rfl h224 ?_
         refine g_no rfl rfl rfl rfl rfl h224 ?_
         refine g_v rfl (r_pick0 rfl h224) ?_
         refine g_v rfl r_move ?_
         refine g_no rfl rfl rfl rfl rfl rfl ?_
         refine g_no rfl rfl rfl rfl rfl rfl ?_
         refine g_no rfl rfl rfl rfl rfl rfl ?_
         refine g_no rfl rfl rfl rfl rfl rfl ?_
         refine g_no rfl rfl rfl rfl rfl rfl ?_
         refine g_no rfl rfl rfl rfl rfl rfl ?_
         refine g_v rfl (r_pick0 rfl rfl) ?_
         refine g_v rfl r_move ?_
         refine g_no rfl rfl rfl rfl rfl rfl ?_
         refine g_no rfl rfl rfl rfl rfl rfl ?_
         refine g_no rfl rfl rfl rfl rfl rfl ?_
         refine g_v rfl (r_pick0 rfl rfl) ?_
         refine g_v rfl r_assign ?_
         refine g_nil ?_
         exact d_round false hm Nat.zero_lt_one ⟨rfl, rfl, rfl, rfl, rfl, rfl, rfl, rfl, trivial⟩ (fun W h => h.phi (fun W hφ => hφ))
       ·
        unfold m_law03_NameZones_j4 at hm
        refine d_flat [(7, .bool x1), (10, .int .i64 (l86.length : Int)), (12, .int .i64 (l125.length : Int)), (14, .string x167), (16, .string x175), (18, .string x181), (20, .int .i64 (l164.length : Int)), (21, .bool b199)] ⟨rfl, rfl, rfl, rfl, rfl, rfl, rfl, rfl, trivial⟩ (fun u => ?_)
        refine d_sta ⟨w0, M, H, R, φ171⟩ (fun _ h => h) ?_
        refine d_then ?_
        refine c_seq ?_
        refine c_region ?_
        refine g_v rfl r_move ?_
        refine g_v rfl r_move ?_
        refine g_if rfl rfl rfl rfl rfl (fun h200 => ?_) (fun h200 => ?_)
        ·
         replace hm := ite_t hm h200
         refine g_v rfl r_move ?_
         refine g_v rfl (r_pick1 rfl h200) ?_
         refine g_v rfl r_move ?_
         refine g_if rfl rfl rfl rfl rfl (fun h201 => ?_) (fun h201 => ?_)
         ·
          replace hm := ite_t hm h201
          refine g_v rfl r_move ?_
          refine g_do rfl rfl rfl rfl rfl h201 ?_
          refine g_v rfl r_move ?_
          refine g_do rfl rfl rfl rfl rfl h201 ?_
          replace hm := bnd hm
          obtain ⟨x202, hx203, hm⟩ := hm
          refine g_cn ⟨w0, M, _, _, φ171⟩ (fun _ h => h) Try.call51 rfl rfl (c_name_Under x167 x175 _ hx203) (fun _ _ => ?_)
          refine g_v rfl (r_pick1 rfl h201) ?_
          refine g_v rfl r_move ?_
          refine g_if rfl rfl rfl rfl rfl (fun h204 => ?_) (fun h204 => ?_)
          ·
           replace hm := ite_t hm h204
           refine g_v rfl r_move ?_
           refine g_do rfl rfl rfl rfl rfl h204 ?_
           refine g_v rfl r_move ?_
           refine g_do rfl rfl rfl rfl rfl h204 ?_
           replace hm := bnd hm
           obtain ⟨x205, hx206, hm⟩ := hm
           refine g_cn ⟨w0, M, _, _, φ171⟩ (fun _ h => h) Try.call51 rfl rfl (c_name_Under x175 x181 _ hx206) (fun _ _ => ?_)
           refine g_v rfl (r_pick1 rfl h204) ?_
           refine g_v rfl r_move ?_
           refine g_if rfl rfl rfl rfl rfl (fun h207 => ?_) (fun h207 => ?_)
           ·
            replace hm := ite_t hm h207
            refine g_v rfl r_move ?_
            refine g_do rfl rfl rfl rfl rfl h207 ?_
            refine g_v rfl r_move ?_
            refine g_do rfl rfl rfl rfl rfl h207 ?_
            replace hm := bnd hm
            obtain ⟨x208, hx209, hm⟩ := hm
            refine g_cn ⟨w0, M, _, _, φ171⟩ (fun _ h => h) Try.call51 rfl rfl (c_name_Under x167 x181 _ hx209) (fun _ _ => ?_)
            refine g_v rfl (r_pick1 rfl h207) ?_
            refine g_v rfl r_move ?_
            refine g_if rfl rfl rfl rfl rfl (fun h210 => ?_) (fun h210 => ?_)
            ·
             replace hm := ite_t hm h210
             refine g_v rfl r_move ?_
             refine g_do rfl rfl rfl rfl rfl h210 ?_
             refine g_v rfl r_move ?_
             refine g_do rfl rfl rfl rfl rfl h210 ?_
             replace hm := bnd hm
             obtain ⟨x211, hx212, hm⟩ := hm
             refine g_cn ⟨w0, M, _, _, φ171⟩ (fun _ h => h) Try.call51 rfl rfl (c_name_Under x167 x167 _ hx212) (fun _ _ => ?_)
             refine g_v rfl (r_pick1 rfl h210) ?_
             refine g_v rfl r_move ?_
             refine g_if rfl rfl rfl rfl rfl (fun h213 => ?_) (fun h213 => ?_)
             ·
              replace hm := ite_t hm h213
              refine g_v rfl r_move ?_
              refine g_do rfl rfl rfl rfl rfl h213 ?_
              replace hm := bnd hm
              obtain ⟨x214, hx215, hm⟩ := hm
              refine g_cn ⟨w0, M, _, _, φ171⟩ (fun _ h => h) Try.call51 rfl rfl (c_name_Under x167 (⟨#[0]⟩ : ByteArray) _ hx215) (fun _ _ => ?_)
              refine g_v rfl (r_pick1 rfl h213) ?_
              refine g_v rfl r_move ?_
              refine g_if rfl rfl rfl rfl rfl (fun h216 => ?_) (fun h216 => ?_)
              ·
               replace hm := ite_t hm h216
               refine g_v rfl r_move ?_
               refine g_do rfl rfl rfl rfl rfl h216 ?_
               refine g_v rfl r_move ?_
               refine g_do rfl rfl rfl rfl rfl h216 ?_
               replace hm := bnd hm
               obtain ⟨x217, hx218, hm⟩ := hm
               refine g_cn ⟨w0, M, _, _, φ171⟩ (fun _ h => h) Try.call51 rfl rfl (c_name_Under x175 x167 _ hx218) (fun _ _ => ?_)
               refine g_do rfl rfl rfl rfl rfl h216 ?_
               refine g_v rfl r_move ?_
               refine g_do rfl rfl rfl rfl rfl h216 ?_
               refine g_v rfl (r_eql rfl rfl) ?_
               refine g_do rfl rfl rfl rfl rfl h216 ?_
               refine g_v rfl (r_eqlBo Try.underlying4 rfl rfl) ?_
               refine g_v rfl (r_pick1 rfl h216) ?_
               refine g_v rfl r_move ?_
               refine g_if rfl rfl rfl rfl rfl (fun h219 => ?_) (fun h219 => ?_)
               ·
                replace hm := ite_t hm h219
                refine g_v rfl r_move ?_
                refine g_do rfl rfl rfl rfl rfl h219 ?_
                refine g_v rfl r_move ?_
                refine g_do rfl rfl rfl rfl rfl h219 ?_
                replace hm := bnd hm
                obtain ⟨x220, hx221, hm⟩ := hm
                refine g_cn ⟨w0, M, _, _, φ171⟩ (fun _ h => h) Try.call52 rfl rfl (c_name_Shared x167 x181 _ hx221) (fun _ _ => ?_)
                refine g_do rfl rfl rfl rfl rfl h219 ?_
                refine g_v rfl r_move ?_
                refine g_do rfl rfl rfl rfl rfl h219 ?_
                refine g_v rfl r_move ?_
                refine g_do rfl rfl rfl rfl rfl h219 ?_
                refine g_v rfl (r_sub rfl rfl rfl) ?_
                refine g_do rfl rfl rfl rfl rfl h219 ?_
                refine g_v rfl (r_eql rfl rfl) ?_
                refine g_v rfl (r_pick1 rfl h219) ?_
                refine g_v rfl r_assign ?_
                refine g_nil ?_
                refine d_then ?_
                refine c_flat [(6, .bool (decide (x220 = w64 ((l164.length : Int) - (l125.length : Int)))))] ⟨rfl, trivial⟩ (fun u => ?_)
                refine c_sta ⟨w0, M, H, R, φ171⟩ (fun _ h => h) ?_
                refine c_ret ?_
                replace hm := Option.some.inj hm
                subst hm
                refine d_retC () Try.results11 ?_ trivial (fun W h => ok_pre (H1 := []) (R1 := []) h (fun W hφ => (q171 _ hφ))) (.inr rfl)
                refine res_tmp ?_
                refine res_nil ?_
                exact rfl
               ·
                replace hm := ite_f hm (bool_nt h219)
                refine g_no rfl rfl rfl rfl rfl h219 ?_
                refine g_no rfl rfl rfl rfl rfl h219 ?_
                refine g_no rfl rfl rfl rfl rfl h219 ?_
                refine g_no rfl rfl rfl rfl rfl h219 ?_
                refine g_no rfl rfl rfl rfl rfl h219 ?_
                refine g_no rfl rfl rfl rfl rfl h219 ?_
                refine g_v rfl (r_pick0 rfl h219) ?_
                refine g_v rfl r_assign ?_
                refine g_nil ?_
                refine d_then ?_
                refine c_flat [(6, .bool false)] ⟨rfl, trivial⟩ (fun u => ?_)
                refine c_sta ⟨w0, M, H, R, φ171⟩ (fun _ h => h) ?_
                refine c_ret ?_
                replace hm := Option.some.inj hm
                subst hm
                refine d_retC () Try.results11 ?_ trivial (fun W h => ok_pre (H1 := []) (R1 := []) h (fun W hφ => (q171 _ hφ))) (.inr rfl)
                refine res_tmp ?_
                refine res_nil ?_
                exact rfl
              ·
               replace hm := ite_f hm (bool_nt h216)
               refine g_no rfl rfl rfl rfl rfl h216 ?_
               refine g_no rfl rfl rfl rfl rfl h216 ?_
               refine g_no rfl rfl rfl rfl rfl h216 ?_
               refine g_no rfl rfl rfl rfl rfl h216 ?_
               refine g_no rfl rfl rfl rfl rfl h216 ?_
               refine g_v rfl (r_pick0 rfl h216) ?_
               refine g_v rfl r_move ?_
               refine g_no rfl rfl rfl rfl rfl rfl ?_
               refine g_no rfl rfl rfl rfl rfl rfl ?_
               refine g_no rfl rfl rfl rfl rfl rfl ?_
               refine g_no rfl rfl rfl rfl rfl rfl ?_
               refine g_no rfl rfl rfl rfl rfl rfl ?_
               refine g_no rfl rfl rfl rfl rfl rfl ?_
               refine g_no rfl rfl rfl rfl rfl rfl ?_
               refine g_v rfl (r_pick0 rfl rfl) ?_
               refine g_v rfl r_assign ?_
               refine g_nil ?_
               refine d_then ?_
               refine c_flat [(6, .bool false)] ⟨rfl, trivial⟩ (fun u => ?_)
               refine c_sta ⟨w0, M, H, R, φ171⟩ (fun _ h => h) ?_
               refine c_ret ?_
               replace hm := Option.some.inj hm
               subst hm
               refine d_retC () Try.results11 ?_ trivial (fun W h => ok_pre (H1 := []) (R1 := []) h (fun W hφ => (q171 _ hφ))) (.inr rfl)
               refine res_tmp ?_
               refine res_nil ?_
               exact rfl
             ·
              replace hm := ite_f hm (bool_nt h213)
              refine g_no rfl rfl rfl rfl rfl h213 ?_
              refine g_v rfl (r_pick0 rfl h213) ?_
              refine g_v rfl r_move ?_
              refine g_no rfl rfl rfl rfl rfl rfl ?_
              refine g_no rfl rfl rfl rfl rfl rfl ?_
              refine g_no rfl rfl rfl rfl rfl rfl ?_
              refine g_no rfl rfl rfl rfl rfl rfl ?_
              refine g_no rfl rfl rfl rfl rfl rfl ?_
              refine g_no rfl rfl rfl rfl rfl rfl ?_
              refine g_v rfl (r_pick0 rfl rfl) ?_
              refine g_v rfl r_move ?_
              refine g_no rfl rfl rfl rfl rfl rfl ?_
              refine g_no rfl rfl rfl rfl rfl rfl ?_
              refine g_no rfl rfl rfl rfl rfl rfl ?_
              refine g_no rfl rfl rfl rfl rfl rfl ?_
              refine g_no rfl rfl rfl rfl rfl rfl ?_
              refine g_no rfl rfl rfl rfl rfl rfl ?_
              refine g_no rfl rfl rfl rfl rfl rfl ?_
              refine g_v rfl (r_pick0 rfl rfl) ?_
              refine g_v rfl r_assign ?_
              refine g_nil ?_
              refine d_then ?_
              refine c_flat [(6, .bool false)] ⟨rfl, trivial⟩ (fun u => ?_)
              refine c_sta ⟨w0, M, H, R, φ171⟩ (fun _ h => h) ?_
              refine c_ret ?_
              replace hm := Option.some.inj hm
              subst hm
              refine d_retC () Try.results11 ?_ trivial (fun W h => ok_pre (H1 := []) (R1 := []) h (fun W hφ => (q171 _ hφ))) (.inr rfl)
              refine res_tmp ?_
              refine res_nil ?_
              exact rfl
            ·
             replace hm := ite_f hm (bool_nt h210)
             refine g_no rfl rfl rfl rfl rfl h210 ?_
             refine g_no rfl rfl rfl rfl rfl h210 ?_
             refine g_v rfl (r_pick0 rfl h210) ?_
             refine g_v rfl r_move ?_
             refine g_no rfl rfl rfl rfl rfl rfl ?_
             refine g_no rfl rfl rfl rfl rfl rfl ?_
             refine g_v rfl (r_pick0 rfl rfl) ?_
             refine g_v rfl r_move ?_
             refine g_no rfl rfl rfl rfl rfl rfl ?_
             refine g_no rfl rfl rfl rfl rfl rfl ?_
             refine g_no rfl rfl rfl rfl rfl rfl ?_
             refine g_no rfl rfl rfl rfl rfl rfl ?_
             refine g_no rfl rfl rfl rfl rfl rfl ?_
             refine g_no rfl rfl rfl rfl rfl rfl ?_
             refine g_v rfl (r_pick0 rfl rfl) ?_
             refine g_v rfl r_move ?_
             refine g_no rfl rfl rfl rfl rfl rfl ?_
             refine g_no rfl rfl rfl rfl rfl rfl ?_
             refine g_no rfl rfl rfl rfl rfl rfl ?_
             refine g_no rfl rfl rfl rfl rfl rfl ?_
             refine g_no rfl rfl rfl rfl rfl rfl ?_
             refine g_no rfl rfl rfl rfl rfl rfl ?_
             refine g_no rfl rfl rfl rfl rfl rfl ?_
             refine g_v rfl (r_pick0 rfl rfl) ?_
             refine g_v rfl r_assign ?_
             refine g_nil ?_
             refine d_then ?_
             refine c_flat [(6, .bool false)] ⟨rfl, trivial⟩ (fun u => ?_)
             refine c_sta ⟨w0, M, H, R, φ171⟩ (fun _ h => h) ?_
             refine c_ret ?_
             replace hm := Option.some.inj hm
             subst hm
             refine d_retC () Try.results11 ?_ trivial (fun W h => ok_pre (H1 := []) (R1 := []) h (fun W hφ => (q171 _ hφ))) (.inr rfl)
             refine res_tmp ?_
             refine res_nil ?_
             exact rfl
           ·
            replace hm := ite_f hm (bool_nt h207)
            refine g_no rfl rfl rfl rfl rfl h207 ?_
            refine g_no rfl rfl rfl rfl rfl h207 ?_
            refine g_v rfl (r_pick0 rfl h207) ?_
            refine g_v rfl r_move ?_
            refine g_no rfl rfl rfl rfl rfl rfl ?_
            refine g_no rfl rfl rfl rfl rfl rfl ?_
            refine g_no rfl rfl rfl rfl rfl rfl ?_
            refine g_v rfl (r_pick0 rfl rfl) ?_
            refine g_v rfl r_move ?_
            refine g_no rfl rfl rfl rfl rfl rfl ?_
            refine g_no rfl rfl rfl rfl rfl rfl ?_
            refine g_v rfl (r_pick0 rfl rfl) ?_
            refine g_v rfl r_move ?_
            refine g_no rfl rfl rfl rfl rfl rfl ?_
            refine g_no rfl rfl rfl rfl rfl rfl ?_
            refine g_no rfl rfl rfl rfl rfl rfl ?_
            refine g_no rfl rfl rfl rfl rfl rfl ?_
            refine g_no rfl rfl rfl rfl rfl rfl ?_
            refine g_no rfl rfl rfl rfl rfl rfl ?_
            refine g_v rfl (r_pick0 rfl rfl) ?_
            refine g_v rfl r_move ?_
            refine g_no rfl rfl rfl rfl rfl rfl ?_
            refine g_no rfl rfl rfl rfl rfl rfl ?_
            refine g_no rfl rfl rfl rfl rfl rfl ?_
            refine g_no rfl rfl rfl rfl rfl rfl ?_
            refine g_no rfl rfl rfl rfl rfl rfl ?_
            refine g_no rfl rfl rfl rfl rfl rfl ?_
            refine g_no rfl rfl rfl rfl rfl rfl ?_
            refine g_v rfl (r_pick0 rfl rfl) ?_
            refine g_v rfl r_assign ?_
            refine g_nil ?_
            refine d_then ?_
            refine c_flat [(6, .bool false)] ⟨rfl, trivial⟩ (fun u => ?_)
            refine c_sta ⟨w0, M, H, R, φ171⟩ (fun _ h => h) ?_
            refine c_ret ?_
            replace hm := Option.some.inj hm
            subst hm
            refine d_retC () Try.results11 ?_ trivial (fun W h => ok_pre (H1 := []) (R1 := []) h (fun W hφ => (q171 _ hφ))) (.inr rfl)
            refine res_tmp ?_
            refine res_nil ?_
            exact rfl
          ·
           replace hm := ite_f hm (bool_nt h204)
           refine g_no rfl rfl rfl rfl rfl h204 ?_
           refine g_no rfl rfl rfl rfl rfl h204 ?_
           refine g_v rfl (r_pick0 rfl h204) ?_
           refine g_v rfl r_move ?_
           refine g_no rfl rfl rfl rfl rfl rfl ?_
           refine g_no rfl rfl rfl rfl rfl rfl ?_
           refine g_no rfl rfl rfl rfl rfl rfl ?_
           refine g_v rfl (r_pick0 rfl rfl) ?_
           refine g_v rfl r_move ?_
           refine g_no rfl rfl rfl rfl rfl rfl ?_
           refine g_no rfl rfl rfl rfl rfl rfl ?_
           refine g_no rfl rfl rfl rfl rfl rfl ?_
           refine g_v rfl (r_pick0 rfl rfl) ?_
           refine g_v rfl r_move ?_
           refine g_no rfl rfl rfl rfl rfl rfl ?_
           refine g_no rfl rfl rfl rfl rfl rfl ?_
           refine g_v rfl (r_pick0 rfl rfl) ?_
           refine g_v rfl r_move ?_
           refine g_no rfl rfl rfl rfl rfl rfl ?_
           refine g_no rfl rfl rfl rfl rfl rfl ?_
           refine g_no rfl rfl rfl rfl rfl rfl ?_
           refine g_no rfl rfl rfl rfl rfl rfl ?_
           refine g_no rfl rfl rfl rfl rfl rfl ?_
           refine g_no rfl rfl rfl rfl rfl rfl ?_
           refine g_v rfl (r_pick0 rfl rfl) ?_
           refine g_v rfl r_move ?_
           refine g_no rfl rfl rfl rfl rfl rfl ?_
           refine g_no rfl rfl rfl rfl rfl rfl ?_
           refine g_no rfl rfl rfl rfl rfl rfl ?_
           refine g_no rfl rfl rfl rfl rfl rfl ?_
           refine g_no rfl rfl rfl rfl rfl rfl ?_
           refine g_no rfl rfl rfl rfl rfl rfl ?_
           refine g_no rfl rfl rfl rfl rfl rfl ?_
           refine g_v rfl (r_pick0 rfl rfl) ?_
           refine g_v rfl r_assign ?_
           refine g_nil ?_
           refine d_then ?_
           refine c_flat [(6, .bool false)] ⟨rfl, trivial⟩ (fun u => ?_)
           refine c_sta ⟨w0, M, H, R, φ171⟩ (fun _ h => h) ?_
           refine c_ret ?_
           replace hm := Option.some.inj hm
           subst hm
           refine d_retC () Try.results11 ?_ trivial (fun W h => ok_pre (H1 := []) (R1 := []) h (fun W hφ => (q171 _ hφ))) (.inr rfl)
           refine res_tmp ?_
           refine res_nil ?_
           exact rfl
         ·
          replace hm := ite_f hm (bool_nt h201)
          refine g_no rfl rfl rfl rfl rfl h201 ?_
          refine g_no rfl rfl rfl rfl rfl h201 ?_
          refine g_v rfl (r_pick0 rfl h201) ?_
          refine g_v rfl r_move ?_
          refine g_no rfl rfl rfl rfl rfl rfl ?_
          refine g_no rfl rfl rfl rfl rfl rfl ?_
          refine g_no rfl rfl rfl rfl rfl rfl ?_
          refine g_v rfl (r_pick0 rfl rfl) ?_
          refine g_v rfl r_move ?_
          refine g_no rfl rfl rfl rfl rfl rfl ?_
          refine g_no rfl rfl rfl rfl rfl rfl ?_
          refine g_no rfl rfl rfl rfl rfl rfl ?_
          refine g_v rfl (r_pick0 rfl rfl) ?_
          refine g_v rfl r_move ?_
          refine g_no rfl rfl rfl rfl rfl rfl ?_
          refine g_no rfl rfl rfl rfl rfl rfl ?_
          refine g_no rfl rfl rfl rfl rfl rfl ?_
          refine g_v rfl (r_pick0 rfl rfl) ?_
          refine g_v rfl r_move ?_
          refine g_no rfl rfl rfl rfl rfl rfl ?_
          refine g_no rfl rfl rfl rfl rfl rfl ?_
          refine g_v rfl (r_pick0 rfl rfl) ?_
          refine g_v rfl r_move ?_
          refine g_no rfl rfl rfl rfl rfl rfl ?_
          refine g_no rfl rfl rfl rfl rfl rfl ?_
          refine g_no rfl rfl rfl rfl rfl rfl ?_
          refine g_no rfl rfl rfl rfl rfl rfl ?_
          refine g_no rfl rfl rfl rfl rfl rfl ?_
          refine g_no rfl rfl rfl rfl rfl rfl ?_
          refine g_v rfl (r_pick0 rfl rfl) ?_
          refine g_v rfl r_move ?_
          refine g_no rfl rfl rfl rfl rfl rfl ?_
          refine g_no rfl rfl rfl rfl rfl rfl ?_
          refine g_no rfl rfl rfl rfl rfl rfl ?_
          refine g_no rfl rfl rfl rfl rfl rfl ?_
          refine g_no rfl rfl rfl rfl rfl rfl ?_
          refine g_no rfl rfl rfl rfl rfl rfl ?_
          refine g_no rfl rfl rfl rfl rfl rfl ?_
          refine g_v rfl (r_pick0 rfl rfl) ?_
          refine g_v rfl r_assign ?_
          refine g_nil ?_
          refine d_then ?_
          refine c_flat [(6, .bool false)] ⟨rfl, trivial⟩ (fun u => ?_)
          refine c_sta ⟨w0, M, H, R, φ171⟩ (fun _ h => h) ?_
          refine c_ret ?_
          replace hm := Option.some.inj hm
          subst hm
          refine d_retC () Try.results11 ?_ trivial (fun W h => ok_pre (H1 := []) (R1 := []) h (fun W hφ => (q171 _ hφ))) (.inr rfl)
          refine res_tmp ?_
          refine res_nil ?_
          exact rfl
        ·
         replace hm := ite_f hm (bool_nt h200)
         refine g_v rfl (r_pick0 rfl h200) ?_
         refine g_v rfl r_move ?_
         refine g_no rfl rfl rfl rfl rfl rfl ?_
         refine g_no rfl rfl rfl rfl rfl rfl ?_
         refine g_no rfl rfl rfl rfl rfl rfl ?_
         refine g_v rfl (r_pick0 rfl rfl) ?_
         refine g_v rfl r_move ?_
         refine g_no rfl rfl rfl rfl rfl rfl ?_
         refine g_no rfl rfl rfl rfl rfl rfl ?_
         refine g_no rfl rfl rfl rfl rfl rfl ?_
         refine g_v rfl (r_pick0 rfl rfl) ?_
         refine g_v rfl r_move ?_
         refine g_no rfl rfl rfl rfl rfl rfl ?_
         refine g_no rfl rfl rfl rfl rfl rfl ?_
         refine g_no rfl rfl rfl rfl rfl rfl ?_
         refine g_v rfl (r_pick0 rfl rfl) ?_
         refine g_v rfl r_move ?_
         refine g_no rfl rfl rfl rfl rfl rfl ?_
         refine g_no rfl rfl rfl rfl rfl rfl ?_
         refine g_no rfl rfl rfl rfl rfl rfl ?_
         refine g_v rfl (r_pick0 rfl rfl) ?_
         refine g_v rfl r_move ?_
         refine g_no rfl rfl rfl rfl rfl rfl ?_
         refine g_no rfl rfl rfl rfl rfl rfl ?_
         refine g_v rfl (r_pick0 rfl rfl) ?_
         refine g_v rfl r_move ?_
         refine g_no rfl rfl rfl rfl rfl rfl ?_
         refine g_no rfl rfl rfl rfl rfl rfl ?_
         refine g_no rfl rfl rfl rfl rfl rfl ?_
         refine g_no rfl rfl rfl rfl rfl rfl ?_
         refine g_no rfl rfl rfl rfl rfl rfl ?_
         refine g_no rfl rfl rfl rfl rfl rfl ?_
         refine g_v rfl (r_pick0 rfl rfl) ?_
         refine g_v rfl r_move ?_
         refine g_no rfl rfl rfl rfl rfl rfl ?_
         refine g_no rfl rfl rfl rfl rfl rfl ?_
         refine g_no rfl rfl rfl rfl rfl rfl ?_
         refine g_no rfl rfl rfl rfl rfl rfl ?_
         refine g_no rfl rfl rfl rfl rfl rfl ?_
         refine g_no rfl rfl rfl rfl rfl rfl ?_
         refine g_no rfl rfl rfl rfl rfl rfl ?_
         refine g_v rfl (r_pick0 rfl rfl) ?_
         refine g_v rfl r_assign ?_
         refine g_nil ?_
         refine d_then ?_
         refine c_flat [(6, .bool false)] ⟨rfl, trivial⟩ (fun u => ?_)
         refine c_sta ⟨w0, M, H, R, φ171⟩ (fun _ h => h) ?_
         refine c_ret ?_
         replace hm := Option.some.inj hm
         subst hm
         refine d_retC () Try.results11 ?_ trivial (fun W h => ok_pre (H1 := []) (R1 := []) h (fun W hφ => (q171 _ hφ))) (.inr rfl)
         refine res_tmp ?_
         refine res_nil ?_
         exact rfl
     ·
      replace hm := ite_t hm (of_decide_eq_true h186)
      refine g_no rfl rfl rfl rfl rfl h186 ?_
      refine g_v rfl (r_pick1 rfl h186) ?_
      refine g_nil ?_
      refine d_then ?_
      refine c_cond1 rfl rfl ?_
      refine c_seq ?_
      refine c_region ?_
      refine g_v rfl r_move ?_
      refine g_v rfl r_assign ?_
      refine g_nil ?_
      refine d_then ?_
      refine c_flat [(6, .bool x1)] ⟨rfl, trivial⟩ (fun u => ?_)
      refine c_sta ⟨w0, M, H, R, φ171⟩ (fun _ h => h) ?_
      refine c_ret ?_
      refine d_ret_then ?_
      replace hm := Option.some.inj hm
      subst hm
      refine d_retC () Try.results11 ?_ trivial (fun W h => ok_pre (H1 := []) (R1 := []) h (fun W hφ => (q171 _ hφ))) (.inr rfl)
      refine res_tmp ?_
      refine res_nil ?_
      exact rfl
    ·
     replace hm := ite_t hm (of_decide_eq_true h185)
     refine g_no rfl rfl rfl rfl rfl h185 ?_
     refine g_v rfl (r_pick1 rfl h185) ?_
     refine g_v rfl r_move ?_
     refine g_no rfl rfl rfl rfl rfl rfl ?_
     refine g_no rfl rfl rfl rfl rfl rfl ?_
     refine g_v rfl (r_pick1 rfl rfl) ?_
     refine g_nil ?_
     refine d_then ?_
     refine c_cond1 rfl rfl ?_
     refine c_seq ?_
     refine c_region ?_
     refine g_v rfl r_move ?_
     refine g_v rfl r_assign ?_
     refine g_nil ?_
     refine d_then ?_
     refine c_ret ?_
     refine d_ret_then ?_
     replace hm := Option.some.inj hm
     subst hm
     refine d_retC () Try.results11 ?_ trivial (fun W h => ok_pre (H1 := []) (R1 := []) h (fun W hφ => (q171 _ hφ))) (.inr rfl)
     refine res_tmp ?_
     refine res_nil ?_
     exact rfl

end Go.Proofs.Ytdcfemndfnfedaa
