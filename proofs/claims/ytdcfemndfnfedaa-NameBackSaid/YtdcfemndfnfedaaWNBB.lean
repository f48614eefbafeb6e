import Derived.Test.YtdcfemndfnfedaaWNBA
set_option maxRecDepth 100000
set_option maxHeartbeats 4000000
set_option linter.unusedVariables false
set_option linter.unusedSimpArgs false
namespace Go.Proofs.Ytdcfemndfnfedaa
open Go.RowKit Go.Proofs.YtdcfemndfnfedaaW.PrintLast
noncomputable def m_law03_NameBack (p0 : List ByteArray) : Option Bool :=
  (m_law03_awake).bind fun x1 =>
  (m_law03_few p0).bind fun x3 =>
  (m_name_Make x3).bind fun (z11 : ByteArray × Int) =>
  if z11.2 ≠ 0 then
    if x1 = true then
      some (decide (z11.1 = (⟨#[]⟩ : ByteArray)))
    else
      some false
  else
    (m_name_Labels z11.1).bind fun (z20 : (List ByteArray) × Int) =>
    (m_law03_same x3 z20.1).bind fun x21 =>
    (m_name_Text z11.1).bind fun x23 =>
    (m_name_Parse x23).bind fun (z28 : ByteArray × Int) =>
    if x1 = true then
      if z20.2 = 0 then
        if x21 = true then
          if z28.2 = 0 then
            if z28.1 = z11.1 then
              (m_name_Depth z11.1).bind fun x34 =>
              if x34 = (x3.length : Int) then
                some (decide ((z11.1.size : Int) ≤ 255))
              else
                some false
            else
              some false
          else
            some false
        else
          some false
      else
        some false
    else
      some false
theorem c_law03_NameBack {w0 : World} {M : Nat → Prop} {H : List (Nat × Nat × Obj)} {R : List (Nat × Row)} {φ : World → Prop} (p0 : List ByteArray) (Ap0_0 : Option Addr) (cp0_0 : Nat) (hcp0_0 : p0.length ≤ cp0_0) (fp0_0 : ∀ W, (Sta.mk w0 M H R φ).ok W → Cl W Ap0_0 (p0.flatMap (fun x : ByteArray => [Value.string x]))) (r : Bool) (hm : m_law03_NameBack p0 = some r) :
    Cn Try.prog 10 #[.slice Ap0_0 p0.length cp0_0] ⟨w0, M, H, R, φ⟩ (fun x : Unit => .bool r) (fun x => True) (fun x => ⟨w0, M, H, R, φ⟩) := by
 unfold m_law03_NameBack at hm
 refine cn_intro (fn := Try.f10) (N := 70) Try.func10 rfl Try.ntmps10 rfl ?_
 refine c_seq ?_
 refine c_region ?_
 refine g_v rfl r_assign ?_
 refine g_nil ?_
 refine d_then ?_
 refine c_seq ?_
 refine c_region ?_
 replace hm := bnd hm
 obtain ⟨x1, hx2, hm⟩ := hm
 refine g_cn ⟨w0, M, _, _, φ⟩ (fun _ h => h) Try.call37 rfl rfl (c_law03_awake  _ hx2) (fun _ _ => ?_)
 refine g_v rfl r_assign ?_
 refine g_nil ?_
 refine d_then ?_
 refine c_seq ?_
 refine c_region ?_
 refine g_v rfl r_move ?_
 replace hm := bnd hm
 obtain ⟨x3, hx4, hm⟩ := hm
 refine g_cn ⟨w0, M, _, _, φ⟩ (fun _ h => h) Try.call39 rfl rfl (c_law03_few p0 Ap0_0 cp0_0 hcp0_0 (fun W hS => fp0_0 W (ok_pre (H1 := []) (R1 := []) hS (fun W h => h))) _ hx4) (fun ⟨A5, c6⟩ hc6 => ?_)
 refine g_sta _ (fun W h => (ok_frontR (t := 2000) (t' := 100140) h rfl)) ?_
 refine g_v rfl r_assign ?_
 refine g_nil ?_
 refine d_then ?_
 refine c_seq ?_
 refine c_region ?_
 refine g_v rfl r_move ?_
 replace hm := bnd hm
 obtain ⟨⟨x8, x9⟩, hx10, hm⟩ := hm
 refine g_cn ⟨w0, M, _, _, φ⟩ (fun _ h => h) Try.call40 rfl rfl (c_name_Make x3 A5 c6 hc6 (fun W hS => rowCl (tag := 100140) rfl W hS) _ hx10) (fun _ _ => ?_)
 refine g_v rfl r_move ?_
 refine g_v rfl (r_extract rfl rfl) ?_
 refine g_v rfl (r_extract rfl rfl) ?_
 refine g_v rfl r_assign ?_
 refine g_v rfl r_assign ?_
 refine g_nil ?_
 refine d_then ?_
 refine c_flat [(3, .bool x1), (4, .slice A5 x3.length c6), (5, .string x8), (6, .int .i64 x9)] ⟨rfl, rfl, rfl, rfl, trivial⟩ (fun u => ?_)
 refine c_sta ⟨w0, M, H, (100140, ⟨.slice A5 x3.length c6, 9, 1, x3.length, x3.flatMap (fun x : ByteArray => [Value.string x])⟩) :: R, φ⟩ (fun _ h => h) ?_
 refine c_seq ?_
 refine c_seq ?_
 refine c_region ?_
 refine g_v rfl r_move ?_
 refine g_v rfl (r_neq rfl rfl) ?_
 refine g_nil ?_
 refine d_then ?_
 refine c_cond rfl (fun h12 => ?_) (fun h12 => ?_)
 ·
  replace hm := ite_t hm (of_decide_eq_true h12)
  refine c_seq ?_
  refine c_region ?_
  refine g_v rfl r_move ?_
  refine g_v rfl r_move ?_
  refine g_if rfl rfl rfl rfl rfl (fun h13 => ?_) (fun h13 => ?_)
  ·
   replace hm := ite_t hm h13
   refine g_v rfl r_move ?_
   refine g_do rfl rfl rfl rfl rfl h13 ?_
   refine g_v rfl (r_eqlT rfl rfl) ?_
   refine g_v rfl (r_pick1 rfl h13) ?_
   refine g_v rfl r_assign ?_
   refine g_nil ?_
   refine d_then ?_
   refine c_ret ?_
   refine d_ret_then ?_
   replace hm := Option.some.inj hm
   subst hm
   refine d_retC () Try.results10 ?_ trivial (fun W h => ok_pre (H1 := []) (R1 := [_]) h (fun W hφ => hφ)) (.inr rfl)
   refine res_tmp ?_
   refine res_nil ?_
   exact rfl
  ·
   replace hm := ite_f hm (bool_nt h13)
   refine g_no rfl rfl rfl rfl rfl h13 ?_
   refine g_v rfl (r_pick0 rfl h13) ?_
   refine g_v rfl r_assign ?_
   refine g_nil ?_
   refine d_then ?_
   refine c_ret ?_
   refine d_ret_then ?_
   replace hm := Option.some.inj hm
   subst hm
   refine d_retC () Try.results10 ?_ trivial (fun W h => ok_pre (H1 := []) (R1 := [_]) h (fun W hφ => hφ)) (.inr rfl)
   refine res_tmp ?_
   refine res_nil ?_
   exact rfl
 ·
  replace hm := ite_f hm (of_decide_eq_false h12)
  refine c_skip ?_
  refine d_then ?_
  refine c_seq ?_
  refine c_region ?_
  refine g_v rfl r_move ?_
  replace hm := bnd hm
  obtain ⟨⟨x14, x15⟩, hx16, hm⟩ := hm
  refine g_cn ⟨w0, M, _, _, φ⟩ (fun _ h => h) Try.call42 rfl rfl (c_name_Labels x8 _ hx16) (fun ⟨A17, c18⟩ hc18 => ?_)
  refine g_sta _ (fun W h => (ok_frontR (t := 2000) (t' := 100290) h rfl)) ?_
  refine g_v rfl r_move ?_
  refine g_v rfl (r_extract rfl rfl) ?_
  refine g_v rfl (r_extract rfl rfl) ?_
  refine g_v rfl r_assign ?_
  refine g_v rfl r_assign ?_
  refine g_nil ?_
  refine d_then ?_
  refine c_flat [(3, .bool x1), (4, .slice A5 x3.length c6), (5, .string x8), (7, .slice A17 x14.length c18), (8, .int .i64 x15)] ⟨rfl, rfl, rfl, rfl, rfl, trivial⟩ (fun u => ?_)
  refine c_sta ⟨w0, M, H, (100290, ⟨.slice A17 x14.length c18, 9, 1, x14.length, x14.flatMap (fun x : ByteArray => [Value.string x])⟩) :: (100140, ⟨.slice A5 x3.length c6, 9, 1, x3.length, x3.flatMap (fun x : ByteArray => [Value.string x])⟩) :: R, φ⟩ (fun _ h => h) ?_
  refine c_seq ?_
  refine c_region ?_
  refine g_v rfl r_move ?_
  refine g_v rfl r_move ?_
  replace hm := bnd hm
  obtain ⟨x21, hx22, hm⟩ := hm
  refine g_cn ⟨w0, M, _, _, φ⟩ (fun _ h => h) Try.call44 rfl rfl (c_law03_same x3 A5 c6 hc6 (fun W hS => rowCl (tag := 100140) rfl W hS) x14 A17 c18 hc18 (fun W hS => rowCl (tag := 100290) rfl W hS) _ hx22) (fun _ _ => ?_)
  refine g_v rfl r_assign ?_
  refine g_nil ?_
  refine d_then ?_
  refine c_seq ?_
  refine c_region ?_
  refine g_v rfl r_move ?_
  replace hm := bnd hm
  obtain ⟨x23, hx24, hm⟩ := hm
  refine g_cn ⟨w0, M, _, _, φ⟩ (fun _ h => h) Try.call49 rfl rfl (c_name_Text x8 _ hx24) (fun _ _ => ?_)
  replace hm := bnd hm
  obtain ⟨⟨x25, x26⟩, hx27, hm⟩ := hm
  refine g_cn ⟨w0, M, _, _, φ⟩ (fun _ h => h) Try.call48 rfl rfl (c_name_Parse x23 _ hx27) (fun _ _ => ?_)
  refine g_v rfl r_move ?_
  refine g_v rfl (r_extract rfl rfl) ?_
  refine g_v rfl (r_extract rfl rfl) ?_
  refine g_v rfl r_assign ?_
  refine g_v rfl r_assign ?_
  refine g_nil ?_
  refine d_then ?_
  refine c_flat [(3, .bool x1), (4, .slice A5 x3.length c6), (5, .string x8), (8, .int .i64 x15), (9, .bool x21), (10, .string x25), (11, .int .i64 x26)] ⟨rfl, rfl, rfl, rfl, rfl, rfl, rfl, trivial⟩ (fun u => ?_)
  refine c_sta ⟨w0, M, H, (100290, ⟨.slice A17 x14.length c18, 9, 1, x14.length, x14.flatMap (fun x : ByteArray => [Value.string x])⟩) :: (100140, ⟨.slice A5 x3.length c6, 9, 1, x3.length, x3.flatMap (fun x : ByteArray => [Value.string x])⟩) :: R, φ⟩ (fun _ h => h) ?_
  refine c_seq ?_
  refine c_region ?_
  refine g_v rfl r_move ?_
  refine g_v rfl r_move ?_
  refine g_if rfl rfl rfl rfl rfl (fun h29 => ?_) (fun h29 => ?_)
  ·
   replace hm := ite_t hm h29
   refine g_v rfl r_move ?_
   refine g_do rfl rfl rfl rfl rfl h29 ?_
   refine g_v rfl (r_eql rfl rfl) ?_
   refine g_v rfl (r_pick1 rfl h29) ?_
   refine g_v rfl r_move ?_
   refine g_if rfl rfl rfl rfl rfl (fun h30 => ?_) (fun h30 => ?_)
   ·
    replace hm := ite_t hm (of_decide_eq_true h30)
    refine g_v rfl r_move ?_
    refine g_v rfl (r_pick1 rfl h30) ?_
    refine g_v rfl r_move ?_
    refine g_if rfl rfl rfl rfl rfl (fun h31 => ?_) (fun h31 => ?_)
    ·
     replace hm := ite_t hm h31
     refine g_v rfl r_move ?_
     refine g_do rfl rfl rfl rfl rfl h31 ?_
     refine g_v rfl (r_eql rfl rfl) ?_
     refine g_v rfl (r_pick1 rfl h31) ?_
     refine g_v rfl r_move ?_
     refine g_if rfl rfl rfl rfl rfl (fun h32 => ?_) (fun h32 => ?_)
     ·
      replace hm := ite_t hm (of_decide_eq_true h32)
      refine g_v rfl r_move ?_
      refine g_do rfl rfl rfl rfl rfl h32 ?_
      refine g_v rfl r_move ?_
      refine g_do rfl rfl rfl rfl rfl h32 ?_
      refine g_v rfl (r_eqlT rfl rfl) ?_
      refine g_v rfl (r_pick1 rfl h32) ?_
      refine g_v rfl r_move ?_
      refine g_if rfl rfl rfl rfl rfl (fun h33 => ?_) (fun h33 => ?_)
      ·
       replace hm := ite_t hm (of_decide_eq_true h33)
       refine g_v rfl r_move ?_
       refine g_do rfl rfl rfl rfl rfl h33 ?_
       replace hm := bnd hm
       obtain ⟨x34, hx35, hm⟩ := hm
       refine g_cn ⟨w0, M, _, _, φ⟩ (fun _ h => h) Try.call46 rfl rfl (c_name_Depth x8 _ hx35) (fun _ _ => ?_)
       refine g_do rfl rfl rfl rfl rfl h33 ?_
       refine g_v rfl r_move ?_
       refine g_do rfl rfl rfl rfl rfl h33 ?_
       refine g_v rfl (r_lenL Try.underlying44 rfl) ?_
       refine g_do rfl rfl rfl rfl rfl h33 ?_
       refine g_v rfl (r_eql rfl rfl) ?_
       refine g_v rfl (r_pick1 rfl h33) ?_
       refine g_v rfl r_move ?_
       refine g_if rfl rfl rfl rfl rfl (fun h36 => ?_) (fun h36 => ?_)
       ·
        replace hm := ite_t hm (of_decide_eq_true h36)
        refine g_v rfl r_move ?_
        refine g_do rfl rfl rfl rfl rfl h36 ?_
        refine g_v rfl (r_len Try.underlying9 rfl) ?_
        refine g_do rfl rfl rfl rfl rfl h36 ?_
        refine g_v rfl (r_leq rfl rfl) ?_
        refine g_v rfl (r_pick1 rfl h36) ?_
        refine g_v rfl r_assign ?_
        refine g_nil ?_
        refine d_then ?_
        refine c_flat [(2, .bool (decide ((x8.size : Int) ≤ 255)))] ⟨rfl, trivial⟩ (fun u => ?_)
        refine c_sta ⟨w0, M, H, (100290, ⟨.slice A17 x14.length c18, 9, 1, x14.length, x14.flatMap (fun x : ByteArray => [Value.string x])⟩) :: (100140, ⟨.slice A5 x3.length c6, 9, 1, x3.length, x3.flatMap (fun x : ByteArray => [Value.string x])⟩) :: R, φ⟩ (fun _ h => h) ?_
        refine c_ret ?_
        replace hm := Option.some.inj hm
        subst hm
        refine d_retC () Try.results10 ?_ trivial (fun W h => ok_pre (H1 := []) (R1 := [_, _]) h (fun W hφ => hφ)) (.inr rfl)
        refine res_tmp ?_
        refine res_nil ?_
        exact rfl
       ·
        replace hm := ite_f hm (of_decide_eq_false h36)
        refine g_no rfl rfl rfl rfl rfl h36 ?_
        refine g_no rfl rfl rfl rfl rfl h36 ?_
        refine g_v rfl (r_pick0 rfl h36) ?_
        refine g_v rfl r_assign ?_
        refine g_nil ?_
        refine d_then ?_
        refine c_flat [(2, .bool false)] ⟨rfl, trivial⟩ (fun u => ?_)
        refine c_sta ⟨w0, M, H, (100290, ⟨.slice A17 x14.length c18, 9, 1, x14.length, x14.flatMap (fun x : ByteArray => [Value.string x])⟩) :: (100140, ⟨.slice A5 x3.length c6, 9, 1, x3.length, x3.flatMap (fun x : ByteArray => [Value.string x])⟩) :: R, φ⟩ (fun _ h => h) ?_
        refine c_ret ?_
        replace hm := Option.some.inj hm
        subst hm
        refine d_retC () Try.results10 ?_ trivial (fun W h => ok_pre (H1 := []) (R1 := [_, _]) h (fun W hφ => hφ)) (.inr rfl)
        refine res_tmp ?_
        refine res_nil ?_
        exact rfl
      ·
       replace hm := ite_f hm (of_decide_eq_false h33)
       refine g_no rfl rfl rfl rfl rfl h33 ?_
       refine g_no rfl rfl rfl rfl rfl h33 ?_
       refine g_no rfl rfl rfl rfl rfl h33 ?_
       refine g_no rfl rfl rfl rfl rfl h33 ?_
       refine g_v rfl (r_pick0 rfl h33) ?_
       refine g_v rfl r_move ?_
       refine g_no rfl rfl rfl rfl rfl rfl ?_
       refine g_no rfl rfl rfl rfl rfl rfl ?_
       refine g_no rfl rfl rfl rfl rfl rfl ?_
       refine g_v rfl (r_pick0 rfl rfl) ?_
       refine g_v rfl r_assign ?_
       refine g_nil ?_
       refine d_then ?_
       refine c_flat [(2, .bool false)] ⟨rfl, trivial⟩ (fun u => ?_)
       refine c_sta ⟨w0, M, H, (100290, ⟨.slice A17 x14.length c18, 9, 1, x14.length, x14.flatMap (fun x : ByteArray => [Value.string x])⟩) :: (100140, ⟨.slice A5 x3.length c6, 9, 1, x3.length, x3.flatMap (fun x : ByteArray => [Value.string x])⟩) :: R, φ⟩ (fun _ h => h) ?_
       refine c_ret ?_
       replace hm := Option.some.inj hm
       subst hm
       refine d_retC () Try.results10 ?_ trivial (fun W h => ok_pre (H1 := []) (R1 := [_, _]) h (fun W hφ => hφ)) (.inr rfl)
       refine res_tmp ?_
       refine res_nil ?_
       exact rfl
     ·
      replace hm := ite_f hm (of_decide_eq_false h32)
      refine g_no rfl rfl rfl rfl rfl h32 ?_
      refine g_no rfl rfl rfl rfl rfl h32 ?_
      refine g_v rfl (r_pick0 rfl h32) ?_
      refine g_v rfl r_move ?_
      refine g_no rfl rfl rfl rfl rfl rfl ?_
      refine g_no rfl rfl rfl rfl rfl rfl ?_
      refine g_no rfl rfl rfl rfl rfl rfl ?_
      refine g_no rfl rfl rfl rfl rfl rfl ?_
      refine g_no rfl rfl rfl rfl rfl rfl ?_
      refine g_v rfl (r_pick0 rfl rfl) ?_
      refine g_v rfl r_move ?_
      refine g_no rfl rfl rfl rfl rfl rfl ?_
      refine g_no rfl rfl rfl rfl rfl rfl ?_
      refine g_no rfl rfl rfl rfl rfl rfl ?_
      refine g_v rfl (r_pick0 rfl rfl) ?_
      refine g_v rfl r_assign ?_
      refine g_nil ?_
      refine d_then ?_
      refine c_flat [(2, .bool false)] ⟨rfl, trivial⟩ (fun u => ?_)
      refine c_sta ⟨w0, M, H, (100290, ⟨.slice A17 x14.length c18, 9, 1, x14.length, x14.flatMap (fun x : ByteArray => [Value.string x])⟩) :: (100140, ⟨.slice A5 x3.length c6, 9, 1, x3.length, x3.flatMap (fun x : ByteArray => [Value.string x])⟩) :: R, φ⟩ (fun _ h => h) ?_
      refine c_ret ?_
      replace hm := Option.some.inj hm
      subst hm
      refine d_retC () Try.results10 ?_ trivial (fun W h => ok_pre (H1 := []) (R1 := [_, _]) h (fun W hφ => hφ)) (.inr rfl)
      refine res_tmp ?_
      refine res_nil ?_
      exact rfl
    ·
     replace hm := ite_f hm (bool_nt h31)
     refine g_no rfl rfl rfl rfl rfl h31 ?_
     refine g_v rfl (r_pick0 rfl h31) ?_
     refine g_v rfl r_move ?_
     refine g_no rfl rfl rfl rfl rfl rfl ?_
     refine g_no rfl rfl rfl rfl rfl rfl ?_
     refine g_no rfl rfl rfl rfl rfl rfl ?_
     refine g_v rfl (r_pick0 rfl rfl) ?_
     refine g_v rfl r_move ?_
     refine g_no rfl rfl rfl rfl rfl rfl ?_
     refine g_no rfl rfl rfl rfl rfl rfl ?_
     refine g_no rfl rfl rfl rfl rfl rfl ?_
     refine g_no rfl rfl rfl rfl rfl rfl ?_
     refine g_no rfl rfl rfl rfl rfl rfl ?_
     refine g_v rfl (r_pick0 rfl rfl) ?_
     refine g_v rfl r_move ?_
     refine g_no rfl rfl rfl rfl rfl rfl ?_
     refine g_no rfl rfl rfl rfl rfl rfl ?_
     refine g_no rfl rfl rfl rfl rfl rfl ?_
     refine g_v rfl (r_pick0 rfl rfl) ?_
     refine g_v rfl r_assign ?_
     refine g_nil ?_
     refine d_then ?_
     refine c_flat [(2, .bool false)] ⟨rfl, trivial⟩ (fun u => ?_)
     refine c_sta ⟨w0, M, H, (100290, ⟨.slice A17 x14.length c18, 9, 1, x14.length, x14.flatMap (fun x : ByteArray => [Value.string x])⟩) :: (100140, ⟨.slice A5 x3.length c6, 9, 1, x3.length, x3.flatMap (fun x : ByteArray => [Value.string x])⟩) :: R, φ⟩ (fun _ h => h) ?_
     refine c_ret ?_
     replace hm := Option.some.inj hm
     subst hm
     refine d_retC () Try.results10 ?_ trivial (fun W h => ok_pre (H1 := []) (R1 := [_, _]) h (fun W hφ => hφ)) (.inr rfl)
     refine res_tmp ?_
     refine res_nil ?_
     exact rfl
   ·
    replace hm := ite_f hm (of_decide_eq_false h30)
    refine g_v rfl (r_pick0 rfl h30) ?_
    refine g_v rfl r_move ?_
    refine g_no rfl rfl rfl rfl rfl rfl ?_
    refine g_no rfl rfl rfl rfl rfl rfl ?_
    refine g_v rfl (r_pick0 rfl rfl) ?_
    refine g_v rfl r_move ?_
    refine g_no rfl rfl rfl rfl rfl rfl ?_
    refine g_no rfl rfl rfl rfl rfl rfl ?_
    refine g_no rfl rfl rfl rfl rfl rfl ?_
    refine g_v rfl (r_pick0 rfl rfl) ?_
    refine g_v rfl r_move ?_
    refine g_no rfl rfl rfl rfl rfl rfl ?_
    refine g_no rfl rfl rfl rfl rfl rfl ?_
    refine g_no rfl rfl rfl rfl rfl rfl ?_
    refine g_no rfl rfl rfl rfl rfl rfl ?_
    refine g_no rfl rfl rfl rfl rfl rfl ?_
    refine g_v rfl (r_pick0 rfl rfl) ?_
    refine g_v rfl r_move ?_
    refine g_no rfl rfl rfl rfl rfl rfl ?_
    refine g_no rfl rfl rfl rfl rfl rfl ?_
    refine g_no rfl rfl rfl rfl rfl rfl ?_
    refine g_v rfl (r_pick0 rfl rfl) ?_
    refine g_v rfl r_assign ?_
    refine g_nil ?_
    refine d_then ?_
    refine c_flat [(2, .bool false)] ⟨rfl, trivial⟩ (fun u => ?_)
    refine c_sta ⟨w0, M, H, (100290, ⟨.slice A17 x14.length c18, 9, 1, x14.length, x14.flatMap (fun x : ByteArray => [Value.string x])⟩) :: (100140, ⟨.slice A5 x3.length c6, 9, 1, x3.length, x3.flatMap (fun x : ByteArray => [Value.string x])⟩) :: R, φ⟩ (fun _ h => h) ?_
    refine c_ret ?_
    replace hm := Option.some.inj hm
    subst hm
    refine d_retC () Try.results10 ?_ trivial (fun W h => ok_pre (H1 := []) (R1 := [_, _]) h (fun W hφ => hφ)) (.inr rfl)
    refine res_tmp ?_
    refine res_nil ?_
    exact rfl
  ·
   replace hm := ite_f hm (bool_nt h29)
   refine g_no rfl rfl rfl rfl rfl h29 ?_
   refine g_v rfl (r_pick0 rfl h29) ?_
   refine g_v rfl r_move ?_
   refine g_no rfl rfl rfl rfl rfl rfl ?_
   refine g_v rfl (r_pick0 rfl rfl) ?_
   refine g_v rfl r_move ?_
   refine g_no rfl rfl rfl rfl rfl rfl ?_
   refine g_no rfl rfl rfl rfl rfl rfl ?_
   refine g_v rfl (r_pick0 rfl rfl) ?_
   refine g_v rfl r_move ?_
   refine g_no rfl rfl rfl rfl rfl rfl ?_
   refine g_no rfl rfl rfl rfl rfl rfl ?_
   refine g_no rfl rfl rfl rfl rfl rfl ?_
   refine g_v rfl (r_pick0 rfl rfl) ?_
   refine g_v rfl r_move ?_
   refine g_no rfl rfl rfl rfl rfl rfl ?_
   refine g_no rfl rfl rfl rfl rfl rfl ?_
   refine g_no rfl rfl rfl rfl rfl rfl ?_
   refine g_no rfl rfl rfl rfl rfl rfl ?_
   refine g_no rfl rfl rfl rfl rfl rfl ?_
   refine g_v rfl (r_pick0 rfl rfl) ?_
   refine g_v rfl r_move ?_
   refine g_no rfl rfl rfl rfl rfl rfl ?_
   refine g_no rfl rfl rfl rfl rfl rfl ?_
   refine g_no rfl rfl rfl rfl rfl rfl ?_
   refine g_v rfl (r_pick0 rfl rfl) ?_
   refine g_v rfl r_assign ?_
   refine g_nil ?_
   refine d_then ?_
   refine c_flat [(2, .bool false)] ⟨rfl, trivial⟩ (fun u => ?_)
   refine c_sta ⟨w0, M, H, (100290, ⟨.slice A17 x14.length c18, 9, 1, x14.length, x14.flatMap (fun x : ByteArray => [Value.string x])⟩) :: (100140, ⟨.slice A5 x3.length c6, 9, 1, x3.length, x3.flatMap (fun x : ByteArray => [Value.string x])⟩) :: R, φ⟩ (fun _ h => h) ?_
   refine c_ret ?_
   replace hm := Option.some.inj hm
   subst hm
   refine d_retC () Try.results10 ?_ trivial (fun W h => ok_pre (H1 := []) (R1 := [_, _]) h (fun W hφ => hφ)) (.inr rfl)
   refine res_tmp ?_
   refine res_nil ?_
   exact rfl

end Go.Proofs.Ytdcfemndfnfedaa
