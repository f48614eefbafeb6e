import Derived.Test.YtkmkpodioedlfaaDoorWNTA
set_option maxRecDepth 100000
set_option maxHeartbeats 4000000
set_option linter.unusedVariables false
set_option linter.unusedSimpArgs false
namespace Go.Proofs.YtkmkpodioedlfaaDoor
open Go.RowKit Go.Proofs.YtkmkpodioedlfaaDoorW.PrintLast
noncomputable def m_law03_NameTexts (p0 : ByteArray) (p1 : ByteArray) : Option Bool :=
  (m_law03_awake).bind fun x1 =>
  (m_law03_short p0 300).bind fun x3 =>
  (m_law03_short p1 600).bind fun x5 =>
  (m_name_Parse x5).bind fun (z10 : ByteArray × Int) =>
  (m_ref03_Parse x5).bind fun (z14 : ByteArray × Int) =>
  if x1 = true then
    (m_name_Text x3).bind fun x16 =>
    (m_ref03_Text x3).bind fun x18 =>
    if x16 = x18 then
      if z10.1 = z14.1 then
        some (decide (z10.2 = z14.2))
      else
        some false
    else
      some false
  else
    some false
theorem c_law03_NameTexts {w0 : World} {M : Nat → Prop} {H : List (Nat × Nat × Obj)} {R : List (Nat × Row)} {φ : World → Prop} (hT : TabP Tryd.prog w0) (p0 : ByteArray) (p1 : ByteArray) (r : Bool) (hm : m_law03_NameTexts p0 p1 = some r) :
    Cn Tryd.prog 3 #[.string p0, .string p1] ⟨w0, M, H, R, φ⟩ (fun x : Unit => .bool r) (fun x => True) (fun x => ⟨w0, M, H, R, φ⟩) := by
 unfold m_law03_NameTexts at hm
 refine cn_intro (fn := Tryd.f3) (N := 43) Tryd.func3 rfl Tryd.ntmps3 rfl <| c_seq <| c_region <| g_v rfl r_assign <| g_nil <| d_then <| c_seq <| c_region ?_
 replace hm := bnd hm
 obtain ⟨x1, hx2, hm⟩ := hm
 refine g_cn ⟨w0, M, _, _, φ⟩ (fun _ h => h) Tryd.call4 rfl rfl (c_law03_awake  _ hx2) (fun _ _ => ?_)
 refine g_v rfl r_assign <| g_nil <| d_then <| c_seq <| c_region <| g_v rfl r_move ?_
 replace hm := bnd hm
 obtain ⟨x3, hx4, hm⟩ := hm
 refine g_cn ⟨w0, M, _, _, φ⟩ (fun _ h => h) Tryd.call5 rfl rfl (c_law03_short p0 300 _ hx4) (fun _ _ => ?_)
 refine g_v rfl r_assign <| g_nil <| d_then <| c_seq <| c_region <| g_v rfl r_move ?_
 replace hm := bnd hm
 obtain ⟨x5, hx6, hm⟩ := hm
 refine g_cn ⟨w0, M, _, _, φ⟩ (fun _ h => h) Tryd.call5 rfl rfl (c_law03_short p1 600 _ hx6) (fun _ _ => ?_)
 refine g_v rfl r_assign <| g_nil <| d_then ?_
 refine c_flat [(0, .string x3), (1, .string x5), (5, .bool x1)] ⟨rfl, rfl, rfl, trivial⟩ (fun u => ?_)
 refine c_sta ⟨w0, M, H, R, φ⟩ (fun _ h => h) <| c_seq <| c_region <| g_v rfl r_move ?_
 replace hm := bnd hm
 obtain ⟨⟨x7, x8⟩, hx9, hm⟩ := hm
 refine g_cn ⟨w0, M, _, _, φ⟩ (fun _ h => h) Tryd.call6 rfl rfl (c_name_Parse x5 _ hx9) (fun _ _ => ?_)
 refine g_v rfl r_move <| g_v rfl (r_extract rfl rfl) <| g_v rfl (r_extract rfl rfl) <| g_v rfl r_assign <| g_v rfl r_assign <| g_nil <| d_then <| c_seq <| c_region <| g_v rfl r_move ?_
 replace hm := bnd hm
 obtain ⟨⟨x11, x12⟩, hx13, hm⟩ := hm
 refine g_cn ⟨w0, M, _, _, φ⟩ (fun _ h => h) Tryd.call7 rfl rfl (c_ref03_Parse x5 _ hx13) (fun _ _ => ?_)
 refine g_v rfl r_move <| g_v rfl (r_extract rfl rfl) <| g_v rfl (r_extract rfl rfl) <| g_v rfl r_assign <| g_v rfl r_assign <| g_nil <| d_then ?_
 refine c_flat [(0, .string x3), (5, .bool x1), (6, .string x7), (7, .int .i64 x8), (8, .string x11), (9, .int .i64 x12)] ⟨rfl, rfl, rfl, rfl, rfl, rfl, trivial⟩ (fun u => ?_)
 refine c_seq <| c_region <| g_v rfl r_move <| g_v rfl r_move ?_
 refine g_if rfl rfl rfl rfl rfl (fun h15 => ?_) (fun h15 => ?_)
 ·
  replace hm := ite_t hm h15
  refine g_v rfl r_move <| g_do rfl rfl rfl rfl rfl h15 ?_
  replace hm := bnd hm
  obtain ⟨x16, hx17, hm⟩ := hm
  refine g_cn ⟨w0, M, _, _, φ⟩ (fun _ h => h) Tryd.call8 rfl rfl (c_name_Text x3 _ hx17) (fun _ _ => ?_)
  refine g_do rfl rfl rfl rfl rfl h15 <| g_v rfl r_move <| g_do rfl rfl rfl rfl rfl h15 ?_
  replace hm := bnd hm
  obtain ⟨x18, hx19, hm⟩ := hm
  refine g_cn ⟨w0, M, _, _, φ⟩ (fun _ h => h) Tryd.call9 rfl rfl (c_ref03_Text hT x3 _ hx19) (fun _ _ => ?_)
  refine g_do rfl rfl rfl rfl rfl h15 <| g_v rfl (r_eqlT rfl rfl) <| g_v rfl (r_pick1 rfl h15) <| g_v rfl r_move ?_
  refine g_if rfl rfl rfl rfl rfl (fun h20 => ?_) (fun h20 => ?_)
  ·
   replace hm := ite_t hm (of_decide_eq_true h20)
   refine g_v rfl r_move <| g_do rfl rfl rfl rfl rfl h20 <| g_v rfl r_move <| g_do rfl rfl rfl rfl rfl h20 <| g_v rfl (r_eqlT rfl rfl) <| g_v rfl (r_pick1 rfl h20) <| g_v rfl r_move ?_
   refine g_if rfl rfl rfl rfl rfl (fun h21 => ?_) (fun h21 => ?_)
   ·
    replace hm := ite_t hm (of_decide_eq_true h21)
    refine g_v rfl r_move <| g_do rfl rfl rfl rfl rfl h21 <| g_v rfl r_move <| g_do rfl rfl rfl rfl rfl h21 <| g_v rfl (r_eql rfl rfl) <| g_v rfl (r_pick1 rfl h21) <| g_v rfl r_assign <| g_nil <| d_then ?_
    refine c_flat [(4, .bool (decide (x8 = x12)))] ⟨rfl, trivial⟩ (fun u => ?_)
    refine c_ret ?_
    cases hm
    exact d_retC () Tryd.results3 (res_tmp (res_nil rfl)) trivial (fun W h => ok_pre (H1 := []) (R1 := []) h (fun W hφ => hφ)) (.inr rfl)
   replace hm := ite_f hm (of_decide_eq_false h21)
   refine g_no rfl rfl rfl rfl rfl h21 <| g_no rfl rfl rfl rfl rfl h21 <| g_v rfl (r_pick0 rfl h21) <| g_v rfl r_assign <| g_nil <| d_then ?_
   refine c_flat [(4, .bool false)] ⟨rfl, trivial⟩ (fun u => ?_)
   refine c_ret ?_
   cases hm
   exact d_retC () Tryd.results3 (res_tmp (res_nil rfl)) trivial (fun W h => ok_pre (H1 := []) (R1 := []) h (fun W hφ => hφ)) (.inr rfl)
  replace hm := ite_f hm (of_decide_eq_false h20)
  refine g_no rfl rfl rfl rfl rfl h20 <| g_no rfl rfl rfl rfl rfl h20 <| g_v rfl (r_pick0 rfl h20) <| g_v rfl r_move ?_
  iterate 3 refine g_no rfl rfl rfl rfl rfl rfl ?_
  refine g_v rfl (r_pick0 rfl rfl) <| g_v rfl r_assign <| g_nil <| d_then ?_
  refine c_flat [(4, .bool false)] ⟨rfl, trivial⟩ (fun u => ?_)
  refine c_ret ?_
  cases hm
  exact d_retC () Tryd.results3 (res_tmp (res_nil rfl)) trivial (fun W h => ok_pre (H1 := []) (R1 := []) h (fun W hφ => hφ)) (.inr rfl)
 replace hm := ite_f hm (bool_nt h15)
 iterate 4 refine g_no rfl rfl rfl rfl rfl h15 ?_
 refine g_v rfl (r_pick0 rfl h15) <| g_v rfl r_move ?_
 iterate 3 refine g_no rfl rfl rfl rfl rfl rfl ?_
 refine g_v rfl (r_pick0 rfl rfl) <| g_v rfl r_move ?_
 iterate 3 refine g_no rfl rfl rfl rfl rfl rfl ?_
 refine g_v rfl (r_pick0 rfl rfl) <| g_v rfl r_assign <| g_nil <| d_then <| c_ret ?_
 cases hm
 exact d_retC () Tryd.results3 (res_tmp (res_nil rfl)) trivial (fun W h => ok_pre (H1 := []) (R1 := []) h (fun W hφ => hφ)) (.inr rfl)
end Go.Proofs.YtkmkpodioedlfaaDoor
