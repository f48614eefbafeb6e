import Derived.Test.YtpdhdpefdgndeaaWRNA
set_option maxRecDepth 100000
set_option maxHeartbeats 4000000
set_option linter.unusedVariables false
set_option linter.unusedSimpArgs false
namespace Go.Proofs.Ytpdhdpefdgndeaa
open Go.RowKit Go.Proofs.YtpdhdpefdgndeaaW.PrintLast
noncomputable def m_record_Get_j3 (x3 : ByteArray) (x14 : Int) (i27 : Int) (i36 : Int) (x55 : Int) (s86 : ByteArray) : Option (GRR × Int × Int) :=
  (m_record_Check (⟨x3, x14, i27, i36, s86⟩ : GRR)).bind fun x87 =>
  if x87 ≠ 0 then
    (m_record_Get_c1 x87).bind fun (z94 : GRR × Int × Int) =>
    some (z94.1, z94.2.1, z94.2.2)
  else
    some ((⟨x3, x14, i27, i36, s86⟩ : GRR), x55, 0)
noncomputable def m_record_Get_j2 (p0 : ByteArray) (x14 : Int) (x3 : ByteArray) (i27 : Int) (i34 : Int) (i35 : Int) (i36 : Int) : Option (GRR × Int × Int) :=
  if i35 ≠ 0 then
    (m_record_Get_c1 i35).bind fun (z42 : GRR × Int × Int) =>
    some (z42.1, z42.2.1, z42.2.2)
  else
    (m_pack_Word p0 i34).bind fun (z47 : Int × Int × Int) =>
    if z47.2.2 ≠ 0 then
      (m_record_Get_c1 z47.2.2).bind fun (z53 : GRR × Int × Int) =>
      some (z53.1, z53.2.1, z53.2.2)
    else
      (m_pack_Raw p0 z47.2.1 (w64 z47.1)).bind fun (z58 : ByteArray × Int × Int) =>
      if z58.2.2 ≠ 0 then
        (m_record_Get_c1 z58.2.2).bind fun (z64 : GRR × Int × Int) =>
        some (z64.1, z64.2.1, z64.2.2)
      else
        (m_record_shapeOf x14).bind fun x65 =>
        if 0 < x65.fnames then
          (m_record_full p0 z47.2.1 x65).bind fun (z100 : ByteArray × Int × Int) =>
          if z100.2.2 ≠ 0 then
            (m_record_Get_c1 z100.2.2).bind fun (z106 : GRR × Int × Int) =>
            some (z106.1, z106.2.1, z106.2.2)
          else
            if z100.2.1 ≠ z58.2.1 then
              (m_record_Get_c1 10).bind fun (z112 : GRR × Int × Int) =>
              some (z112.1, z112.2.1, z112.2.2)
            else
              m_record_Get_j3 x3 x14 i27 i36 z58.2.1 z100.1
        else
          m_record_Get_j3 x3 x14 i27 i36 z58.2.1 z58.1
noncomputable def m_record_Get_j1 (p0 : ByteArray) (x14 : Int) (x3 : ByteArray) (i25 : Int) (i26 : Int) (i27 : Int) : Option (GRR × Int × Int) :=
  if i26 = 0 then
    (m_pack_Long p0 i25).bind fun (z118 : Int × Int × Int) =>
    m_record_Get_j2 p0 x14 x3 i27 z118.2.1 z118.2.2 z118.1
  else
    m_record_Get_j2 p0 x14 x3 i27 i25 i26 0
noncomputable def m_record_Get (p0 : ByteArray) (p1 : Int) : Option (GRR × Int × Int) :=
  (m_pack_Name p0 p1).bind fun (z7 : ByteArray × Int × Int) =>
  if z7.2.2 ≠ 0 then
    (m_record_Get_c1 z7.2.2).bind fun (z13 : GRR × Int × Int) =>
    some (z13.1, z13.2.1, z13.2.2)
  else
    (m_pack_Word p0 z7.2.1).bind fun (z18 : Int × Int × Int) =>
    if z18.2.2 = 0 then
      (m_pack_Word p0 z18.2.1).bind fun (z124 : Int × Int × Int) =>
      m_record_Get_j1 p0 z18.1 z7.1 z124.2.1 z124.2.2 z124.1
    else
      m_record_Get_j1 p0 z18.1 z7.1 z18.2.1 z18.2.2 0
theorem c_record_Get {w0 : World} {M : Nat → Prop} {H : List (Nat × Nat × Obj)} {R : List (Nat × Row)} {φ : World → Prop} (p0 : ByteArray) (p1 : Int) (r : GRR × Int × Int) (hm : m_record_Get p0 p1 = some r) :
    Cn Try.prog 18 #[.string p0, .int .i64 p1] ⟨w0, M, H, R, φ⟩ (fun x : Unit => .tuple #[.agg #[.string r.1.fName, .int .u16 r.1.fType, .int .u16 r.1.fClass, .int .u32 r.1.fTTL, .string r.1.fData], .int .i64 r.2.1, .int .i64 r.2.2]) (fun x => True) (fun x => ⟨w0, M, H, R, φ⟩) := by
 unfold m_record_Get at hm
 refine cn_intro (fn := Try.f18) (N := 151) Try.func18 rfl Try.ntmps18 rfl ?_
 refine c_seq ?_
 refine c_region ?_
 refine g_e rfl (e_alloc 100040 Try.zeroValue27) (fun g1 _ => ?_)
 refine g_v rfl r_assign ?_
 refine g_v rfl r_assign ?_
 refine g_nil ?_
 refine d_then ?_
 refine c_seq ?_
 refine c_region ?_
 refine g_e rfl (e_alloc 100070 Try.zeroValue27) (fun g2 _ => ?_)
 refine g_nil ?_
 refine d_then ?_
 refine c_seq ?_
 refine c_region ?_
 refine g_v rfl r_assign ?_
 refine g_nil ?_
 refine d_then ?_
 refine c_seq ?_
 refine c_region ?_
 refine g_v rfl r_move ?_
 refine g_v rfl r_move ?_
 replace hm := bnd hm
 obtain ⟨⟨x3, x4, x5⟩, hx6, hm⟩ := hm
 refine g_cn ⟨w0, M, _, _, φ⟩ (fun _ h => h) Try.call57 rfl rfl (c_pack_Name p0 p1 _ hx6) (fun _ _ => ?_)
 refine g_v rfl r_move ?_
 refine g_v rfl (r_extract rfl rfl) ?_
 refine g_v rfl (r_extract rfl rfl) ?_
 refine g_v rfl (r_extract rfl rfl) ?_
 refine g_v rfl r_assign ?_
 refine g_v rfl r_assign ?_
 refine g_v rfl r_assign ?_
 refine g_nil ?_
 refine d_then ?_
 refine c_flat [(0, .string p0), (1, .int .i64 x4), (4, .pointer (some ⟨g1, 0, none⟩)), (7, .pointer (some ⟨g2, 0, none⟩)), (8, .func (.func 56) #[] #[]), (9, .string x3), (10, .int .i64 x5)] ⟨rfl, rfl, rfl, rfl, rfl, rfl, rfl, trivial⟩ (fun u => ?_)
 refine c_sta ⟨w0, M, (100070, g2, .cells #[.string (⟨#[]⟩ : ByteArray), .int .u16 0, .int .u16 0, .int .u32 0, .string (⟨#[]⟩ : ByteArray)] 27 (0, 0)) :: (100040, g1, .cells #[.string (⟨#[]⟩ : ByteArray), .int .u16 0, .int .u16 0, .int .u32 0, .string (⟨#[]⟩ : ByteArray)] 27 (0, 0)) :: H, R, φ⟩ (fun _ h => h) ?_
 refine c_seq ?_
 refine c_seq ?_
 refine c_region ?_
 refine g_v rfl r_move ?_
 refine g_v rfl (r_neq rfl rfl) ?_
 refine g_nil ?_
 refine d_then ?_
 refine c_cond rfl (fun h8 => ?_) (fun h8 => ?_)
 ·
  replace hm := ite_t hm (of_decide_eq_true h8)
  refine c_seq ?_
  refine c_region ?_
  refine g_v rfl r_move ?_
  refine g_v rfl r_move ?_
  replace hm := bnd hm
  obtain ⟨⟨x9, x10, x11⟩, hx12, hm⟩ := hm
  refine g_cnv ⟨w0, M, _, _, φ⟩ (fun _ h => h) Try.call56 rfl rfl rfl (c_record_Get_c1 x5 _ hx12) (fun _ _ => ?_)
  refine g_v rfl (r_extract rfl rfl) ?_
  refine g_v rfl (r_extract rfl rfl) ?_
  refine g_v rfl (r_extract rfl rfl) ?_
  refine g_storeL (tag := 100040) rfl rfl rfl rfl Try.sizeOf27 rfl rfl ?_
  refine g_v rfl r_assign ?_
  refine g_v rfl r_assign ?_
  refine g_nil ?_
  refine d_then ?_
  refine c_flat [(4, .pointer (some ⟨g1, 0, none⟩)), (5, .int .i64 x10), (6, .int .i64 x11)] ⟨rfl, rfl, rfl, trivial⟩ (fun u => ?_)
  refine c_sta ⟨w0, M, (100070, g2, .cells #[.string (⟨#[]⟩ : ByteArray), .int .u16 0, .int .u16 0, .int .u32 0, .string (⟨#[]⟩ : ByteArray)] 27 (0, 0)) :: (100040, g1, .cells #[.string x9.fName, .int .u16 x9.fType, .int .u16 x9.fClass, .int .u32 x9.fTTL, .string x9.fData] 27 (0, 0)) :: H, R, φ⟩ (fun _ h => h) ?_
  refine c_ret ?_
  refine d_ret_then ?_
  replace hm := Option.some.inj hm
  subst hm
  refine d_retC () Try.results18 ?_ trivial (fun W h => ok_pre (H1 := [_, _]) (R1 := []) h (fun W hφ => hφ)) (.inr rfl)
  refine res_agg (tag := 100040) rfl rfl Try.isAgg27 Try.sizeOf27 ?_
  refine res_tmp ?_
  refine res_tmp ?_
  refine res_nil ?_
  exact rfl
 ·
  replace hm := ite_f hm (of_decide_eq_false h8)
  refine c_skip ?_
  refine d_then ?_
  refine c_seq ?_
  refine c_region ?_
  refine g_v rfl r_move ?_
  refine g_v rfl (r_field (n := 0) Try.underlying27 rfl Try.sizeOf9 rfl rfl) ?_
  refine g_storeL (tag := 100070) rfl rfl rfl rfl Try.sizeOf9 rfl rfl ?_
  refine g_nil ?_
  refine d_then ?_
  refine c_seq ?_
  refine c_region ?_
  refine g_v rfl r_move ?_
  refine g_v rfl r_move ?_
  replace hm := bnd hm
  obtain ⟨⟨x14, x15, x16⟩, hx17, hm⟩ := hm
  refine g_cn ⟨w0, M, _, _, φ⟩ (fun _ h => h) Try.call58 rfl rfl (c_pack_Word p0 x4 _ hx17) (fun _ _ => ?_)
  refine g_v rfl r_move ?_
  refine g_v rfl (r_extract rfl rfl) ?_
  refine g_v rfl (r_extract rfl rfl) ?_
  refine g_v rfl (r_extract rfl rfl) ?_
  refine g_v rfl (r_field (n := 1) Try.underlying27 rfl Try.sizeOf24 rfl rfl) ?_
  refine g_storeL (tag := 100070) rfl rfl rfl rfl Try.sizeOf24 rfl rfl ?_
  refine g_v rfl r_assign ?_
  refine g_v rfl r_assign ?_
  refine g_nil ?_
  refine d_then ?_
  refine c_flat [(0, .string p0), (1, .int .i64 x15), (4, .pointer (some ⟨g1, 0, none⟩)), (7, .pointer (some ⟨g2, 0, none⟩)), (8, .func (.func 56) #[] #[]), (10, .int .i64 x16)] ⟨rfl, rfl, rfl, rfl, rfl, rfl, trivial⟩ (fun u => ?_)
  refine c_sta ⟨w0, M, (100070, g2, .cells #[.string x3, .int .u16 x14, .int .u16 0, .int .u32 0, .string (⟨#[]⟩ : ByteArray)] 27 (0, 0)) :: (100040, g1, .cells #[.string (⟨#[]⟩ : ByteArray), .int .u16 0, .int .u16 0, .int .u32 0, .string (⟨#[]⟩ : ByteArray)] 27 (0, 0)) :: H, R, φ⟩ (fun _ h => h) ?_
  refine c_seq ?_
  refine c_cut (ι := Int × Int × Int) [0, 1, 4, 7, 8, 10] (fun ⟨i25, i26, i27⟩ => [(1, .int .i64 i25), (10, .int .i64 i26)]) (fun ⟨i25, i26, i27⟩ => ⟨w0, M, (100070, g2, .cells #[.string x3, .int .u16 x14, .int .u16 i27, .int .u32 0, .string (⟨#[]⟩ : ByteArray)] 27 (0, 0)) :: (100040, g1, .cells #[.string (⟨#[]⟩ : ByteArray), .int .u16 0, .int .u16 0, .int .u32 0, .string (⟨#[]⟩ : ByteArray)] 27 (0, 0)) :: H, R, φ⟩) (fun ⟨i25, i26, i27⟩ => m_record_Get_j1 p0 x14 x3 i25 i26 i27 = some r) ?_ (fun ⟨i25, i26, i27⟩ u hm => ?_)
  ·
   refine c_seq ?_
   refine c_region ?_
   refine g_v rfl r_move ?_
   refine g_v rfl (r_eql rfl rfl) ?_
   refine g_nil ?_
   refine d_then ?_
   refine c_cond rfl (fun h119 => ?_) (fun h119 => ?_)
   ·
    replace hm := ite_t hm (of_decide_eq_true h119)
    refine c_region ?_
    refine g_v rfl r_move ?_
    refine g_v rfl r_move ?_
    replace hm := bnd hm
    obtain ⟨⟨x120, x121, x122⟩, hx123, hm⟩ := hm
    refine g_cn ⟨w0, M, _, _, φ⟩ (fun _ h => h) Try.call58 rfl rfl (c_pack_Word p0 x15 _ hx123) (fun _ _ => ?_)
    refine g_v rfl r_move ?_
    refine g_v rfl (r_extract rfl rfl) ?_
    refine g_v rfl (r_extract rfl rfl) ?_
    refine g_v rfl (r_extract rfl rfl) ?_
    refine g_v rfl (r_field (n := 2) Try.underlying27 rfl Try.sizeOf24 rfl rfl) ?_
    refine g_storeL (tag := 100070) rfl rfl rfl rfl Try.sizeOf24 rfl rfl ?_
    refine g_v rfl r_assign ?_
    refine g_v rfl r_assign ?_
    refine g_nil ?_
    exact d_round (x121, x122, x120) hm Nat.zero_lt_one ⟨rfl, rfl, rfl, rfl, rfl, rfl, trivial⟩ (fun W h => h.phi (fun W hφ => hφ))
   ·
    replace hm := ite_f hm (of_decide_eq_false h119)
    refine c_skip ?_
    exact d_round (x15, x16, 0) hm Nat.zero_lt_one ⟨rfl, rfl, rfl, rfl, rfl, rfl, trivial⟩ (fun W h => h.phi (fun W hφ => hφ))
  ·
   unfold m_record_Get_j1 at hm
   refine d_flat [(0, .string p0), (1, .int .i64 i25), (4, .pointer (some ⟨g1, 0, none⟩)), (7, .pointer (some ⟨g2, 0, none⟩)), (8, .func (.func 56) #[] #[]), (10, .int .i64 i26)] ⟨rfl, rfl, rfl, rfl, rfl, rfl, trivial⟩ (fun u => ?_)
   refine d_sta ⟨w0, M, (100070, g2, .cells #[.string x3, .int .u16 x14, .int .u16 i27, .int .u32 0, .string (⟨#[]⟩ : ByteArray)] 27 (0, 0)) :: (100040, g1, .cells #[.string (⟨#[]⟩ : ByteArray), .int .u16 0, .int .u16 0, .int .u32 0, .string (⟨#[]⟩ : ByteArray)] 27 (0, 0)) :: H, R, φ⟩ (fun _ h => h) ?_
   refine d_then ?_
   refine c_seq ?_
   refine c_cut (ι := Int × Int × Int) [0, 1, 4, 7, 8, 10] (fun ⟨i34, i35, i36⟩ => [(1, .int .i64 i34), (10, .int .i64 i35)]) (fun ⟨i34, i35, i36⟩ => ⟨w0, M, (100070, g2, .cells #[.string x3, .int .u16 x14, .int .u16 i27, .int .u32 i36, .string (⟨#[]⟩ : ByteArray)] 27 (0, 0)) :: (100040, g1, .cells #[.string (⟨#[]⟩ : ByteArray), .int .u16 0, .int .u16 0, .int .u32 0, .string (⟨#[]⟩ : ByteArray)] 27 (0, 0)) :: H, R, φ⟩) (fun ⟨i34, i35, i36⟩ => m_record_Get_j2 p0 x14 x3 i27 i34 i35 i36 = some r) ?_ (fun ⟨i34, i35, i36⟩ u hm => ?_)
   ·
    refine c_seq ?_
    refine c_region ?_
    refine g_v rfl r_move ?_
    refine g_v rfl (r_eql rfl rfl) ?_
    refine g_nil ?_
    refine d_then ?_
    refine c_cond rfl (fun h113 => ?_) (fun h113 => ?_)
    ·
     replace hm := ite_t hm (of_decide_eq_true h113)
     refine c_region ?_
     refine g_v rfl r_move ?_
     refine g_v rfl r_move ?_
     replace hm := bnd hm
     obtain ⟨⟨x114, x115, x116⟩, hx117, hm⟩ := hm
     refine g_cn ⟨w0, M, _, _, φ⟩ (fun _ h => h) Try.call59 rfl rfl (c_pack_Long p0 i25 _ hx117) (fun _ _ => ?_)
     refine g_v rfl r_move ?_
     refine g_v rfl (r_extract rfl rfl) ?_
     refine g_v rfl (r_extract rfl rfl) ?_
     refine g_v rfl (r_extract rfl rfl) ?_
     refine g_v rfl (r_field (n := 3) Try.underlying27 rfl Try.sizeOf25 rfl rfl) ?_
     refine g_storeL (tag := 100070) rfl rfl rfl rfl Try.sizeOf25 rfl rfl ?_
     refine g_v rfl r_assign ?_
     refine g_v rfl r_assign ?_
     refine g_nil ?_
     exact d_round (x115, x116, x114) hm Nat.zero_lt_one ⟨rfl, rfl, rfl, rfl, rfl, rfl, trivial⟩ (fun W h => h.phi (fun W hφ => hφ))
    ·
     replace hm := ite_f hm (of_decide_eq_false h113)
     refine c_skip ?_
     exact d_round (i25, i26, 0) hm Nat.zero_lt_one ⟨rfl, rfl, rfl, rfl, rfl, rfl, trivial⟩ (fun W h => h.phi (fun W hφ => hφ))
   ·
    unfold m_record_Get_j2 at hm
    refine d_flat [(0, .string p0), (1, .int .i64 i34), (4, .pointer (some ⟨g1, 0, none⟩)), (7, .pointer (some ⟨g2, 0, none⟩)), (8, .func (.func 56) #[] #[]), (10, .int .i64 i35)] ⟨rfl, rfl, rfl, rfl, rfl, rfl, trivial⟩ (fun u => ?_)
    refine d_sta ⟨w0, M, (100070, g2, .cells #[.string x3, .int .u16 x14, .int .u16 i27, .int .u32 i36, .string (⟨#[]⟩ : ByteArray)] 27 (0, 0)) :: (100040, g1, .cells #[.string (⟨#[]⟩ : ByteArray), .int .u16 0, .int .u16 0, .int .u32 0, .string (⟨#[]⟩ : ByteArray)] 27 (0, 0)) :: H, R, φ⟩ (fun _ h => h) ?_
    refine d_then ?_
    refine c_seq ?_
    refine c_seq ?_
    refine c_region ?_
    refine g_v rfl r_move ?_
    refine g_v rfl (r_neq rfl rfl) ?_
    refine g_nil ?_
    refine d_then ?_
    refine c_cond rfl (fun h37 => ?_) (fun h37 => ?_)
    ·
     replace hm := ite_t hm (of_decide_eq_true h37)
     refine c_seq ?_
     refine c_region ?_
     refine g_v rfl r_move ?_
     refine g_v rfl r_move ?_
     replace hm := bnd hm
     obtain ⟨⟨x38, x39, x40⟩, hx41, hm⟩ := hm
     refine g_cnv ⟨w0, M, _, _, φ⟩ (fun _ h => h) Try.call56 rfl rfl rfl (c_record_Get_c1 i35 _ hx41) (fun _ _ => ?_)
     refine g_v rfl (r_extract rfl rfl) ?_
     refine g_v rfl (r_extract rfl rfl) ?_
     refine g_v rfl (r_extract rfl rfl) ?_
     refine g_storeL (tag := 100040) rfl rfl rfl rfl Try.sizeOf27 rfl rfl ?_
     refine g_v rfl r_assign ?_
     refine g_v rfl r_assign ?_
     refine g_nil ?_
     refine d_then ?_
     refine c_flat [(4, .pointer (some ⟨g1, 0, none⟩)), (5, .int .i64 x39), (6, .int .i64 x40)] ⟨rfl, rfl, rfl, trivial⟩ (fun u => ?_)
     refine c_sta ⟨w0, M, (100070, g2, .cells #[.string x3, .int .u16 x14, .int .u16 i27, .int .u32 i36, .string (⟨#[]⟩ : ByteArray)] 27 (0, 0)) :: (100040, g1, .cells #[.string x38.fName, .int .u16 x38.fType, .int .u16 x38.fClass, .int .u32 x38.fTTL, .string x38.fData] 27 (0, 0)) :: H, R, φ⟩ (fun _ h => h) ?_
     refine c_ret ?_
     refine d_ret_then ?_
     replace hm := Option.some.inj hm
     subst hm
     refine d_retC () Try.results18 ?_ trivial (fun W h => ok_pre (H1 := [_, _]) (R1 := []) h (fun W hφ => hφ)) (.inr rfl)
     refine res_agg (tag := 100040) rfl rfl Try.isAgg27 Try.sizeOf27 ?_
     refine res_tmp ?_
     refine res_tmp ?_
     refine res_nil ?_
     exact rfl
    ·
     replace hm := ite_f hm (of_decide_eq_false h37)
     refine c_skip ?_
     refine d_then ?_
     refine c_seq ?_
     refine c_region ?_
     refine g_v rfl r_move ?_
     refine g_v rfl r_move ?_
     replace hm := bnd hm
     obtain ⟨⟨x43, x44, x45⟩, hx46, hm⟩ := hm
     refine g_cn ⟨w0, M, _, _, φ⟩ (fun _ h => h) Try.call58 rfl rfl (c_pack_Word p0 i34 _ hx46) (fun _ _ => ?_)
     refine g_v rfl r_move ?_
     refine g_v rfl (r_extract rfl rfl) ?_
     refine g_v rfl (r_extract rfl rfl) ?_
     refine g_v rfl (r_extract rfl rfl) ?_
     refine g_v rfl r_assign ?_
     refine g_v rfl r_assign ?_
     refine g_v rfl r_assign ?_
     refine g_nil ?_
     refine d_then ?_
     refine c_flat [(0, .string p0), (1, .int .i64 x44), (4, .pointer (some ⟨g1, 0, none⟩)), (7, .pointer (some ⟨g2, 0, none⟩)), (8, .func (.func 56) #[] #[]), (10, .int .i64 x45), (11, .int .u16 x43)] ⟨rfl, rfl, rfl, rfl, rfl, rfl, rfl, trivial⟩ (fun u => ?_)
     refine c_sta ⟨w0, M, (100070, g2, .cells #[.string x3, .int .u16 x14, .int .u16 i27, .int .u32 i36, .string (⟨#[]⟩ : ByteArray)] 27 (0, 0)) :: (100040, g1, .cells #[.string (⟨#[]⟩ : ByteArray), .int .u16 0, .int .u16 0, .int .u32 0, .string (⟨#[]⟩ : ByteArray)] 27 (0, 0)) :: H, R, φ⟩ (fun _ h => h) ?_
     refine c_seq ?_
     refine c_seq ?_
     refine c_region ?_
     refine g_v rfl r_move ?_
     refine g_v rfl (r_neq rfl rfl) ?_
     refine g_nil ?_
     refine d_then ?_
     refine c_cond rfl (fun h48 => ?_) (fun h48 => ?_)
     ·
      replace hm := ite_t hm (of_decide_eq_true h48)
      refine c_seq ?_
      refine c_region ?_
      refine g_v rfl r_move ?_
      refine g_v rfl r_move ?_
      replace hm := bnd hm
      obtain ⟨⟨x49, x50, x51⟩, hx52, hm⟩ := hm
      refine g_cnv ⟨w0, M, _, _, φ⟩ (fun _ h => h) Try.call56 rfl rfl rfl (c_record_Get_c1 x45 _ hx52) (fun _ _ => ?_)
      refine g_v rfl (r_extract rfl rfl) ?_
      refine g_v rfl (r_extract rfl rfl) ?_
      refine g_v rfl (r_extract rfl rfl) ?_
      refine g_storeL (tag := 100040) rfl rfl rfl rfl Try.sizeOf27 rfl rfl ?_
      refine g_v rfl r_assign ?_
      refine g_v rfl r_assign ?_
      refine g_nil ?_
      refine d_then ?_
      refine c_flat [(4, .pointer (some ⟨g1, 0, none⟩)), (5, .int .i64 x50), (6, .int .i64 x51)] ⟨rfl, rfl, rfl, trivial⟩ (fun u => ?_)
      refine c_sta ⟨w0, M, (100070, g2, .cells #[.string x3, .int .u16 x14, .int .u16 i27, .int .u32 i36, .string (⟨#[]⟩ : ByteArray)] 27 (0, 0)) :: (100040, g1, .cells #[.string x49.fName, .int .u16 x49.fType, .int .u16 x49.fClass, .int .u32 x49.fTTL, .string x49.fData] 27 (0, 0)) :: H, R, φ⟩ (fun _ h => h) ?_
      refine c_ret ?_
      refine d_ret_then ?_
      replace hm := Option.some.inj hm
      subst hm
      refine d_retC () Try.results18 ?_ trivial (fun W h => ok_pre (H1 := [_, _]) (R1 := []) h (fun W hφ => hφ)) (.inr rfl)
      refine res_agg (tag := 100040) rfl rfl Try.isAgg27 Try.sizeOf27 ?_
      refine res_tmp ?_
      refine res_tmp ?_
      refine res_nil ?_
      exact rfl
     ·
      replace hm := ite_f hm (of_decide_eq_false h48)
      refine c_skip ?_
      refine d_then ?_
      refine c_seq ?_
      refine c_region ?_
      refine g_v rfl r_move ?_
      refine g_v rfl r_move ?_
      refine g_v rfl r_move ?_
      refine g_v rfl (r_conv Try.underlying24 Try.underlying3 rfl rfl) ?_
      replace hm := bnd hm
      obtain ⟨⟨x54, x55, x56⟩, hx57, hm⟩ := hm
      refine g_cn ⟨w0, M, _, _, φ⟩ (fun _ h => h) Try.call60 rfl rfl (c_pack_Raw p0 x44 (w64 x43) _ hx57) (fun _ _ => ?_)
      refine g_v rfl r_move ?_
      refine g_v rfl (r_extract rfl rfl) ?_
      refine g_v rfl (r_extract rfl rfl) ?_
      refine g_v rfl (r_extract rfl rfl) ?_
      refine g_v rfl r_assign ?_
      refine g_v rfl r_assign ?_
      refine g_v rfl r_assign ?_
      refine g_nil ?_
      refine d_then ?_
      refine c_flat [(0, .string p0), (1, .int .i64 x44), (4, .pointer (some ⟨g1, 0, none⟩)), (7, .pointer (some ⟨g2, 0, none⟩)), (8, .func (.func 56) #[] #[]), (10, .int .i64 x56), (12, .string x54), (13, .int .i64 x55)] ⟨rfl, rfl, rfl, rfl, rfl, rfl, rfl, rfl, trivial⟩ (fun u => ?_)
      refine c_sta ⟨w0, M, (100070, g2, .cells #[.string x3, .int .u16 x14, .int .u16 i27, .int .u32 i36, .string (⟨#[]⟩ : ByteArray)] 27 (0, 0)) :: (100040, g1, .cells #[.string (⟨#[]⟩ : ByteArray), .int .u16 0, .int .u16 0, .int .u32 0, .string (⟨#[]⟩ : ByteArray)] 27 (0, 0)) :: H, R, φ⟩ (fun _ h => h) ?_
      refine c_seq ?_
      refine c_seq ?_
      refine c_region ?_
      refine g_v rfl r_move ?_
      refine g_v rfl (r_neq rfl rfl) ?_
      refine g_nil ?_
      refine d_then ?_
      refine c_cond rfl (fun h59 => ?_) (fun h59 => ?_)
      ·
       replace hm := ite_t hm (of_decide_eq_true h59)
       refine c_seq ?_
       refine c_region ?_
       refine g_v rfl r_move ?_
       refine g_v rfl r_move ?_
       replace hm := bnd hm
       obtain ⟨⟨x60, x61, x62⟩, hx63, hm⟩ := hm
       refine g_cnv ⟨w0, M, _, _, φ⟩ (fun _ h => h) Try.call56 rfl rfl rfl (c_record_Get_c1 x56 _ hx63) (fun _ _ => ?_)
       refine g_v rfl (r_extract rfl rfl) ?_
       refine g_v rfl (r_extract rfl rfl) ?_
       refine g_v rfl (r_extract rfl rfl) ?_
       refine g_storeL (tag := 100040) rfl rfl rfl rfl Try.sizeOf27 rfl rfl ?_
       refine g_v rfl r_assign ?_
       refine g_v rfl r_assign ?_
       refine g_nil ?_
       refine d_then ?_
       refine c_flat [(4, .pointer (some ⟨g1, 0, none⟩)), (5, .int .i64 x61), (6, .int .i64 x62)] ⟨rfl, rfl, rfl, trivial⟩ (fun u => ?_)
       refine c_sta ⟨w0, M, (100070, g2, .cells #[.string x3, .int .u16 x14, .int .u16 i27, .int .u32 i36, .string (⟨#[]⟩ : ByteArray)] 27 (0, 0)) :: (100040, g1, .cells #[.string x60.fName, .int .u16 x60.fType, .int .u16 x60.fClass, .int .u32 x60.fTTL, .string x60.fData] 27 (0, 0)) :: H, R, φ⟩ (fun _ h => h) ?_
       refine c_ret ?_
       refine d_ret_then ?_
       replace hm := Option.some.inj hm
       subst hm
       refine d_retC () Try.results18 ?_ trivial (fun W h => ok_pre (H1 := [_, _]) (R1 := []) h (fun W hφ => hφ)) (.inr rfl)
       refine res_agg (tag := 100040) rfl rfl Try.isAgg27 Try.sizeOf27 ?_
       refine res_tmp ?_
       refine res_tmp ?_
       refine res_nil ?_
       exact rfl
      ·
       replace hm := ite_f hm (of_decide_eq_false h59)
       refine c_skip ?_
       refine d_then ?_
       refine c_seq ?_
       refine c_region ?_
       refine g_v rfl r_move ?_
       refine g_v rfl (r_field (n := 4) Try.underlying27 rfl Try.sizeOf9 rfl rfl) ?_
       refine g_storeL (tag := 100070) rfl rfl rfl rfl Try.sizeOf9 rfl rfl ?_
       refine g_nil ?_
       refine d_then ?_
       refine c_seq ?_
       refine c_region ?_
       refine g_v rfl (r_field (n := 1) Try.underlying27 rfl Try.sizeOf24 rfl rfl) ?_
       refine g_v rfl (r_load (tag := 100070) rfl rfl rfl Try.isAgg24) ?_
       replace hm := bnd hm
       obtain ⟨x65, hx66, hm⟩ := hm
       refine g_cn ⟨w0, M, _, _, φ⟩ (fun _ h => h) Try.call61 rfl rfl (c_record_shapeOf x14 _ hx66) (fun _ _ => ?_)
       refine g_e rfl (e_alloc 100140 Try.zeroValue90) (fun g67 _ => ?_)
       refine g_storeL (tag := 100140) rfl rfl rfl rfl Try.sizeOf90 rfl rfl ?_
       refine g_nil ?_
       refine d_then ?_
       refine c_flat [(0, .string p0), (1, .int .i64 x44), (4, .pointer (some ⟨g1, 0, none⟩)), (7, .pointer (some ⟨g2, 0, none⟩)), (8, .func (.func 56) #[] #[]), (13, .int .i64 x55), (14, .pointer (some ⟨g67, 0, none⟩))] ⟨rfl, rfl, rfl, rfl, rfl, rfl, rfl, trivial⟩ (fun u => ?_)
       refine c_sta ⟨w0, M, (100140, g67, .cells #[.int .i64 x65.fahead, .int .i64 x65.fnames, .int .i64 x65.fbehind] 90 (0, 0)) :: (100070, g2, .cells #[.string x3, .int .u16 x14, .int .u16 i27, .int .u32 i36, .string x54] 27 (0, 0)) :: (100040, g1, .cells #[.string (⟨#[]⟩ : ByteArray), .int .u16 0, .int .u16 0, .int .u32 0, .string (⟨#[]⟩ : ByteArray)] 27 (0, 0)) :: H, R, φ⟩ (fun _ h => h) ?_
       refine c_seq ?_
       refine c_cut (ι := ByteArray) [4, 7, 8, 13] (fun s86 => []) (fun s86 => ⟨w0, M, (100070, g2, .cells #[.string x3, .int .u16 x14, .int .u16 i27, .int .u32 i36, .string s86] 27 (0, 0)) :: (100040, g1, .cells #[.string (⟨#[]⟩ : ByteArray), .int .u16 0, .int .u16 0, .int .u32 0, .string (⟨#[]⟩ : ByteArray)] 27 (0, 0)) :: H, R, φ⟩) (fun s86 => m_record_Get_j3 x3 x14 i27 i36 x55 s86 = some r) ?_ (fun s86 u hm => ?_)
       ·
        refine c_seq ?_
        refine c_region ?_
        refine g_v rfl (r_field (n := 1) Try.underlying90 rfl Try.sizeOf3 rfl rfl) ?_
        refine g_v rfl (r_load (tag := 100140) rfl rfl rfl Try.isAgg3) ?_
        refine g_v rfl (r_gtr rfl rfl) ?_
        refine g_nil ?_
        refine d_then ?_
        refine c_cond rfl (fun h95 => ?_) (fun h95 => ?_)
        ·
         replace hm := ite_t hm (of_decide_eq_true h95)
         refine c_seq ?_
         refine c_region ?_
         refine g_v rfl r_move ?_
         refine g_v rfl r_move ?_
         refine g_v rfl (r_loadA (tag := 100140) rfl rfl Try.isAgg90 Try.sizeOf90 rfl rfl) ?_
         replace hm := bnd hm
         obtain ⟨⟨x96, x97, x98⟩, hx99, hm⟩ := hm
         refine g_cn ⟨w0, M, _, _, φ⟩ (fun _ h => h) Try.call62 rfl rfl (c_record_full p0 x44 x65 _ hx99) (fun _ _ => ?_)
         refine g_v rfl r_move ?_
         refine g_v rfl (r_extract rfl rfl) ?_
         refine g_v rfl (r_extract rfl rfl) ?_
         refine g_v rfl (r_extract rfl rfl) ?_
         refine g_v rfl r_assign ?_
         refine g_v rfl r_assign ?_
         refine g_v rfl r_assign ?_
         refine g_nil ?_
         refine d_then ?_
         refine c_flat [(4, .pointer (some ⟨g1, 0, none⟩)), (7, .pointer (some ⟨g2, 0, none⟩)), (8, .func (.func 56) #[] #[]), (13, .int .i64 x55), (15, .string x96), (16, .int .i64 x97), (17, .int .i64 x98)] ⟨rfl, rfl, rfl, rfl, rfl, rfl, rfl, trivial⟩ (fun u => ?_)
         refine c_sta ⟨w0, M, (100140, g67, .cells #[.int .i64 x65.fahead, .int .i64 x65.fnames, .int .i64 x65.fbehind] 90 (0, 0)) :: (100070, g2, .cells #[.string x3, .int .u16 x14, .int .u16 i27, .int .u32 i36, .string x54] 27 (0, 0)) :: (100040, g1, .cells #[.string (⟨#[]⟩ : ByteArray), .int .u16 0, .int .u16 0, .int .u32 0, .string (⟨#[]⟩ : ByteArray)] 27 (0, 0)) :: H, R, φ⟩ (fun _ h => h) ?_
         refine c_seq ?_
         refine c_block ?_
         refine c_seq ?_
         refine c_region ?_
         refine g_v rfl r_move ?_
         refine g_v rfl (r_neq rfl rfl) ?_
         refine g_v rfl r_assign ?_
         refine g_nil ?_
         refine d_then ?_
         refine c_cond rfl (fun h101 => ?_) (fun h101 => ?_)
         ·
          replace hm := ite_t hm (of_decide_eq_true h101)
          refine c_seq ?_
          refine c_region ?_
          refine g_v rfl r_move ?_
          refine g_v rfl r_move ?_
          replace hm := bnd hm
          obtain ⟨⟨x102, x103, x104⟩, hx105, hm⟩ := hm
          refine g_cnv ⟨w0, M, _, _, φ⟩ (fun _ h => h) Try.call56 rfl rfl rfl (c_record_Get_c1 x98 _ hx105) (fun _ _ => ?_)
          refine g_v rfl (r_extract rfl rfl) ?_
          refine g_v rfl (r_extract rfl rfl) ?_
          refine g_v rfl (r_extract rfl rfl) ?_
          refine g_storeL (tag := 100040) rfl rfl rfl rfl Try.sizeOf27 rfl rfl ?_
          refine g_v rfl r_assign ?_
          refine g_v rfl r_assign ?_
          refine g_nil ?_
          refine d_then ?_
          refine c_flat [(4, .pointer (some ⟨g1, 0, none⟩)), (5, .int .i64 x103), (6, .int .i64 x104)] ⟨rfl, rfl, rfl, trivial⟩ (fun u => ?_)
          refine c_sta ⟨w0, M, (100140, g67, .cells #[.int .i64 x65.fahead, .int .i64 x65.fnames, .int .i64 x65.fbehind] 90 (0, 0)) :: (100070, g2, .cells #[.string x3, .int .u16 x14, .int .u16 i27, .int .u32 i36, .string x54] 27 (0, 0)) :: (100040, g1, .cells #[.string x102.fName, .int .u16 x102.fType, .int .u16 x102.fClass, .int .u32 x102.fTTL, .string x102.fData] 27 (0, 0)) :: H, R, φ⟩ (fun _ h => h) ?_
          refine c_ret ?_
          refine d_ret_block ?_
          refine d_ret_then ?_
          refine d_ret_then ?_
          refine d_ret_then ?_
          replace hm := Option.some.inj hm
          subst hm
          refine d_retC () Try.results18 ?_ trivial (fun W h => ok_pre (H1 := [_, _, _]) (R1 := []) h (fun W hφ => hφ)) (.inr rfl)
          refine res_agg (tag := 100040) rfl rfl Try.isAgg27 Try.sizeOf27 ?_
          refine res_tmp ?_
          refine res_tmp ?_
          refine res_nil ?_
          exact rfl
         ·
          replace hm := ite_f hm (of_decide_eq_false h101)
          refine c_seq ?_
          refine c_region ?_
          refine g_v rfl r_move ?_
          refine g_v rfl r_move ?_
          refine g_v rfl (r_neq rfl rfl) ?_
          refine g_v rfl r_assign ?_
          refine g_nil ?_
          refine d_then ?_
          refine c_cond rfl (fun h107 => ?_) (fun h107 => ?_)
          ·
           replace hm := ite_t hm (of_decide_eq_true h107)
           refine c_seq ?_
           refine c_region ?_
           refine g_v rfl r_move ?_
           replace hm := bnd hm
           obtain ⟨⟨x108, x109, x110⟩, hx111, hm⟩ := hm
           refine g_cnv ⟨w0, M, _, _, φ⟩ (fun _ h => h) Try.call56 rfl rfl rfl (c_record_Get_c1 10 _ hx111) (fun _ _ => ?_)
           refine g_v rfl (r_extract rfl rfl) ?_
           refine g_v rfl (r_extract rfl rfl) ?_
           refine g_v rfl (r_extract rfl rfl) ?_
           refine g_storeL (tag := 100040) rfl rfl rfl rfl Try.sizeOf27 rfl rfl ?_
           refine g_v rfl r_assign ?_
           refine g_v rfl r_assign ?_
           refine g_nil ?_
           refine d_then ?_
           refine c_flat [(4, .pointer (some ⟨g1, 0, none⟩)), (5, .int .i64 x109), (6, .int .i64 x110)] ⟨rfl, rfl, rfl, trivial⟩ (fun u => ?_)
           refine c_sta ⟨w0, M, (100140, g67, .cells #[.int .i64 x65.fahead, .int .i64 x65.fnames, .int .i64 x65.fbehind] 90 (0, 0)) :: (100070, g2, .cells #[.string x3, .int .u16 x14, .int .u16 i27, .int .u32 i36, .string x54] 27 (0, 0)) :: (100040, g1, .cells #[.string x108.fName, .int .u16 x108.fType, .int .u16 x108.fClass, .int .u32 x108.fTTL, .string x108.fData] 27 (0, 0)) :: H, R, φ⟩ (fun _ h => h) ?_
           refine c_ret ?_
           refine d_ret_block ?_
           refine d_ret_then ?_
           refine d_ret_then ?_
           refine d_ret_then ?_
           replace hm := Option.some.inj hm
           subst hm
           refine d_retC () Try.results18 ?_ trivial (fun W h => ok_pre (H1 := [_, _, _]) (R1 := []) h (fun W hφ => hφ)) (.inr rfl)
           refine res_agg (tag := 100040) rfl rfl Try.isAgg27 Try.sizeOf27 ?_
           refine res_tmp ?_
           refine res_tmp ?_
           refine res_nil ?_
           exact rfl
          ·
           replace hm := ite_f hm (of_decide_eq_false h107)
           refine c_skip ?_
           refine d_normal_block ?_
           refine d_then ?_
           refine c_region ?_
           refine g_v rfl r_move ?_
           refine g_v rfl (r_field (n := 4) Try.underlying27 rfl Try.sizeOf9 rfl rfl) ?_
           refine g_storeL (tag := 100070) rfl rfl rfl rfl Try.sizeOf9 rfl rfl ?_
           refine g_nil ?_
           exact d_round x96 hm Nat.zero_lt_one ⟨rfl, rfl, rfl, rfl, trivial⟩ (fun W h => (h.dropH (t := 100140) rfl).phi (fun W hφ => hφ))
        ·
         replace hm := ite_f hm (of_decide_eq_false h95)
         refine c_skip ?_
         exact d_round x54 hm Nat.zero_lt_one ⟨rfl, rfl, rfl, rfl, trivial⟩ (fun W h => (h.dropH (t := 100140) rfl).phi (fun W hφ => hφ))
       ·
        unfold m_record_Get_j3 at hm
        refine d_flat [(4, .pointer (some ⟨g1, 0, none⟩)), (7, .pointer (some ⟨g2, 0, none⟩)), (8, .func (.func 56) #[] #[]), (13, .int .i64 x55)] ⟨rfl, rfl, rfl, rfl, trivial⟩ (fun u => ?_)
        refine d_sta ⟨w0, M, (100070, g2, .cells #[.string x3, .int .u16 x14, .int .u16 i27, .int .u32 i36, .string s86] 27 (0, 0)) :: (100040, g1, .cells #[.string (⟨#[]⟩ : ByteArray), .int .u16 0, .int .u16 0, .int .u32 0, .string (⟨#[]⟩ : ByteArray)] 27 (0, 0)) :: H, R, φ⟩ (fun _ h => h) ?_
        refine d_then ?_
        refine c_seq ?_
        refine c_region ?_
        refine g_v rfl (r_loadA (tag := 100070) rfl rfl Try.isAgg27 Try.sizeOf27 rfl rfl) ?_
        replace hm := bnd hm
        obtain ⟨x87, hx88, hm⟩ := hm
        refine g_cn ⟨w0, M, _, _, φ⟩ (fun _ h => h) Try.call31 rfl rfl (c_record_Check (⟨x3, x14, i27, i36, s86⟩ : GRR) _ hx88) (fun _ _ => ?_)
        refine g_v rfl r_assign ?_
        refine g_nil ?_
        refine d_then ?_
        refine c_seq ?_
        refine c_seq ?_
        refine c_region ?_
        refine g_v rfl r_move ?_
        refine g_v rfl (r_neq rfl rfl) ?_
        refine g_nil ?_
        refine d_then ?_
        refine c_cond rfl (fun h89 => ?_) (fun h89 => ?_)
        ·
         replace hm := ite_t hm (of_decide_eq_true h89)
         refine c_seq ?_
         refine c_region ?_
         refine g_v rfl r_move ?_
         refine g_v rfl r_move ?_
         replace hm := bnd hm
         obtain ⟨⟨x90, x91, x92⟩, hx93, hm⟩ := hm
         refine g_cnv ⟨w0, M, _, _, φ⟩ (fun _ h => h) Try.call56 rfl rfl rfl (c_record_Get_c1 x87 _ hx93) (fun _ _ => ?_)
         refine g_v rfl (r_extract rfl rfl) ?_
         refine g_v rfl (r_extract rfl rfl) ?_
         refine g_v rfl (r_extract rfl rfl) ?_
         refine g_storeL (tag := 100040) rfl rfl rfl rfl Try.sizeOf27 rfl rfl ?_
         refine g_v rfl r_assign ?_
         refine g_v rfl r_assign ?_
         refine g_nil ?_
         refine d_then ?_
         refine c_flat [(4, .pointer (some ⟨g1, 0, none⟩)), (5, .int .i64 x91), (6, .int .i64 x92)] ⟨rfl, rfl, rfl, trivial⟩ (fun u => ?_)
         refine c_sta ⟨w0, M, (100070, g2, .cells #[.string x3, .int .u16 x14, .int .u16 i27, .int .u32 i36, .string s86] 27 (0, 0)) :: (100040, g1, .cells #[.string x90.fName, .int .u16 x90.fType, .int .u16 x90.fClass, .int .u32 x90.fTTL, .string x90.fData] 27 (0, 0)) :: H, R, φ⟩ (fun _ h => h) ?_
         refine c_ret ?_
         refine d_ret_then ?_
         replace hm := Option.some.inj hm
         subst hm
         refine d_retC () Try.results18 ?_ trivial (fun W h => ok_pre (H1 := [_, _]) (R1 := []) h (fun W hφ => hφ)) (.inr rfl)
         refine res_agg (tag := 100040) rfl rfl Try.isAgg27 Try.sizeOf27 ?_
         refine res_tmp ?_
         refine res_tmp ?_
         refine res_nil ?_
         exact rfl
        ·
         replace hm := ite_f hm (of_decide_eq_false h89)
         refine c_skip ?_
         refine d_then ?_
         refine c_seq ?_
         refine c_region ?_
         refine g_v rfl (r_loadA (tag := 100070) rfl rfl Try.isAgg27 Try.sizeOf27 rfl rfl) ?_
         refine g_v rfl r_move ?_
         refine g_storeL (tag := 100040) rfl rfl rfl rfl Try.sizeOf27 rfl rfl ?_
         refine g_v rfl r_assign ?_
         refine g_v rfl r_assign ?_
         refine g_nil ?_
         refine d_then ?_
         refine c_flat [(4, .pointer (some ⟨g1, 0, none⟩)), (5, .int .i64 x55), (6, .int .i64 0)] ⟨rfl, rfl, rfl, trivial⟩ (fun u => ?_)
         refine c_sta ⟨w0, M, (100070, g2, .cells #[.string x3, .int .u16 x14, .int .u16 i27, .int .u32 i36, .string s86] 27 (0, 0)) :: (100040, g1, .cells #[.string x3, .int .u16 x14, .int .u16 i27, .int .u32 i36, .string s86] 27 (0, 0)) :: H, R, φ⟩ (fun _ h => h) ?_
         refine c_ret ?_
         replace hm := Option.some.inj hm
         subst hm
         refine d_retC () Try.results18 ?_ trivial (fun W h => ok_pre (H1 := [_, _]) (R1 := []) h (fun W hφ => hφ)) (.inr rfl)
         refine res_agg (tag := 100040) rfl rfl Try.isAgg27 Try.sizeOf27 ?_
         refine res_tmp ?_
         refine res_tmp ?_
         refine res_nil ?_
         exact rfl

theorem bld27_14 (z0 : ByteArray) (z1 : Int) (z2 : ByteArray) : ∀ W, (Instr.build 27 #[(0, .string z0), (1, .int .u16 z1), (4, .string z2)]).run Try.prog W = .ok (.agg #[.string z0, .int .u16 z1, .int .u16 0, .int .u32 0, .string z2]) W := fun _ => by kernel_rfl
theorem bld27_15 (z0 : ByteArray) (z1 : Int) : ∀ W, (Instr.build 27 #[(0, .string z0), (1, .int .u16 z1)]).run Try.prog W = .ok (.agg #[.string z0, .int .u16 z1, .int .u16 0, .int .u32 0, .string (⟨#[]⟩ : ByteArray)]) W := fun _ => by kernel_rfl
noncomputable def m_record_Life (p0 : Int) : Option Int :=
  if p0 / 2147483648 = 1 then
    some 0
  else
    some p0
theorem c_record_Life {w0 : World} {M : Nat → Prop} {H : List (Nat × Nat × Obj)} {R : List (Nat × Row)} {φ : World → Prop} (p0 : Int) (r : Int) (hm : m_record_Life p0 = some r) :
    Cn Try.prog 33 #[.int .u32 p0] ⟨w0, M, H, R, φ⟩ (fun x : Unit => .int .u32 r) (fun x => True) (fun x => ⟨w0, M, H, R, φ⟩) := by
 unfold m_record_Life at hm
 refine cn_intro (fn := Try.f33) (N := 7) Try.func33 rfl Try.ntmps33 rfl ?_
 refine c_seq ?_
 refine c_region ?_
 refine g_v rfl r_assign ?_
 refine g_nil ?_
 refine d_then ?_
 refine c_seq ?_
 refine c_seq ?_
 refine c_region ?_
 refine g_v rfl r_move ?_
 refine g_v rfl (r_shr (n := 2147483648) rfl rfl (by decide) (by decide) (by decide)) ?_
 refine g_v rfl (r_eql rfl rfl) ?_
 refine g_nil ?_
 refine d_then ?_
 refine c_cond rfl (fun h1 => ?_) (fun h1 => ?_)
 ·
  replace hm := ite_t hm (of_decide_eq_true h1)
  refine c_seq ?_
  refine c_region ?_
  refine g_v rfl r_assign ?_
  refine g_nil ?_
  refine d_then ?_
  refine c_ret ?_
  refine d_ret_then ?_
  replace hm := Option.some.inj hm
  subst hm
  refine d_retC () Try.results33 ?_ trivial (fun W h => ok_pre (H1 := []) (R1 := []) h (fun W hφ => hφ)) (.inr rfl)
  refine res_tmp ?_
  refine res_nil ?_
  exact rfl
 ·
  replace hm := ite_f hm (of_decide_eq_false h1)
  refine c_skip ?_
  refine d_then ?_
  refine c_seq ?_
  refine c_region ?_
  refine g_v rfl r_move ?_
  refine g_v rfl r_assign ?_
  refine g_nil ?_
  refine d_then ?_
  refine c_ret ?_
  replace hm := Option.some.inj hm
  subst hm
  refine d_retC () Try.results33 ?_ trivial (fun W h => ok_pre (H1 := []) (R1 := []) h (fun W hφ => hφ)) (.inr rfl)
  refine res_tmp ?_
  refine res_nil ?_
  exact rfl

noncomputable def m_law05_awake  : Option Bool :=
  (m_pack_New).bind fun x1 =>
  (m_record_Put (⟨(⟨#[3, 119, 119, 119, 1, 97, 0]⟩ : ByteArray), 1, 1, 60, (⟨#[1, 2, 3, 4]⟩ : ByteArray)⟩ : GRR) x1).bind fun (z19 : Int × Gpack_Packer) =>
  (m_pack_Packer_Bytes z19.2).bind fun x20 =>
  (m_record_Get x20 0).bind fun (z26 : GRR × Int × Int) =>
  if z19.1 = 0 then
    if x20 = (⟨#[3, 119, 119, 119, 1, 97, 0, 0, 1, 0, 1, 0, 0, 0, 60, 0, 4, 1, 2, 3, 4]⟩ : ByteArray) then
      if z26.2.2 = 0 then
        if z26.2.1 = (x20.size : Int) then
          if z26.1.fTTL = 60 then
            (m_record_Check (⟨(⟨#[0]⟩ : ByteArray), 1, 0, 0, (⟨#[97, 98, 99]⟩ : ByteArray)⟩ : GRR)).bind fun x33 =>
            if x33 = 10 then
              (m_record_Check (⟨(⟨#[0]⟩ : ByteArray), 16, 0, 0, (⟨#[]⟩ : ByteArray)⟩ : GRR)).bind fun x36 =>
              if x36 = 10 then
                (m_record_Life 2147483648).bind fun x39 =>
                if x39 = 0 then
                  (m_record_Life 2147483647).bind fun x42 =>
                  some (decide (x42 = 2147483647))
                else
                  some false
              else
                some false
            else
              some false
          else
            some false
        else
          some false
      else
        some false
    else
      some false
  else
    some false
theorem c_law05_awake {w0 : World} {M : Nat → Prop} {H : List (Nat × Nat × Obj)} {R : List (Nat × Row)} {φ : World → Prop}  (r : Bool) (hm : m_law05_awake = some r) :
    Cn Try.prog 16 #[] ⟨w0, M, H, R, φ⟩ (fun x : Unit => .bool r) (fun x => True) (fun x => ⟨w0, M, H, R, φ⟩) := by
 unfold m_law05_awake at hm
 refine cn_intro (fn := Try.f16) (N := 60) Try.func16 rfl Try.ntmps16 rfl ?_
 refine c_seq ?_
 refine c_region ?_
 refine g_v rfl r_assign ?_
 refine g_nil ?_
 refine d_then ?_
 refine c_seq ?_
 refine c_region ?_
 replace hm := bnd hm
 obtain ⟨x1, hx2, hm⟩ := hm
 refine g_cn ⟨w0, M, _, _, φ⟩ (fun _ h => h) Try.call20 rfl rfl (c_pack_New  _ hx2) (fun ⟨A3, c4, A6, c7, g9⟩ ⟨hc4, hc7⟩ => ?_)
 refine g_sta _ (fun W h => (ok_frontR (t := 2000) (t' := 100070) (ok_frontR (t := 2001) (t' := 100071) (ok_front (t := 3000) (t' := 100075) h rfl) rfl) rfl)) ?_
 refine g_v rfl r_assign ?_
 refine g_nil ?_
 refine d_then ?_
 refine c_seq ?_
 refine c_seq ?_
 refine c_region ?_
 refine g_v rfl r_move ?_
 refine g_v rfl (r_eqlP1 Try.underlying33 rfl rfl) ?_
 refine g_nil ?_
 refine d_then ?_
 refine c_cond0 rfl rfl ?_
 refine c_skip ?_
 refine d_then ?_
 refine c_seq ?_
 refine c_region ?_
 refine g_v rfl r_move ?_
 refine g_v rfl (r_build _ rfl (bld27_1 _ _ _ _ _)) ?_
 replace hm := bnd hm
 obtain ⟨⟨x10, x11⟩, hx12, hm⟩ := hm
 refine g_cn ⟨w0, M, (1000, g9, .cells #[.slice A3 x1.fb.length c4, mapV A6] 100 (0, 0)) :: H, (1000, ⟨.slice A3 x1.fb.length c4, 5, 1, x1.fb.length, x1.fb.flatMap (fun x : Int => [Value.int .u8 x])⟩) :: (1001, ⟨mapV A6, 98, 2, x1.fplaces.length, x1.fplaces.flatMap (mcell (fun x : ByteArray => Value.string x) (fun x : Int => Value.int .i64 x))⟩) :: R, φ⟩ (fun W h => (ok_front (t := 100075) (t' := 1000) (ok_frontR (t := 100070) (t' := 1000) (ok_frontR (t := 100071) (t' := 1001) h rfl) rfl) rfl)) Try.call23 rfl rfl (c_record_Put (⟨(⟨#[3, 119, 119, 119, 1, 97, 0]⟩ : ByteArray), 1, 1, 60, (⟨#[1, 2, 3, 4]⟩ : ByteArray)⟩ : GRR) g9 x1 A3 c4 hc4 A6 c7 trivial _ hx12) (fun ⟨A13, c14, A16, c17⟩ ⟨hc14, hc17⟩ => ?_)
 refine g_sta _ (fun W h => (ok_frontR (t := 2000) (t' := 100070) (ok_frontR (t := 2001) (t' := 100071) (ok_front (t := 1000) (t' := 100075) h rfl) rfl) rfl)) ?_
 refine g_v rfl r_assign ?_
 refine g_nil ?_
 refine d_then ?_
 refine c_flat [(1, .pointer (some ⟨g9, 0, none⟩)), (2, .int .i64 x10)] ⟨rfl, rfl, trivial⟩ (fun u => ?_)
 refine c_sta ⟨w0, M, (100075, g9, .cells #[.slice A13 x11.fb.length c14, mapV A16] 100 (0, 0)) :: H, (100070, ⟨.slice A13 x11.fb.length c14, 5, 1, x11.fb.length, x11.fb.flatMap (fun x : Int => [Value.int .u8 x])⟩) :: (100071, ⟨mapV A16, 98, 2, x11.fplaces.length, x11.fplaces.flatMap (mcell (fun x : ByteArray => Value.string x) (fun x : Int => Value.int .i64 x))⟩) :: R, φ⟩ (fun _ h => h) ?_
 refine c_seq ?_
 refine c_region ?_
 refine g_v rfl r_move ?_
 replace hm := bnd hm
 obtain ⟨x20, hx21, hm⟩ := hm
 refine g_cn ⟨w0, M, (1000, g9, .cells #[.slice A13 x11.fb.length c14, mapV A16] 100 (0, 0)) :: H, (1000, ⟨.slice A13 x11.fb.length c14, 5, 1, x11.fb.length, x11.fb.flatMap (fun x : Int => [Value.int .u8 x])⟩) :: (1001, ⟨mapV A16, 98, 2, x11.fplaces.length, x11.fplaces.flatMap (mcell (fun x : ByteArray => Value.string x) (fun x : Int => Value.int .i64 x))⟩) :: R, φ⟩ (fun W h => (ok_front (t := 100075) (t' := 1000) (ok_frontR (t := 100070) (t' := 1000) (ok_frontR (t := 100071) (t' := 1001) h rfl) rfl) rfl)) Try.call26 rfl rfl (c_pack_Packer_Bytes g9 x11 A13 c14 hc14 A16 c17 trivial _ hx21) (fun _ _ => ?_)
 refine g_sta _ (fun W h => (ok_frontR (t := 1000) (t' := 100070) (ok_frontR (t := 1001) (t' := 100071) (ok_front (t := 1000) (t' := 100075) h rfl) rfl) rfl)) ?_
 refine g_v rfl r_assign ?_
 refine g_nil ?_
 refine d_then ?_
 refine c_seq ?_
 refine c_region ?_
 refine g_v rfl r_move ?_
 replace hm := bnd hm
 obtain ⟨⟨x22, x23, x24⟩, hx25, hm⟩ := hm
 refine g_cn ⟨w0, M, _, _, φ⟩ (fun _ h => h) Try.call18 rfl rfl (c_record_Get x20 0 _ hx25) (fun _ _ => ?_)
 refine g_v rfl r_move ?_
 refine g_v rfl (r_extract rfl rfl) ?_
 refine g_v rfl (r_extract rfl rfl) ?_
 refine g_v rfl (r_extract rfl rfl) ?_
 refine g_e rfl (e_alloc 100040 Try.zeroValue27) (fun g27 _ => ?_)
 refine g_storeL (tag := 100040) rfl rfl rfl rfl Try.sizeOf27 rfl rfl ?_
 refine g_v rfl r_assign ?_
 refine g_v rfl r_assign ?_
 refine g_nil ?_
 refine d_then ?_
 refine c_flat [(2, .int .i64 x10), (3, .string x20), (4, .pointer (some ⟨g27, 0, none⟩)), (5, .int .i64 x23), (6, .int .i64 x24)] ⟨rfl, rfl, rfl, rfl, rfl, trivial⟩ (fun u => ?_)
 refine c_sta ⟨w0, M, (100040, g27, .cells #[.string x22.fName, .int .u16 x22.fType, .int .u16 x22.fClass, .int .u32 x22.fTTL, .string x22.fData] 27 (0, 0)) :: (100075, g9, .cells #[.slice A13 x11.fb.length c14, mapV A16] 100 (0, 0)) :: H, (100070, ⟨.slice A13 x11.fb.length c14, 5, 1, x11.fb.length, x11.fb.flatMap (fun x : Int => [Value.int .u8 x])⟩) :: (100071, ⟨mapV A16, 98, 2, x11.fplaces.length, x11.fplaces.flatMap (mcell (fun x : ByteArray => Value.string x) (fun x : Int => Value.int .i64 x))⟩) :: R, φ⟩ (fun _ h => h) ?_
 refine c_seq ?_
 refine c_region ?_
 refine g_v rfl r_move ?_
 refine g_v rfl (r_eql rfl rfl) ?_
 refine g_v rfl r_move ?_
 refine g_if rfl rfl rfl rfl rfl (fun h28 => ?_) (fun h28 => ?_)
 ·
  replace hm := ite_t hm (of_decide_eq_true h28)
  refine g_v rfl r_move ?_
  refine g_do rfl rfl rfl rfl rfl h28 ?_
  refine g_v rfl (r_eqlT rfl rfl) ?_
  refine g_v rfl (r_pick1 rfl h28) ?_
  refine g_v rfl r_move ?_
  refine g_if rfl rfl rfl rfl rfl (fun h29 => ?_) (fun h29 => ?_)
  ·
   replace hm := ite_t hm (of_decide_eq_true h29)
   refine g_v rfl r_move ?_
   refine g_do rfl rfl rfl rfl rfl h29 ?_
   refine g_v rfl (r_eql rfl rfl) ?_
   refine g_v rfl (r_pick1 rfl h29) ?_
   refine g_v rfl r_move ?_
   refine g_if rfl rfl rfl rfl rfl (fun h30 => ?_) (fun h30 => ?_)
   ·
    replace hm := ite_t hm (of_decide_eq_true h30)
    refine g_v rfl r_move ?_
    refine g_do rfl rfl rfl rfl rfl h30 ?_
    refine g_v rfl r_move ?_
    refine g_do rfl rfl rfl rfl rfl h30 ?_
    refine g_v rfl (r_len Try.underlying9 rfl) ?_
    refine g_do rfl rfl rfl rfl rfl h30 ?_
    refine g_v rfl (r_eql rfl rfl) ?_
    refine g_v rfl (r_pick1 rfl h30) ?_
    refine g_v rfl r_move ?_
    refine g_if rfl rfl rfl rfl rfl (fun h31 => ?_) (fun h31 => ?_)
    ·
     replace hm := ite_t hm (of_decide_eq_true h31)
     refine g_v rfl (r_field (n := 3) Try.underlying27 rfl Try.sizeOf25 rfl rfl) ?_
     refine g_do rfl rfl rfl rfl rfl h31 ?_
     refine g_v rfl (r_load (tag := 100040) rfl rfl rfl Try.isAgg25) ?_
     refine g_do rfl rfl rfl rfl rfl h31 ?_
     refine g_v rfl (r_eql rfl rfl) ?_
     refine g_v rfl (r_pick1 rfl h31) ?_
     refine g_v rfl r_move ?_
     refine g_if rfl rfl rfl rfl rfl (fun h32 => ?_) (fun h32 => ?_)
     ·
      replace hm := ite_t hm (of_decide_eq_true h32)
      refine g_v rfl (r_build _ rfl (bld27_14 _ _ _)) ?_
      refine g_do rfl rfl rfl rfl rfl h32 ?_
      replace hm := bnd hm
      obtain ⟨x33, hx34, hm⟩ := hm
      refine g_cn ⟨w0, M, _, _, φ⟩ (fun _ h => h) Try.call31 rfl rfl (c_record_Check (⟨(⟨#[0]⟩ : ByteArray), 1, 0, 0, (⟨#[97, 98, 99]⟩ : ByteArray)⟩ : GRR) _ hx34) (fun _ _ => ?_)
      refine g_do rfl rfl rfl rfl rfl h32 ?_
      refine g_v rfl (r_eql rfl rfl) ?_
      refine g_v rfl (r_pick1 rfl h32) ?_
      refine g_v rfl r_move ?_
      refine g_if rfl rfl rfl rfl rfl (fun h35 => ?_) (fun h35 => ?_)
      ·
       replace hm := ite_t hm (of_decide_eq_true h35)
       refine g_v rfl (r_build _ rfl (bld27_15 _ _)) ?_
       refine g_do rfl rfl rfl rfl rfl h35 ?_
       replace hm := bnd hm
       obtain ⟨x36, hx37, hm⟩ := hm
       refine g_cn ⟨w0, M, _, _, φ⟩ (fun _ h => h) Try.call31 rfl rfl (c_record_Check (⟨(⟨#[0]⟩ : ByteArray), 16, 0, 0, (⟨#[]⟩ : ByteArray)⟩ : GRR) _ hx37) (fun _ _ => ?_)
       refine g_do rfl rfl rfl rfl rfl h35 ?_
       refine g_v rfl (r_eql rfl rfl) ?_
       refine g_v rfl (r_pick1 rfl h35) ?_
       refine g_v rfl r_move ?_
       refine g_if rfl rfl rfl rfl rfl (fun h38 => ?_) (fun h38 => ?_)
       ·
        replace hm := ite_t hm (of_decide_eq_true h38)
        replace hm := bnd hm
        obtain ⟨x39, hx40, hm⟩ := hm
        refine g_cn ⟨w0, M, _, _, φ⟩ (fun _ h => h) Try.call33 rfl rfl (c_record_Life 2147483648 _ hx40) (fun _ _ => ?_)
        refine g_do rfl rfl rfl rfl rfl h38 ?_
        refine g_v rfl (r_eql rfl rfl) ?_
        refine g_v rfl (r_pick1 rfl h38) ?_
        refine g_v rfl r_move ?_
        refine g_if rfl rfl rfl rfl rfl (fun h41 => ?_) (fun h41 => ?_)
        ·
         replace hm := ite_t hm (of_decide_eq_true h41)
         replace hm := bnd hm
         obtain ⟨x42, hx43, hm⟩ := hm
         refine g_cn ⟨w0, M, _, _, φ⟩ (fun _ h => h) Try.call33 rfl rfl (c_record_Life 2147483647 _ hx43) (fun _ _ => ?_)
         refine g_do rfl rfl rfl rfl rfl h41 ?_
         refine g_v rfl (r_eql rfl rfl) ?_
         refine g_v rfl (r_pick1 rfl h41) ?_
         refine g_v rfl r_assign ?_
         refine g_nil ?_
         refine d_then ?_
         refine c_flat [(0, .bool (decide (x42 = 2147483647)))] ⟨rfl, trivial⟩ (fun u => ?_)
         refine c_sta ⟨w0, M, (100040, g27, .cells #[.string x22.fName, .int .u16 x22.fType, .int .u16 x22.fClass, .int .u32 x22.fTTL, .string x22.fData] 27 (0, 0)) :: (100075, g9, .cells #[.slice A13 x11.fb.length c14, mapV A16] 100 (0, 0)) :: H, (100070, ⟨.slice A13 x11.fb.length c14, 5, 1, x11.fb.length, x11.fb.flatMap (fun x : Int => [Value.int .u8 x])⟩) :: (100071, ⟨mapV A16, 98, 2, x11.fplaces.length, x11.fplaces.flatMap (mcell (fun x : ByteArray => Value.string x) (fun x : Int => Value.int .i64 x))⟩) :: R, φ⟩ (fun _ h => h) ?_
         refine c_ret ?_
         replace hm := Option.some.inj hm
         subst hm
         refine d_retC () Try.results16 ?_ trivial (fun W h => ok_pre (H1 := [_, _]) (R1 := [_, _]) h (fun W hφ => hφ)) (.inr rfl)
         refine res_tmp ?_
         refine res_nil ?_
         exact rfl
        ·
         replace hm := ite_f hm (of_decide_eq_false h41)
         refine g_no rfl rfl rfl rfl rfl h41 ?_
         refine g_v rfl (r_pick0 rfl h41) ?_
         refine g_v rfl r_assign ?_
         refine g_nil ?_
         refine d_then ?_
         refine c_flat [(0, .bool false)] ⟨rfl, trivial⟩ (fun u => ?_)
         refine c_sta ⟨w0, M, (100040, g27, .cells #[.string x22.fName, .int .u16 x22.fType, .int .u16 x22.fClass, .int .u32 x22.fTTL, .string x22.fData] 27 (0, 0)) :: (100075, g9, .cells #[.slice A13 x11.fb.length c14, mapV A16] 100 (0, 0)) :: H, (100070, ⟨.slice A13 x11.fb.length c14, 5, 1, x11.fb.length, x11.fb.flatMap (fun x : Int => [Value.int .u8 x])⟩) :: (100071, ⟨mapV A16, 98, 2, x11.fplaces.length, x11.fplaces.flatMap (mcell (fun x : ByteArray => Value.string x) (fun x : Int => Value.int .i64 x))⟩) :: R, φ⟩ (fun _ h => h) ?_
         refine c_ret ?_
         replace hm := Option.some.inj hm
         subst hm
         refine d_retC () Try.results16 ?_ trivial (fun W h => ok_pre (H1 := [_, _]) (R1 := [_, _]) h (fun W hφ => hφ)) (.inr rfl)
         refine res_tmp ?_
         refine res_nil ?_
         exact rfl
       ·
        replace hm := ite_f hm (of_decide_eq_false h38)
        refine g_no rfl rfl rfl rfl rfl h38 ?_
        refine g_v rfl (r_pick0 rfl h38) ?_
        refine g_v rfl r_move ?_
        refine g_no rfl rfl rfl rfl rfl rfl ?_
        refine g_no rfl rfl rfl rfl rfl rfl ?_
        refine g_v rfl (r_pick0 rfl rfl) ?_
        refine g_v rfl r_assign ?_
        refine g_nil ?_
        refine d_then ?_
        refine c_flat [(0, .bool false)] ⟨rfl, trivial⟩ (fun u => ?_)
        refine c_sta ⟨w0, M, (100040, g27, .cells #[.string x22.fName, .int .u16 x22.fType, .int .u16 x22.fClass, .int .u32 x22.fTTL, .string x22.fData] 27 (0, 0)) :: (100075, g9, .cells #[.slice A13 x11.fb.length c14, mapV A16] 100 (0, 0)) :: H, (100070, ⟨.slice A13 x11.fb.length c14, 5, 1, x11.fb.length, x11.fb.flatMap (fun x : Int => [Value.int .u8 x])⟩) :: (100071, ⟨mapV A16, 98, 2, x11.fplaces.length, x11.fplaces.flatMap (mcell (fun x : ByteArray => Value.string x) (fun x : Int => Value.int .i64 x))⟩) :: R, φ⟩ (fun _ h => h) ?_
        refine c_ret ?_
        replace hm := Option.some.inj hm
        subst hm
        refine d_retC () Try.results16 ?_ trivial (fun W h => ok_pre (H1 := [_, _]) (R1 := [_, _]) h (fun W hφ => hφ)) (.inr rfl)
        refine res_tmp ?_
        refine res_nil ?_
        exact rfl
      ·
       replace hm := ite_f hm (of_decide_eq_false h35)
       refine g_no rfl rfl rfl rfl rfl h35 ?_
       refine g_no rfl rfl rfl rfl rfl h35 ?_
       refine g_v rfl (r_pick0 rfl h35) ?_
       refine g_v rfl r_move ?_
       refine g_no rfl rfl rfl rfl rfl rfl ?_
       refine g_no rfl rfl rfl rfl rfl rfl ?_
       refine g_v rfl (r_pick0 rfl rfl) ?_
       refine g_v rfl r_move ?_
       refine g_no rfl rfl rfl rfl rfl rfl ?_
       refine g_no rfl rfl rfl rfl rfl rfl ?_
       refine g_v rfl (r_pick0 rfl rfl) ?_
       refine g_v rfl r_assign ?_
       refine g_nil ?_
       refine d_then ?_
       refine c_flat [(0, .bool false)] ⟨rfl, trivial⟩ (fun u => ?_)
       refine c_sta ⟨w0, M, (100040, g27, .cells #[.string x22.fName, .int .u16 x22.fType, .int .u16 x22.fClass, .int .u32 x22.fTTL, .string x22.fData] 27 (0, 0)) :: (100075, g9, .cells #[.slice A13 x11.fb.length c14, mapV A16] 100 (0, 0)) :: H, (100070, ⟨.slice A13 x11.fb.length c14, 5, 1, x11.fb.length, x11.fb.flatMap (fun x : Int => [Value.int .u8 x])⟩) :: (100071, ⟨mapV A16, 98, 2, x11.fplaces.length, x11.fplaces.flatMap (mcell (fun x : ByteArray => Value.string x) (fun x : Int => Value.int .i64 x))⟩) :: R, φ⟩ (fun _ h => h) ?_
       refine c_ret ?_
       replace hm := Option.some.inj hm
       subst hm
       refine d_retC () Try.results16 ?_ trivial (fun W h => ok_pre (H1 := [_, _]) (R1 := [_, _]) h (fun W hφ => hφ)) (.inr rfl)
       refine res_tmp ?_
       refine res_nil ?_
       exact rfl
     ·
      replace hm := ite_f hm (of_decide_eq_false h32)
      refine g_no rfl rfl rfl rfl rfl h32 ?_
      refine g_no rfl rfl rfl rfl rfl h32 ?_
      refine g_v rfl (r_pick0 rfl h32) ?_
      refine g_v rfl r_move ?_
      refine g_no rfl rfl rfl rfl rfl rfl ?_
      refine g_no rfl rfl rfl rfl rfl rfl ?_
      refine g_no rfl rfl rfl rfl rfl rfl ?_
      refine g_v rfl (r_pick0 rfl rfl) ?_
      refine g_v rfl r_move ?_
      refine g_no rfl rfl rfl rfl rfl rfl ?_
      refine g_no rfl rfl rfl rfl rfl rfl ?_
      refine g_v rfl (r_pick0 rfl rfl) ?_
      refine g_v rfl r_move ?_
      refine g_no rfl rfl rfl rfl rfl rfl ?_
      refine g_no rfl rfl rfl rfl rfl rfl ?_
      refine g_v rfl (r_pick0 rfl rfl) ?_
      refine g_v rfl r_assign ?_
      refine g_nil ?_
      refine d_then ?_
      refine c_flat [(0, .bool false)] ⟨rfl, trivial⟩ (fun u => ?_)
      refine c_sta ⟨w0, M, (100040, g27, .cells #[.string x22.fName, .int .u16 x22.fType, .int .u16 x22.fClass, .int .u32 x22.fTTL, .string x22.fData] 27 (0, 0)) :: (100075, g9, .cells #[.slice A13 x11.fb.length c14, mapV A16] 100 (0, 0)) :: H, (100070, ⟨.slice A13 x11.fb.length c14, 5, 1, x11.fb.length, x11.fb.flatMap (fun x : Int => [Value.int .u8 x])⟩) :: (100071, ⟨mapV A16, 98, 2, x11.fplaces.length, x11.fplaces.flatMap (mcell (fun x : ByteArray => Value.string x) (fun x : Int => Value.int .i64 x))⟩) :: R, φ⟩ (fun _ h => h) ?_
      refine c_ret ?_
      replace hm := Option.some.inj hm
      subst hm
      refine d_retC () Try.results16 ?_ trivial (fun W h => ok_pre (H1 := [_, _]) (R1 := [_, _]) h (fun W hφ => hφ)) (.inr rfl)
      refine res_tmp ?_
      refine res_nil ?_
      exact rfl
    ·
     replace hm := ite_f hm (of_decide_eq_false h31)
     refine g_no rfl rfl rfl rfl rfl h31 ?_
     refine g_no rfl rfl rfl rfl rfl h31 ?_
     refine g_v rfl (r_pick0 rfl h31) ?_
     refine g_v rfl r_move ?_
     refine g_no rfl rfl rfl rfl rfl rfl ?_
     refine g_no rfl rfl rfl rfl rfl rfl ?_
     refine g_no rfl rfl rfl rfl rfl rfl ?_
     refine g_v rfl (r_pick0 rfl rfl) ?_
     refine g_v rfl r_move ?_
     refine g_no rfl rfl rfl rfl rfl rfl ?_
     refine g_no rfl rfl rfl rfl rfl rfl ?_
     refine g_no rfl rfl rfl rfl rfl rfl ?_
     refine g_v rfl (r_pick0 rfl rfl) ?_
     refine g_v rfl r_move ?_
     refine g_no rfl rfl rfl rfl rfl rfl ?_
     refine g_no rfl rfl rfl rfl rfl rfl ?_
     refine g_v rfl (r_pick0 rfl rfl) ?_
     refine g_v rfl r_move ?_
     refine g_no rfl rfl rfl rfl rfl rfl ?_
     refine g_no rfl rfl rfl rfl rfl rfl ?_
     refine g_v rfl (r_pick0 rfl rfl) ?_
     refine g_v rfl r_assign ?_
     refine g_nil ?_
     refine d_then ?_
     refine c_flat [(0, .bool false)] ⟨rfl, trivial⟩ (fun u => ?_)
     refine c_sta ⟨w0, M, (100040, g27, .cells #[.string x22.fName, .int .u16 x22.fType, .int .u16 x22.fClass, .int .u32 x22.fTTL, .string x22.fData] 27 (0, 0)) :: (100075, g9, .cells #[.slice A13 x11.fb.length c14, mapV A16] 100 (0, 0)) :: H, (100070, ⟨.slice A13 x11.fb.length c14, 5, 1, x11.fb.length, x11.fb.flatMap (fun x : Int => [Value.int .u8 x])⟩) :: (100071, ⟨mapV A16, 98, 2, x11.fplaces.length, x11.fplaces.flatMap (mcell (fun x : ByteArray => Value.string x) (fun x : Int => Value.int .i64 x))⟩) :: R, φ⟩ (fun _ h => h) ?_
     refine c_ret ?_
     replace hm := Option.some.inj hm
     subst hm
     refine d_retC () Try.results16 ?_ trivial (fun W h => ok_pre (H1 := [_, _]) (R1 := [_, _]) h (fun W hφ => hφ)) (.inr rfl)
     refine res_tmp ?_
     refine res_nil ?_
     exact rfl
   ·
    replace hm := ite_f hm (of_decide_eq_false h30)
    refine g_no rfl rfl rfl rfl rfl h30 ?_
    refine g_no rfl rfl rfl rfl rfl h30 ?_
    refine g_no rfl rfl rfl rfl rfl h30 ?_
    refine g_v rfl (r_pick0 rfl h30) ?_
    refine g_v rfl r_move ?_
    refine g_no rfl rfl rfl rfl rfl rfl ?_
    refine g_no rfl rfl rfl rfl rfl rfl ?_
    refine g_no rfl rfl rfl rfl rfl rfl ?_
    refine g_v rfl (r_pick0 rfl rfl) ?_
    refine g_v rfl r_move ?_
    refine g_no rfl rfl rfl rfl rfl rfl ?_
    refine g_no rfl rfl rfl rfl rfl rfl ?_
    refine g_no rfl rfl rfl rfl rfl rfl ?_
    refine g_v rfl (r_pick0 rfl rfl) ?_
    refine g_v rfl r_move ?_
    refine g_no rfl rfl rfl rfl rfl rfl ?_
    refine g_no rfl rfl rfl rfl rfl rfl ?_
    refine g_no rfl rfl rfl rfl rfl rfl ?_
    refine g_v rfl (r_pick0 rfl rfl) ?_
    refine g_v rfl r_move ?_
    refine g_no rfl rfl rfl rfl rfl rfl ?_
    refine g_no rfl rfl rfl rfl rfl rfl ?_
    refine g_v rfl (r_pick0 rfl rfl) ?_
    refine g_v rfl r_move ?_
    refine g_no rfl rfl rfl rfl rfl rfl ?_
    refine g_no rfl rfl rfl rfl rfl rfl ?_
    refine g_v rfl (r_pick0 rfl rfl) ?_
    refine g_v rfl r_assign ?_
    refine g_nil ?_
    refine d_then ?_
    refine c_flat [(0, .bool false)] ⟨rfl, trivial⟩ (fun u => ?_)
    refine c_sta ⟨w0, M, (100040, g27, .cells #[.string x22.fName, .int .u16 x22.fType, .int .u16 x22.fClass, .int .u32 x22.fTTL, .string x22.fData] 27 (0, 0)) :: (100075, g9, .cells #[.slice A13 x11.fb.length c14, mapV A16] 100 (0, 0)) :: H, (100070, ⟨.slice A13 x11.fb.length c14, 5, 1, x11.fb.length, x11.fb.flatMap (fun x : Int => [Value.int .u8 x])⟩) :: (100071, ⟨mapV A16, 98, 2, x11.fplaces.length, x11.fplaces.flatMap (mcell (fun x : ByteArray => Value.string x) (fun x : Int => Value.int .i64 x))⟩) :: R, φ⟩ (fun _ h => h) ?_
    refine c_ret ?_
    replace hm := Option.some.inj hm
    subst hm
    refine d_retC () Try.results16 ?_ trivial (fun W h => ok_pre (H1 := [_, _]) (R1 := [_, _]) h (fun W hφ => hφ)) (.inr rfl)
    refine res_tmp ?_
    refine res_nil ?_
    exact rfl
  ·
   replace hm := ite_f hm (of_decide_eq_false h29)
   refine g_no rfl rfl rfl rfl rfl h29 ?_
   refine g_v rfl (r_pick0 rfl h29) ?_
   refine g_v rfl r_move ?_
   refine g_no rfl rfl rfl rfl rfl rfl ?_
   refine g_no rfl rfl rfl rfl rfl rfl ?_
   refine g_no rfl rfl rfl rfl rfl rfl ?_
   refine g_no rfl rfl rfl rfl rfl rfl ?_
   refine g_v rfl (r_pick0 rfl rfl) ?_
   refine g_v rfl r_move ?_
   refine g_no rfl rfl rfl rfl rfl rfl ?_
   refine g_no rfl rfl rfl rfl rfl rfl ?_
   refine g_no rfl rfl rfl rfl rfl rfl ?_
   refine g_v rfl (r_pick0 rfl rfl) ?_
   refine g_v rfl r_move ?_
   refine g_no rfl rfl rfl rfl rfl rfl ?_
   refine g_no rfl rfl rfl rfl rfl rfl ?_
   refine g_no rfl rfl rfl rfl rfl rfl ?_
   refine g_v rfl (r_pick0 rfl rfl) ?_
   refine g_v rfl r_move ?_
   refine g_no rfl rfl rfl rfl rfl rfl ?_
   refine g_no rfl rfl rfl rfl rfl rfl ?_
   refine g_no rfl rfl rfl rfl rfl rfl ?_
   refine g_v rfl (r_pick0 rfl rfl) ?_
   refine g_v rfl r_move ?_
   refine g_no rfl rfl rfl rfl rfl rfl ?_
   refine g_no rfl rfl rfl rfl rfl rfl ?_
   refine g_v rfl (r_pick0 rfl rfl) ?_
   refine g_v rfl r_move ?_
   refine g_no rfl rfl rfl rfl rfl rfl ?_
   refine g_no rfl rfl rfl rfl rfl rfl ?_
   refine g_v rfl (r_pick0 rfl rfl) ?_
   refine g_v rfl r_assign ?_
   refine g_nil ?_
   refine d_then ?_
   refine c_flat [(0, .bool false)] ⟨rfl, trivial⟩ (fun u => ?_)
   refine c_sta ⟨w0, M, (100040, g27, .cells #[.string x22.fName, .int .u16 x22.fType, .int .u16 x22.fClass, .int .u32 x22.fTTL, .string x22.fData] 27 (0, 0)) :: (100075, g9, .cells #[.slice A13 x11.fb.length c14, mapV A16] 100 (0, 0)) :: H, (100070, ⟨.slice A13 x11.fb.length c14, 5, 1, x11.fb.length, x11.fb.flatMap (fun x : Int => [Value.int .u8 x])⟩) :: (100071, ⟨mapV A16, 98, 2, x11.fplaces.length, x11.fplaces.flatMap (mcell (fun x : ByteArray => Value.string x) (fun x : Int => Value.int .i64 x))⟩) :: R, φ⟩ (fun _ h => h) ?_
   refine c_ret ?_
   replace hm := Option.some.inj hm
   subst hm
   refine d_retC () Try.results16 ?_ trivial (fun W h => ok_pre (H1 := [_, _]) (R1 := [_, _]) h (fun W hφ => hφ)) (.inr rfl)
   refine res_tmp ?_
   refine res_nil ?_
   exact rfl
 ·
  replace hm := ite_f hm (of_decide_eq_false h28)
  refine g_no rfl rfl rfl rfl rfl h28 ?_
  refine g_v rfl (r_pick0 rfl h28) ?_
  refine g_v rfl r_move ?_
  refine g_no rfl rfl rfl rfl rfl rfl ?_
  refine g_no rfl rfl rfl rfl rfl rfl ?_
  refine g_v rfl (r_pick0 rfl rfl) ?_
  refine g_v rfl r_move ?_
  refine g_no rfl rfl rfl rfl rfl rfl ?_
  refine g_no rfl rfl rfl rfl rfl rfl ?_
  refine g_no rfl rfl rfl rfl rfl rfl ?_
  refine g_no rfl rfl rfl rfl rfl rfl ?_
  refine g_v rfl (r_pick0 rfl rfl) ?_
  refine g_v rfl r_move ?_
  refine g_no rfl rfl rfl rfl rfl rfl ?_
  refine g_no rfl rfl rfl rfl rfl rfl ?_
  refine g_no rfl rfl rfl rfl rfl rfl ?_
  refine g_v rfl (r_pick0 rfl rfl) ?_
  refine g_v rfl r_move ?_
  refine g_no rfl rfl rfl rfl rfl rfl ?_
  refine g_no rfl rfl rfl rfl rfl rfl ?_
  refine g_no rfl rfl rfl rfl rfl rfl ?_
  refine g_v rfl (r_pick0 rfl rfl) ?_
  refine g_v rfl r_move ?_
  refine g_no rfl rfl rfl rfl rfl rfl ?_
  refine g_no rfl rfl rfl rfl rfl rfl ?_
  refine g_no rfl rfl rfl rfl rfl rfl ?_
  refine g_v rfl (r_pick0 rfl rfl) ?_
  refine g_v rfl r_move ?_
  refine g_no rfl rfl rfl rfl rfl rfl ?_
  refine g_no rfl rfl rfl rfl rfl rfl ?_
  refine g_v rfl (r_pick0 rfl rfl) ?_
  refine g_v rfl r_move ?_
  refine g_no rfl rfl rfl rfl rfl rfl ?_
  refine g_no rfl rfl rfl rfl rfl rfl ?_
  refine g_v rfl (r_pick0 rfl rfl) ?_
  refine g_v rfl r_assign ?_
  refine g_nil ?_
  refine d_then ?_
  refine c_flat [(0, .bool false)] ⟨rfl, trivial⟩ (fun u => ?_)
  refine c_sta ⟨w0, M, (100040, g27, .cells #[.string x22.fName, .int .u16 x22.fType, .int .u16 x22.fClass, .int .u32 x22.fTTL, .string x22.fData] 27 (0, 0)) :: (100075, g9, .cells #[.slice A13 x11.fb.length c14, mapV A16] 100 (0, 0)) :: H, (100070, ⟨.slice A13 x11.fb.length c14, 5, 1, x11.fb.length, x11.fb.flatMap (fun x : Int => [Value.int .u8 x])⟩) :: (100071, ⟨mapV A16, 98, 2, x11.fplaces.length, x11.fplaces.flatMap (mcell (fun x : ByteArray => Value.string x) (fun x : Int => Value.int .i64 x))⟩) :: R, φ⟩ (fun _ h => h) ?_
  refine c_ret ?_
  replace hm := Option.some.inj hm
  subst hm
  refine d_retC () Try.results16 ?_ trivial (fun W h => ok_pre (H1 := [_, _]) (R1 := [_, _]) h (fun W hφ => hφ)) (.inr rfl)
  refine res_tmp ?_
  refine res_nil ?_
  exact rfl

noncomputable def m_record_Put_nil (p1 : GRR) : Option Int :=
  some 1
theorem c_record_Put_nil {w0 : World} {M : Nat → Prop} {H : List (Nat × Nat × Obj)} {R : List (Nat × Row)} {φ : World → Prop} (p1 : GRR) (r : Int) (hm : m_record_Put_nil p1 = some r) :
    Cn Try.prog 23 #[.pointer none, .agg #[.string p1.fName, .int .u16 p1.fType, .int .u16 p1.fClass, .int .u32 p1.fTTL, .string p1.fData]] ⟨w0, M, H, R, φ⟩ (fun x : Unit => .int .i64 r) (fun x => True) (fun x => ⟨w0, M, H, R, φ⟩) := by
 unfold m_record_Put_nil at hm
 refine cn_intro (fn := Try.f23) (N := 84) Try.func23 rfl Try.ntmps23 rfl ?_
 refine c_seq ?_
 refine c_region ?_
 refine g_e rfl (e_box 100030 rfl) (fun g1 _ => ?_)
 refine g_v rfl r_assign ?_
 refine g_nil ?_
 refine d_then ?_
 refine c_seq ?_
 refine c_seq ?_
 refine c_region ?_
 refine g_v rfl r_move ?_
 refine g_v rfl (r_eqlP2 Try.underlying33 rfl rfl) ?_
 refine g_nil ?_
 refine d_then ?_
 refine c_cond1 rfl rfl ?_
 refine c_seq ?_
 refine c_region ?_
 refine g_v rfl r_assign ?_
 refine g_nil ?_
 refine d_then ?_
 refine c_ret ?_
 refine d_ret_then ?_
 replace hm := Option.some.inj hm
 subst hm
 refine d_retC () Try.results23 ?_ trivial (fun W h => ok_pre (H1 := [_]) (R1 := []) h (fun W hφ => hφ)) (.inr rfl)
 refine res_tmp ?_
 refine res_nil ?_
 exact rfl

noncomputable def m_law05_RecordNil (p0 : GRR) : Option Bool :=
  (m_law05_awake).bind fun x2 =>
  if x2 = true then
    (m_record_Put_nil p0).bind fun x5 =>
    some (decide (x5 = 1))
  else
    some false
theorem c_law05_RecordNil {w0 : World} {M : Nat → Prop} {H : List (Nat × Nat × Obj)} {R : List (Nat × Row)} {φ : World → Prop} (p0 : GRR) (r : Bool) (hm : m_law05_RecordNil p0 = some r) :
    Cn Try.prog 6 #[.agg #[.string p0.fName, .int .u16 p0.fType, .int .u16 p0.fClass, .int .u32 p0.fTTL, .string p0.fData]] ⟨w0, M, H, R, φ⟩ (fun x : Unit => .bool r) (fun x => True) (fun x => ⟨w0, M, H, R, φ⟩) := by
 unfold m_law05_RecordNil at hm
 refine cn_intro (fn := Try.f6) (N := 9) Try.func6 rfl Try.ntmps6 rfl ?_
 refine c_seq ?_
 refine c_region ?_
 refine g_e rfl (e_box 100010 rfl) (fun g1 _ => ?_)
 refine g_v rfl r_assign ?_
 refine g_nil ?_
 refine d_then ?_
 refine c_seq ?_
 refine c_region ?_
 replace hm := bnd hm
 obtain ⟨x2, hx3, hm⟩ := hm
 refine g_cn ⟨w0, M, _, _, φ⟩ (fun _ h => h) Try.call16 rfl rfl (c_law05_awake  _ hx3) (fun _ _ => ?_)
 refine g_v rfl r_move ?_
 refine g_if rfl rfl rfl rfl rfl (fun h4 => ?_) (fun h4 => ?_)
 ·
  replace hm := ite_t hm h4
  refine g_v rfl (r_loadA (tag := 100010) rfl rfl Try.isAgg27 Try.sizeOf27 rfl rfl) ?_
  refine g_do rfl rfl rfl rfl rfl h4 ?_
  replace hm := bnd hm
  obtain ⟨x5, hx6, hm⟩ := hm
  refine g_cn ⟨w0, M, _, _, φ⟩ (fun _ h => h) Try.call23 rfl rfl (c_record_Put_nil p0 _ hx6) (fun _ _ => ?_)
  refine g_do rfl rfl rfl rfl rfl h4 ?_
  refine g_v rfl (r_eql rfl rfl) ?_
  refine g_v rfl (r_pick1 rfl h4) ?_
  refine g_v rfl r_assign ?_
  refine g_nil ?_
  refine d_then ?_
  refine c_flat [(2, .bool (decide (x5 = 1)))] ⟨rfl, trivial⟩ (fun u => ?_)
  refine c_sta ⟨w0, M, (100010, g1, .cells #[.string p0.fName, .int .u16 p0.fType, .int .u16 p0.fClass, .int .u32 p0.fTTL, .string p0.fData] 27 (0, 0)) :: H, R, φ⟩ (fun _ h => h) ?_
  refine c_ret ?_
  replace hm := Option.some.inj hm
  subst hm
  refine d_retC () Try.results6 ?_ trivial (fun W h => ok_pre (H1 := [_]) (R1 := []) h (fun W hφ => hφ)) (.inr rfl)
  refine res_tmp ?_
  refine res_nil ?_
  exact rfl
 ·
  replace hm := ite_f hm (bool_nt h4)
  refine g_no rfl rfl rfl rfl rfl h4 ?_
  refine g_no rfl rfl rfl rfl rfl h4 ?_
  refine g_v rfl (r_pick0 rfl h4) ?_
  refine g_v rfl r_assign ?_
  refine g_nil ?_
  refine d_then ?_
  refine c_ret ?_
  replace hm := Option.some.inj hm
  subst hm
  refine d_retC () Try.results6 ?_ trivial (fun W h => ok_pre (H1 := [_]) (R1 := []) h (fun W hφ => hφ)) (.inr rfl)
  refine res_tmp ?_
  refine res_nil ?_
  exact rfl

end Go.Proofs.Ytpdhdpefdgndeaa
