import Derived.Test.YtpdhdpefdgndeaaWRSA
set_option maxRecDepth 100000
set_option maxHeartbeats 4000000
set_option linter.unusedVariables false
set_option linter.unusedSimpArgs false
namespace Go.Proofs.Ytpdhdpefdgndeaa
open Go.RowKit Go.Proofs.YtpdhdpefdgndeaaW.PrintLast
noncomputable def m_record_Get_j3 (x3 : ByteArray) (x14 : Int) (i27 : Int) (i36 : Int) (x55 : Int) (s86 : ByteArray) : Option (GRR × Int × Int) :=
  (m_record_Check (⟨x3, x14, i27, i36, s86⟩ : GRR)).bind fun x87 =>
  if x87 ≠ 0 then
    (m_record_Get_c1 x87).bind fun (z94 : GRR × Int × Int) =>
    some (z94.1, z94.2.1, z94.2.2)
  else
    some ((⟨x3, x14, i27, i36, s86⟩ : GRR), x55, 0)
noncomputable def m_record_Get_j2 (p0 : ByteArray) (x14 : Int) (x3 : ByteArray) (i27 : Int) (i34 : Int) (i35 : Int) (i36 : Int) : Option (GRR × Int × Int) :=
  if i35 ≠ 0 then
    (m_record_Get_c1 i35).bind fun (z42 : GRR × Int × Int) =>
    some (z42.1, z42.2.1, z42.2.2)
  else
    (m_pack_Word p0 i34).bind fun (z47 : Int × Int × Int) =>
    if z47.2.2 ≠ 0 then
      (m_record_Get_c1 z47.2.2).bind fun (z53 : GRR × Int × Int) =>
      some (z53.1, z53.2.1, z53.2.2)
    else
      (m_pack_Raw p0 z47.2.1 (w64 z47.1)).bind fun (z58 : ByteArray × Int × Int) =>
      if z58.2.2 ≠ 0 then
        (m_record_Get_c1 z58.2.2).bind fun (z64 : GRR × Int × Int) =>
        some (z64.1, z64.2.1, z64.2.2)
      else
        (m_record_shapeOf x14).bind fun x65 =>
        if 0 < x65.fnames then
          (m_record_full p0 z47.2.1 x65).bind fun (z100 : ByteArray × Int × Int) =>
          if z100.2.2 ≠ 0 then
            (m_record_Get_c1 z100.2.2).bind fun (z106 : GRR × Int × Int) =>
            some (z106.1, z106.2.1, z106.2.2)
          else
            if z100.2.1 ≠ z58.2.1 then
              (m_record_Get_c1 10).bind fun (z112 : GRR × Int × Int) =>
              some (z112.1, z112.2.1, z112.2.2)
            else
              m_record_Get_j3 x3 x14 i27 i36 z58.2.1 z100.1
        else
          m_record_Get_j3 x3 x14 i27 i36 z58.2.1 z58.1
noncomputable def m_record_Get_j1 (p0 : ByteArray) (x14 : Int) (x3 : ByteArray) (i25 : Int) (i26 : Int) (i27 : Int) : Option (GRR × Int × Int) :=
  if i26 = 0 then
    (m_pack_Long p0 i25).bind fun (z118 : Int × Int × Int) =>
    m_record_Get_j2 p0 x14 x3 i27 z118.2.1 z118.2.2 z118.1
  else
    m_record_Get_j2 p0 x14 x3 i27 i25 i26 0
noncomputable def m_record_Get (p0 : ByteArray) (p1 : Int) : Option (GRR × Int × Int) :=
  (m_pack_Name p0 p1).bind fun (z7 : ByteArray × Int × Int) =>
  if z7.2.2 ≠ 0 then
    (m_record_Get_c1 z7.2.2).bind fun (z13 : GRR × Int × Int) =>
    some (z13.1, z13.2.1, z13.2.2)
  else
    (m_pack_Word p0 z7.2.1).bind fun (z18 : Int × Int × Int) =>
    if z18.2.2 = 0 then
      (m_pack_Word p0 z18.2.1).bind fun (z124 : Int × Int × Int) =>
      m_record_Get_j1 p0 z18.1 z7.1 z124.2.1 z124.2.2 z124.1
    else
      m_record_Get_j1 p0 z18.1 z7.1 z18.2.1 z18.2.2 0
theorem c_record_Get {w0 : World} {M : Nat → Prop} {H : List (Nat × Nat × Obj)} {R : List (Nat × Row)} {φ : World → Prop} (p0 : ByteArray) (p1 : Int) (r : GRR × Int × Int) (hm : m_record_Get p0 p1 = some r) :
    Cn Try.prog 18 #[.string p0, .int .i64 p1] ⟨w0, M, H, R, φ⟩ (fun x : Unit => .tuple #[.agg #[.string r.1.fName, .int .u16 r.1.fType, .int .u16 r.1.fClass, .int .u32 r.1.fTTL, .string r.1.fData], .int .i64 r.2.1, .int .i64 r.2.2]) (fun x => True) (fun x => ⟨w0, M, H, R, φ⟩) := by
 unfold m_record_Get at hm
 refine cn_intro (fn := Try.f18) (N := 151) Try.func18 rfl Try.ntmps18 rfl ?_
 refine c_seq ?_
 refine c_region ?_
 refine g_e rfl (e_alloc 100040 Try.zeroValue27) (fun g1 _ => ?_)
 refine g_v rfl r_assign ?_
 refine g_v rfl r_assign ?_
 refine g_nil ?_
 refine d_then ?_
 refine c_seq ?_
 refine c_region ?_
 refine g_e rfl (e_alloc 100070 Try.zeroValue27) (fun g2 _ => ?_)
 refine g_nil ?_
 refine d_then ?_
 refine c_seq ?_
 refine c_region ?_
 refine g_v rfl r_assign ?_
 refine g_nil ?_
 refine d_then ?_
 refine c_seq ?_
 refine c_region ?_
 refine g_v rfl r_move ?_
 refine g_v rfl r_move ?_
 replace hm := bnd hm
 obtain ⟨⟨x3, x4, x5⟩, hx6, hm⟩ := hm
 refine g_cn ⟨w0, M, _, _, φ⟩ (fun _ h => h) Try.call57 rfl rfl (c_pack_Name p0 p1 _ hx6) (fun _ _ => ?_)
 refine g_v rfl r_move ?_
 refine g_v rfl (r_extract rfl rfl) ?_
 refine g_v rfl (r_extract rfl rfl) ?_
 refine g_v rfl (r_extract rfl rfl) ?_
 refine g_v rfl r_assign ?_
 refine g_v rfl r_assign ?_
 refine g_v rfl r_assign ?_
 refine g_nil ?_
 refine d_then ?_
 refine c_flat [(0, .string p0), (1, .int .i64 x4), (4, .pointer (some ⟨g1, 0, none⟩)), (7, .pointer (some ⟨g2, 0, none⟩)), (8, .func (.func 56) #[] #[]), (9, .string x3), (10, .int .i64 x5)] ⟨rfl, rfl, rfl, rfl, rfl, rfl, rfl, trivial⟩ (fun u => ?_)
 refine c_sta ⟨w0, M, (100070, g2, .cells #[.string (⟨#[]⟩ : ByteArray), .int .u16 0, .int .u16 0, .int .u32 0, .string (⟨#[]⟩ : ByteArray)] 27 (0, 0)) :: (100040, g1, .cells #[.string (⟨#[]⟩ : ByteArray), .int .u16 0, .int .u16 0, .int .u32 0, .string (⟨#[]⟩ : ByteArray)] 27 (0, 0)) :: H, R, φ⟩ (fun _ h => h) ?_
 refine c_seq ?_
 refine c_seq ?_
 refine c_region ?_
 refine g_v rfl r_move ?_
 refine g_v rfl (r_neq rfl rfl) ?_
 refine g_nil ?_
 refine d_then ?_
 refine c_cond rfl (fun h8 => ?_) (fun h8 => ?_)
 ·
  replace hm := ite_t hm (of_decide_eq_true h8)
  refine c_seq ?_
  refine c_region ?_
  refine g_v rfl r_move ?_
  refine g_v rfl r_move ?_
  replace hm := bnd hm
  obtain ⟨⟨x9, x10, x11⟩, hx12, hm⟩ := hm
  refine g_cnv ⟨w0, M, _, _, φ⟩ (fun _ h => h) Try.call56 rfl rfl rfl (c_record_Get_c1 x5 _ hx12) (fun _ _ => ?_)
  refine g_v rfl (r_extract rfl rfl) ?_
  refine g_v rfl (r_extract rfl rfl) ?_
  refine g_v rfl (r_extract rfl rfl) ?_
  refine g_storeL (tag := 100040) rfl rfl rfl rfl Try.sizeOf27 rfl rfl ?_
  refine g_v rfl r_assign ?_
  refine g_v rfl r_assign ?_
  refine g_nil ?_
  refine d_then ?_
  refine c_flat [(4, .pointer (some ⟨g1, 0, none⟩)), (5, .int .i64 x10), (6, .int .i64 x11)] ⟨rfl, rfl, rfl, trivial⟩ (fun u => ?_)
  refine c_sta ⟨w0, M, (100070, g2, .cells #[.string (⟨#[]⟩ : ByteArray), .int .u16 0, .int .u16 0, .int .u32 0, .string (⟨#[]⟩ : ByteArray)] 27 (0, 0)) :: (100040, g1, .cells #[.string x9.fName, .int .u16 x9.fType, .int .u16 x9.fClass, .int .u32 x9.fTTL, .string x9.fData] 27 (0, 0)) :: H, R, φ⟩ (fun _ h => h) ?_
  refine c_ret ?_
  refine d_ret_then ?_
  replace hm := Option.some.inj hm
  subst hm
  refine d_retC () Try.results18 ?_ trivial (fun W h => ok_pre (H1 := [_, _]) (R1 := []) h (fun W hφ => hφ)) (.inr rfl)
  refine res_agg (tag := 100040) rfl rfl Try.isAgg27 Try.sizeOf27 ?_
  refine res_tmp ?_
  refine res_tmp ?_
  refine res_nil ?_
  exact rfl
 ·
  replace hm := ite_f hm (of_decide_eq_false h8)
  refine c_skip ?_
  refine d_then ?_
  refine c_seq ?_
  refine c_region ?_
  refine g_v rfl r_move ?_
  refine g_v rfl (r_field (n := 0) Try.underlying27 rfl Try.sizeOf9 rfl rfl) ?_
  refine g_storeL (tag := 100070) rfl rfl rfl rfl Try.sizeOf9 rfl rfl ?_
  refine g_nil ?_
  refine d_then ?_
  refine c_seq ?_
  refine c_region ?_
  refine g_v rfl r_move ?_
  refine g_v rfl r_move ?_
  replace hm := bnd hm
  obtain ⟨⟨x14, x15, x16⟩, hx17, hm⟩ := hm
  refine g_cn ⟨w0, M, _, _, φ⟩ (fun _ h => h) Try.call58 rfl rfl (c_pack_Word p0 x4 _ hx17) (fun _ _ => ?_)
  refine g_v rfl r_move ?_
  refine g_v rfl (r_extract rfl rfl) ?_
  refine g_v rfl (r_extract rfl rfl) ?_
  refine g_v rfl (r_extract rfl rfl) ?_
  refine g_v rfl (r_field (n := 1) Try.underlying27 rfl Try.sizeOf24 rfl rfl) ?_
  refine g_storeL (tag := 100070) rfl rfl rfl rfl Try.sizeOf24 rfl rfl ?_
  refine g_v rfl r_assign ?_
  refine g_v rfl r_assign ?_
  refine g_nil ?_
  refine d_then ?_
  refine c_flat [(0, .string p0), (1, .int .i64 x15), (4, .pointer (some ⟨g1, 0, none⟩)), (7, .pointer (some ⟨g2, 0, none⟩)), (8, .func (.func 56) #[] #[]), (10, .int .i64 x16)] ⟨rfl, rfl, rfl, rfl, rfl, rfl, trivial⟩ (fun u => ?_)
  refine c_sta ⟨w0, M, (100070, g2, .cells #[.string x3, .int .u16 x14, .int .u16 0, .int .u32 0, .string (⟨#[]⟩ : ByteArray)] 27 (0, 0)) :: (100040, g1, .cells #[.string (⟨#[]⟩ : ByteArray), .int .u16 0, .int .u16 0, .int .u32 0, .string (⟨#[]⟩ : ByteArray)] 27 (0, 0)) :: H, R, φ⟩ (fun _ h => h) ?_
  refine c_seq ?_
  refine c_cut (ι := Int × Int × Int) [0, 1, 4, 7, 8, 10] (fun ⟨i25, i26, i27⟩ => [(1, .int .i64 i25), (10, .int .i64 i26)]) (fun ⟨i25, i26, i27⟩ => ⟨w0, M, (100070, g2, .cells #[.string x3, .int .u16 x14, .int .u16 i27, .int .u32 0, .string (⟨#[]⟩ : ByteArray)] 27 (0, 0)) :: (100040, g1, .cells #[.string (⟨#[]⟩ : ByteArray), .int .u16 0, .int .u16 0, .int .u32 0, .string (⟨#[]⟩ : ByteArray)] 27 (0, 0)) :: H, R, φ⟩) (fun ⟨i25, i26, i27⟩ => m_record_Get_j1 p0 x14 x3 i25 i26 i27 = some r) ?_ (fun ⟨i25, i26, i27⟩ u hm => ?_)
  ·
   refine c_seq ?_
   refine c_region ?_
   refine g_v rfl r_move ?_
   refine g_v rfl (r_eql rfl rfl) ?_
   refine g_nil ?_
   refine d_then ?_
   refine c_cond rfl (fun h119 => ?_) (fun h119 => ?_)
   ·
    replace hm := ite_t hm (of_decide_eq_true h119)
    refine c_region ?_
    refine g_v rfl r_move ?_
    refine g_v rfl r_move ?_
    replace hm := bnd hm
    obtain ⟨⟨x120, x121, x122⟩, hx123, hm⟩ := hm
    refine g_cn ⟨w0, M, _, _, φ⟩ (fun _ h => h) Try.call58 rfl rfl (c_pack_Word p0 x15 _ hx123) (fun _ _ => ?_)
    refine g_v rfl r_move ?_
    refine g_v rfl (r_extract rfl rfl) ?_
    refine g_v rfl (r_extract rfl rfl) ?_
    refine g_v rfl (r_extract rfl rfl) ?_
    refine g_v rfl (r_field (n := 2) Try.underlying27 rfl Try.sizeOf24 rfl rfl) ?_
    refine g_storeL (tag := 100070) rfl rfl rfl rfl Try.sizeOf24 rfl rfl ?_
    refine g_v rfl r_assign ?_
    refine g_v rfl r_assign ?_
    refine g_nil ?_
    exact d_round (x121, x122, x120) hm Nat.zero_lt_one ⟨rfl, rfl, rfl, rfl, rfl, rfl, trivial⟩ (fun W h => h.phi (fun W hφ => hφ))
   ·
    replace hm := ite_f hm (of_decide_eq_false h119)
    refine c_skip ?_
    exact d_round (x15, x16, 0) hm Nat.zero_lt_one ⟨rfl, rfl, rfl, rfl, rfl, rfl, trivial⟩ (fun W h => h.phi (fun W hφ => hφ))
  ·
   unfold m_record_Get_j1 at hm
   refine d_flat [(0, .string p0), (1, .int .i64 i25), (4, .pointer (some ⟨g1, 0, none⟩)), (7, .pointer (some ⟨g2, 0, none⟩)), (8, .func (.func 56) #[] #[]), (10, .int .i64 i26)] ⟨rfl, rfl, rfl, rfl, rfl, rfl, trivial⟩ (fun u => ?_)
   refine d_sta ⟨w0, M, (100070, g2, .cells #[.string x3, .int .u16 x14, .int .u16 i27, .int .u32 0, .string (⟨#[]⟩ : ByteArray)] 27 (0, 0)) :: (100040, g1, .cells #[.string (⟨#[]⟩ : ByteArray), .int .u16 0, .int .u16 0, .int .u32 0, .string (⟨#[]⟩ : ByteArray)] 27 (0, 0)) :: H, R, φ⟩ (fun _ h => h) ?_
   refine d_then ?_
   refine c_seq ?_
   refine c_cut (ι := Int × Int × Int) [0, 1, 4, 7, 8, 10] (fun ⟨i34, i35, i36⟩ => [(1, .int .i64 i34), (10, .int .i64 i35)]) (fun ⟨i34, i35, i36⟩ => ⟨w0, M, (100070, g2, .cells #[.string x3, .int .u16 x14, .int .u16 i27, .int .u32 i36, .string (⟨#[]⟩ : ByteArray)] 27 (0, 0)) :: (100040, g1, .cells #[.string (⟨#[]⟩ : ByteArray), .int .u16 0, .int .u16 0, .int .u32 0, .string (⟨#[]⟩ : ByteArray)] 27 (0, 0)) :: H, R, φ⟩) (fun ⟨i34, i35, i36⟩ => m_record_Get_j2 p0 x14 x3 i27 i34 i35 i36 = some r) ?_ (fun ⟨i34, i35, i36⟩ u hm => ?_)
   ·
    refine c_seq ?_
    refine c_region ?_
    refine g_v rfl r_move ?_
    refine g_v rfl (r_eql rfl rfl) ?_
    refine g_nil ?_
    refine d_then ?_
    refine c_cond rfl (fun h113 => ?_) (fun h113 => ?_)
    ·
     replace hm := ite_t hm (of_decide_eq_true h113)
     refine c_region ?_
     refine g_v rfl r_move ?_
     refine g_v rfl r_move ?_
     replace hm := bnd hm
     obtain ⟨⟨x114, x115, x116⟩, hx117, hm⟩ := hm
     refine g_cn ⟨w0, M, _, _, φ⟩ (fun _ h => h) Try.call59 rfl rfl (c_pack_Long p0 i25 _ hx117) (fun _ _ => ?_)
     refine g_v rfl r_move ?_
     refine g_v rfl (r_extract rfl rfl) ?_
     refine g_v rfl (r_extract rfl rfl) ?_
     refine g_v rfl (r_extract rfl rfl) ?_
     refine g_v rfl (r_field (n := 3) Try.underlying27 rfl Try.sizeOf25 rfl rfl) ?_
     refine g_storeL (tag := 100070) rfl rfl rfl rfl Try.sizeOf25 rfl rfl ?_
     refine g_v rfl r_assign ?_
     refine g_v rfl r_assign ?_
     refine g_nil ?_
     exact d_round (x115, x116, x114) hm Nat.zero_lt_one ⟨rfl, rfl, rfl, rfl, rfl, rfl, trivial⟩ (fun W h => h.phi (fun W hφ => hφ))
    ·
     replace hm := ite_f hm (of_decide_eq_false h113)
     refine c_skip ?_
     exact d_round (i25, i26, 0) hm Nat.zero_lt_one ⟨rfl, rfl, rfl, rfl, rfl, rfl, trivial⟩ (fun W h => h.phi (fun W hφ => hφ))
   ·
    unfold m_record_Get_j2 at hm
    refine d_flat [(0, .string p0), (1, .int .i64 i34), (4, .pointer (some ⟨g1, 0, none⟩)), (7, .pointer (some ⟨g2, 0, none⟩)), (8, .func (.func 56) #[] #[]), (10, .int .i64 i35)] ⟨rfl, rfl, rfl, rfl, rfl, rfl, trivial⟩ (fun u => ?_)
    refine d_sta ⟨w0, M, (100070, g2, .cells #[.string x3, .int .u16 x14, .int .u16 i27, .int .u32 i36, .string (⟨#[]⟩ : ByteArray)] 27 (0, 0)) :: (100040, g1, .cells #[.string (⟨#[]⟩ : ByteArray), .int .u16 0, .int .u16 0, .int .u32 0, .string (⟨#[]⟩ : ByteArray)] 27 (0, 0)) :: H, R, φ⟩ (fun _ h => h) ?_
    refine d_then ?_
    refine c_seq ?_
    refine c_seq ?_
    refine c_region ?_
    refine g_v rfl r_move ?_
    refine g_v rfl (r_neq rfl rfl) ?_
    refine g_nil ?_
    refine d_then ?_
    refine c_cond rfl (fun h37 => ?_) (fun h37 => ?_)
    ·
     replace hm := ite_t hm (of_decide_eq_true h37)
     refine c_seq ?_
     refine c_region ?_
     refine g_v rfl r_move ?_
     refine g_v rfl r_move ?_
     replace hm := bnd hm
     obtain ⟨⟨x38, x39, x40⟩, hx41, hm⟩ := hm
     refine g_cnv ⟨w0, M, _, _, φ⟩ (fun _ h => h) Try.call56 rfl rfl rfl (c_record_Get_c1 i35 _ hx41) (fun _ _ => ?_)
     refine g_v rfl (r_extract rfl rfl) ?_
     refine g_v rfl (r_extract rfl rfl) ?_
     refine g_v rfl (r_extract rfl rfl) ?_
     refine g_storeL (tag := 100040) rfl rfl rfl rfl Try.sizeOf27 rfl rfl ?_
     refine g_v rfl r_assign ?_
     refine g_v rfl r_assign ?_
     refine g_nil ?_
     refine d_then ?_
     refine c_flat [(4, .pointer (some ⟨g1, 0, none⟩)), (5, .int .i64 x39), (6, .int .i64 x40)] ⟨rfl, rfl, rfl, trivial⟩ (fun u => ?_)
     refine c_sta ⟨w0, M, (100070, g2, .cells #[.string x3, .int .u16 x14, .int .u16 i27, .int .u32 i36, .string (⟨#[]⟩ : ByteArray)] 27 (0, 0)) :: (100040, g1, .cells #[.string x38.fName, .int .u16 x38.fType, .int .u16 x38.fClass, .int .u32 x38.fTTL, .string x38.fData] 27 (0, 0)) :: H, R, φ⟩ (fun _ h => h) ?_
     refine c_ret ?_
     refine d_ret_then ?_
     replace hm := Option.some.inj hm
     subst hm
     refine d_retC () Try.results18 ?_ trivial (fun W h => ok_pre (H1 := [_, _]) (R1 := []) h (fun W hφ => hφ)) (.inr rfl)
     refine res_agg (tag := 100040) rfl rfl Try.isAgg27 Try.sizeOf27 ?_
     refine res_tmp ?_
     refine res_tmp ?_
     refine res_nil ?_
     exact rfl
    ·
     replace hm := ite_f hm (of_decide_eq_false h37)
     refine c_skip ?_
     refine d_then ?_
     refine c_seq ?_
     refine c_region ?_
     refine g_v rfl r_move ?_
     refine g_v rfl r_move ?_
     replace hm := bnd hm
     obtain ⟨⟨x43, x44, x45⟩, hx46, hm⟩ := hm
     refine g_cn ⟨w0, M, _, _, φ⟩ (fun _ h => h) Try.call58 rfl rfl (c_pack_Word p0 i34 _ hx46) (fun _ _ => ?_)
     refine g_v rfl r_move ?_
     refine g_v rfl (r_extract rfl rfl) ?_
     refine g_v rfl (r_extract rfl rfl) ?_
     refine g_v rfl (r_extract rfl rfl) ?_
     refine g_v rfl r_assign ?_
     refine g_v rfl r_assign ?_
     refine g_v rfl r_assign ?_
     refine g_nil ?_
     refine d_then ?_
     refine c_flat [(0, .string p0), (1, .int .i64 x44), (4, .pointer (some ⟨g1, 0, none⟩)), (7, .pointer (some ⟨g2, 0, none⟩)), (8, .func (.func 56) #[] #[]), (10, .int .i64 x45), (11, .int .u16 x43)] ⟨rfl, rfl, rfl, rfl, rfl, rfl, rfl, trivial⟩ (fun u => ?_)
     refine c_sta ⟨w0, M, (100070, g2, .cells #[.string x3, .int .u16 x14, .int .u16 i27, .int .u32 i36, .string (⟨#[]⟩ : ByteArray)] 27 (0, 0)) :: (100040, g1, .cells #[.string (⟨#[]⟩ : ByteArray), .int .u16 0, .int .u16 0, .int .u32 0, .string (⟨#[]⟩ : ByteArray)] 27 (0, 0)) :: H, R, φ⟩ (fun _ h => h) ?_
     refine c_seq ?_
     refine c_seq ?_
     refine c_region ?_
     refine g_v rfl r_move ?_
     refine g_v rfl (r_neq rfl rfl) ?_
     refine g_nil ?_
     refine d_then ?_
     refine c_cond rfl (fun h48 => ?_) (fun h48 => ?_)
     ·
      replace hm := ite_t hm (of_decide_eq_true h48)
      refine c_seq ?_
      refine c_region ?_
      refine g_v rfl r_move ?_
      refine g_v rfl r_move ?_
      replace hm := bnd hm
      obtain ⟨⟨x49, x50, x51⟩, hx52, hm⟩ := hm
      refine g_cnv ⟨w0, M, _, _, φ⟩ (fun _ h => h) Try.call56 rfl rfl rfl (c_record_Get_c1 x45 _ hx52) (fun _ _ => ?_)
      refine g_v rfl (r_extract rfl rfl) ?_
      refine g_v rfl (r_extract rfl rfl) ?_
      refine g_v rfl (r_extract rfl rfl) ?_
      refine g_storeL (tag := 100040) rfl rfl rfl rfl Try.sizeOf27 rfl rfl ?_
      refine g_v rfl r_assign ?_
      refine g_v rfl r_assign ?_
      refine g_nil ?_
      refine d_then ?_
      refine c_flat [(4, .pointer (some ⟨g1, 0, none⟩)), (5, .int .i64 x50), (6, .int .i64 x51)] ⟨rfl, rfl, rfl, trivial⟩ (fun u => ?_)
      refine c_sta ⟨w0, M, (100070, g2, .cells #[.string x3, .int .u16 x14, .int .u16 i27, .int .u32 i36, .string (⟨#[]⟩ : ByteArray)] 27 (0, 0)) :: (100040, g1, .cells #[.string x49.fName, .int .u16 x49.fType, .int .u16 x49.fClass, .int .u32 x49.fTTL, .string x49.fData] 27 (0, 0)) :: H, R, φ⟩ (fun _ h => h) ?_
      refine c_ret ?_
      refine d_ret_then ?_
      replace hm := Option.some.inj hm
      subst hm
      refine d_retC () Try.results18 ?_ trivial (fun W h => ok_pre (H1 := [_, _]) (R1 := []) h (fun W hφ => hφ)) (.inr rfl)
      refine res_agg (tag := 100040) rfl rfl Try.isAgg27 Try.sizeOf27 ?_
      refine res_tmp ?_
      refine res_tmp ?_
      refine res_nil ?_
      exact rfl
     ·
      replace hm := ite_f hm (of_decide_eq_false h48)
      refine c_skip ?_
      refine d_then ?_
      refine c_seq ?_
      refine c_region ?_
      refine g_v rfl r_move ?_
      refine g_v rfl r_move ?_
      refine g_v rfl r_move ?_
      refine g_v rfl (r_conv Try.underlying24 Try.underlying3 rfl rfl) ?_
      replace hm := bnd hm
      obtain ⟨⟨x54, x55, x56⟩, hx57, hm⟩ := hm
      refine g_cn ⟨w0, M, _, _, φ⟩ (fun _ h => h) Try.call60 rfl rfl (c_pack_Raw p0 x44 (w64 x43) _ hx57) (fun _ _ => ?_)
      refine g_v rfl r_move ?_
      refine g_v rfl (r_extract rfl rfl) ?_
      refine g_v rfl (r_extract rfl rfl) ?_
      refine g_v rfl (r_extract rfl rfl) ?_
      refine g_v rfl r_assign ?_
      refine g_v rfl r_assign ?_
      refine g_v rfl r_assign ?_
      refine g_nil ?_
      refine d_then ?_
      refine c_flat [(0, .string p0), (1, .int .i64 x44), (4, .pointer (some ⟨g1, 0, none⟩)), (7, .pointer (some ⟨g2, 0, none⟩)), (8, .func (.func 56) #[] #[]), (10, .int .i64 x56), (12, .string x54), (13, .int .i64 x55)] ⟨rfl, rfl, rfl, rfl, rfl, rfl, rfl, rfl, trivial⟩ (fun u => ?_)
      refine c_sta ⟨w0, M, (100070, g2, .cells #[.string x3, .int .u16 x14, .int .u16 i27, .int .u32 i36, .string (⟨#[]⟩ : ByteArray)] 27 (0, 0)) :: (100040, g1, .cells #[.string (⟨#[]⟩ : ByteArray), .int .u16 0, .int .u16 0, .int .u32 0, .string (⟨#[]⟩ : ByteArray)] 27 (0, 0)) :: H, R, φ⟩ (fun _ h => h) ?_
      refine c_seq ?_
      refine c_seq ?_
      refine c_region ?_
      refine g_v rfl r_move ?_
      refine g_v rfl (r_neq rfl rfl) ?_
      refine g_nil ?_
      refine d_then ?_
      refine c_cond rfl (fun h59 => ?_) (fun h59 => ?_)
      ·
       replace hm := ite_t hm (of_decide_eq_true h59)
       refine c_seq ?_
       refine c_region ?_
       refine g_v rfl r_move ?_
       refine g_v rfl r_move ?_
       replace hm := bnd hm
       obtain ⟨⟨x60, x61, x62⟩, hx63, hm⟩ := hm
       refine g_cnv ⟨w0, M, _, _, φ⟩ (fun _ h => h) Try.call56 rfl rfl rfl (c_record_Get_c1 x56 _ hx63) (fun _ _ => ?_)
       refine g_v rfl (r_extract rfl rfl) ?_
       refine g_v rfl (r_extract rfl rfl) ?_
       refine g_v rfl (r_extract rfl rfl) ?_
       refine g_storeL (tag := 100040) rfl rfl rfl rfl Try.sizeOf27 rfl rfl ?_
       refine g_v rfl r_assign ?_
       refine g_v rfl r_assign ?_
       refine g_nil ?_
       refine d_then ?_
       refine c_flat [(4, .pointer (some ⟨g1, 0, none⟩)), (5, .int .i64 x61), (6, .int .i64 x62)] ⟨rfl, rfl, rfl, trivial⟩ (fun u => ?_)
       refine c_sta ⟨w0, M, (100070, g2, .cells #[.string x3, .int .u16 x14, .int .u16 i27, .int .u32 i36, .string (⟨#[]⟩ : ByteArray)] 27 (0, 0)) :: (100040, g1, .cells #[.string x60.fName, .int .u16 x60.fType, .int .u16 x60.fClass, .int .u32 x60.fTTL, .string x60.fData] 27 (0, 0)) :: H, R, φ⟩ (fun _ h => h) ?_
       refine c_ret ?_
       refine d_ret_then ?_
       replace hm := Option.some.inj hm
       subst hm
       refine d_retC () Try.results18 ?_ trivial (fun W h => ok_pre (H1 := [_, _]) (R1 := []) h (fun W hφ => hφ)) (.inr rfl)
       refine res_agg (tag := 100040) rfl rfl Try.isAgg27 Try.sizeOf27 ?_
       refine res_tmp ?_
       refine res_tmp ?_
       refine res_nil ?_
       exact rfl
      ·
       replace hm := ite_f hm (of_decide_eq_false h59)
       refine c_skip ?_
       refine d_then ?_
       refine c_seq ?_
       refine c_region ?_
       refine g_v rfl r_move ?_
       refine g_v rfl (r_field (n := 4) Try.underlying27 rfl Try.sizeOf9 rfl rfl) ?_
       refine g_storeL (tag := 100070) rfl rfl rfl rfl Try.sizeOf9 rfl rfl ?_
       refine g_nil ?_
       refine d_then ?_
       refine c_seq ?_
       refine c_region ?_
       refine g_v rfl (r_field (n := 1) Try.underlying27 rfl Try.sizeOf24 rfl rfl) ?_
       refine g_v rfl (r_load (tag := 100070) rfl rfl rfl Try.isAgg24) ?_
       replace hm := bnd hm
       obtain ⟨x65, hx66, hm⟩ := hm
       refine g_cn ⟨w0, M, _, _, φ⟩ (fun _ h => h) Try.call61 rfl rfl (c_record_shapeOf x14 _ hx66) (fun _ _ => ?_)
       refine g_e rfl (e_alloc 100140 Try.zeroValue90) (fun g67 _ => ?_)
       refine g_storeL (tag := 100140) rfl rfl rfl rfl Try.sizeOf90 rfl rfl ?_
       refine g_nil ?_
       refine d_then ?_
       refine c_flat [(0, .string p0), (1, .int .i64 x44), (4, .pointer (some ⟨g1, 0, none⟩)), (7, .pointer (some ⟨g2, 0, none⟩)), (8, .func (.func 56) #[] #[]), (13, .int .i64 x55), (14, .pointer (some ⟨g67, 0, none⟩))] ⟨rfl, rfl, rfl, rfl, rfl, rfl, rfl, trivial⟩ (fun u => ?_)
       refine c_sta ⟨w0, M, (100140, g67, .cells #[.int .i64 x65.fahead, .int .i64 x65.fnames, .int .i64 x65.fbehind] 90 (0, 0)) :: (100070, g2, .cells #[.string x3, .int .u16 x14, .int .u16 i27, .int .u32 i36, .string x54] 27 (0, 0)) :: (100040, g1, .cells #[.string (⟨#[]⟩ : ByteArray), .int .u16 0, .int .u16 0, .int .u32 0, .string (⟨#[]⟩ : ByteArray)] 27 (0, 0)) :: H, R, φ⟩ (fun _ h => h) ?_
       refine c_seq ?_
       refine c_cut (ι := ByteArray) [4, 7, 8, 13] (fun s86 => []) (fun s86 => ⟨w0, M, (100070, g2, .cells #[.string x3, .int .u16 x14, .int .u16 i27, .int .u32 i36, .string s86] 27 (0, 0)) :: (100040, g1, .cells #[.string (⟨#[]⟩ : ByteArray), .int .u16 0, .int .u16 0, .int .u32 0, .string (⟨#[]⟩ : ByteArray)] 27 (0, 0)) :: H, R, φ⟩) (fun s86 => m_record_Get_j3 x3 x14 i27 i36 x55 s86 = some r) ?_ (fun s86 u hm => ?_)
       ·
        refine c_seq ?_
        refine c_region ?_
        refine g_v rfl (r_field (n := 1) Try.underlying90 rfl Try.sizeOf3 rfl rfl) ?_
        refine g_v rfl (r_load (tag := 100140) rfl rfl rfl Try.isAgg3) ?_
        refine g_v rfl (r_gtr rfl rfl) ?_
        refine g_nil ?_
        refine d_then ?_
        refine c_cond rfl (fun h95 => ?_) (fun h95 => ?_)
        ·
         replace hm := ite_t hm (of_decide_eq_true h95)
         refine c_seq ?_
         refine c_region ?_
         refine g_v rfl r_move ?_
         refine g_v rfl r_move ?_
         refine g_v rfl (r_loadA (tag := 100140) rfl rfl Try.isAgg90 Try.sizeOf90 rfl rfl) ?_
         replace hm := bnd hm
         obtain ⟨⟨x96, x97, x98⟩, hx99, hm⟩ := hm
         refine g_cn ⟨w0, M, _, _, φ⟩ (fun _ h => h) Try.call62 rfl rfl (c_record_full p0 x44 x65 _ hx99) (fun _ _ => ?_)
         refine g_v rfl r_move ?_
         refine g_v rfl (r_extract rfl rfl) ?_
         refine g_v rfl (r_extract rfl rfl) ?_
         refine g_v rfl (r_extract rfl rfl) ?_
         refine g_v rfl r_assign ?_
         refine g_v rfl r_assign ?_
         refine g_v rfl r_assign ?_
         refine g_nil ?_
         refine d_then ?_
         refine c_flat [(4, .pointer (some ⟨g1, 0, none⟩)), (7, .pointer (some ⟨g2, 0, none⟩)), (8, .func (.func 56) #[] #[]), (13, .int .i64 x55), (15, .string x96), (16, .int .i64 x97), (17, .int .i64 x98)] ⟨rfl, rfl, rfl, rfl, rfl, rfl, rfl, trivial⟩ (fun u => ?_)
         refine c_sta ⟨w0, M, (100140, g67, .cells #[.int .i64 x65.fahead, .int .i64 x65.fnames, .int .i64 x65.fbehind] 90 (0, 0)) :: (100070, g2, .cells #[.string x3, .int .u16 x14, .int .u16 i27, .int .u32 i36, .string x54] 27 (0, 0)) :: (100040, g1, .cells #[.string (⟨#[]⟩ : ByteArray), .int .u16 0, .int .u16 0, .int .u32 0, .string (⟨#[]⟩ : ByteArray)] 27 (0, 0)) :: H, R, φ⟩ (fun _ h => h) ?_
         refine c_seq ?_
         refine c_block ?_
         refine c_seq ?_
         refine c_region ?_
         refine g_v rfl r_move ?_
         refine g_v rfl (r_neq rfl rfl) ?_
         refine g_v rfl r_assign ?_
         refine g_nil ?_
         refine d_then ?_
         refine c_cond rfl (fun h101 => ?_) (fun h101 => ?_)
         ·
          replace hm := ite_t hm (of_decide_eq_true h101)
          refine c_seq ?_
          refine c_region ?_
          refine g_v rfl r_move ?_
          refine g_v rfl r_move ?_
          replace hm := bnd hm
          obtain ⟨⟨x102, x103, x104⟩, hx105, hm⟩ := hm
          refine g_cnv ⟨w0, M, _, _, φ⟩ (fun _ h => h) Try.call56 rfl rfl rfl (c_record_Get_c1 x98 _ hx105) (fun _ _ => ?_)
          refine g_v rfl (r_extract rfl rfl) ?_
          refine g_v rfl (r_extract rfl rfl) ?_
          refine g_v rfl (r_extract rfl rfl) ?_
          refine g_storeL (tag := 100040) rfl rfl rfl rfl Try.sizeOf27 rfl rfl ?_
          refine g_v rfl r_assign ?_
          refine g_v rfl r_assign ?_
          refine g_nil ?_
          refine d_then ?_
          refine c_flat [(4, .pointer (some ⟨g1, 0, none⟩)), (5, .int .i64 x103), (6, .int .i64 x104)] ⟨rfl, rfl, rfl, trivial⟩ (fun u => ?_)
          refine c_sta ⟨w0, M, (100140, g67, .cells #[.int .i64 x65.fahead, .int .i64 x65.fnames, .int .i64 x65.fbehind] 90 (0, 0)) :: (100070, g2, .cells #[.string x3, .int .u16 x14, .int .u16 i27, .int .u32 i36, .string x54] 27 (0, 0)) :: (100040, g1, .cells #[.string x102.fName, .int .u16 x102.fType, .int .u16 x102.fClass, .int .u32 x102.fTTL, .string x102.fData] 27 (0, 0)) :: H, R, φ⟩ (fun _ h => h) ?_
          refine c_ret ?_
          refine d_ret_block ?_
          refine d_ret_then ?_
          refine d_ret_then ?_
          refine d_ret_then ?_
          replace hm := Option.some.inj hm
          subst hm
          refine d_retC () Try.results18 ?_ trivial (fun W h => ok_pre (H1 := [_, _, _]) (R1 := []) h (fun W hφ => hφ)) (.inr rfl)
          refine res_agg (tag := 100040) rfl rfl Try.isAgg27 Try.sizeOf27 ?_
          refine res_tmp ?_
          refine res_tmp ?_
          refine res_nil ?_
          exact rfl
         ·
          replace hm := ite_f hm (of_decide_eq_false h101)
          refine c_seq ?_
          refine c_region ?_
          refine g_v rfl r_move ?_
          refine g_v rfl r_move ?_
          refine g_v rfl (r_neq rfl rfl) ?_
          refine g_v rfl r_assign ?_
          refine g_nil ?_
          refine d_then ?_
          refine c_cond rfl (fun h107 => ?_) (fun h107 => ?_)
          ·
           replace hm := ite_t hm (of_decide_eq_true h107)
           refine c_seq ?_
           refine c_region ?_
           refine g_v rfl r_move ?_
           replace hm := bnd hm
           obtain ⟨⟨x108, x109, x110⟩, hx111, hm⟩ := hm
           refine g_cnv ⟨w0, M, _, _, φ⟩ (fun _ h => h) Try.call56 rfl rfl rfl (c_record_Get_c1 10 _ hx111) (fun _ _ => ?_)
           refine g_v rfl (r_extract rfl rfl) ?_
           refine g_v rfl (r_extract rfl rfl) ?_
           refine g_v rfl (r_extract rfl rfl) ?_
           refine g_storeL (tag := 100040) rfl rfl rfl rfl Try.sizeOf27 rfl rfl ?_
           refine g_v rfl r_assign ?_
           refine g_v rfl r_assign ?_
           refine g_nil ?_
           refine d_then ?_
           refine c_flat [(4, .pointer (some ⟨g1, 0, none⟩)), (5, .int .i64 x109), (6, .int .i64 x110)] ⟨rfl, rfl, rfl, trivial⟩ (fun u => ?_)
           refine c_sta ⟨w0, M, (100140, g67, .cells #[.int .i64 x65.fahead, .int .i64 x65.fnames, .int .i64 x65.fbehind] 90 (0, 0)) :: (100070, g2, .cells #[.string x3, .int .u16 x14, .int .u16 i27, .int .u32 i36, .string x54] 27 (0, 0)) :: (100040, g1, .cells #[.string x108.fName, .int .u16 x108.fType, .int .u16 x108.fClass, .int .u32 x108.fTTL, .string x108.fData] 27 (0, 0)) :: H, R, φ⟩ (fun _ h => h) ?_
           refine c_ret ?_
           refine d_ret_block ?_
           refine d_ret_then ?_
           refine d_ret_then ?_
           refine d_ret_then ?_
           replace hm := Option.some.inj hm
           subst hm
           refine d_retC () Try.results18 ?_ trivial (fun W h => ok_pre (H1 := [_, _, _]) (R1 := []) h (fun W hφ => hφ)) (.inr rfl)
           refine res_agg (tag := 100040) rfl rfl Try.isAgg27 Try.sizeOf27 ?_
           refine res_tmp ?_
           refine res_tmp ?_
           refine res_nil ?_
           exact rfl
          ·
           replace hm := ite_f hm (of_decide_eq_false h107)
           refine c_skip ?_
           refine d_normal_block ?_
           refine d_then ?_
           refine c_region ?_
           refine g_v rfl r_move ?_
           refine g_v rfl (r_field (n := 4) Try.underlying27 rfl Try.sizeOf9 rfl rfl) ?_
           refine g_storeL (tag := 100070) rfl rfl rfl rfl Try.sizeOf9 rfl rfl ?_
           refine g_nil ?_
           exact d_round x96 hm Nat.zero_lt_one ⟨rfl, rfl, rfl, rfl, trivial⟩ (fun W h => (h.dropH (t := 100140) rfl).phi (fun W hφ => hφ))
        ·
         replace hm := ite_f hm (of_decide_eq_false h95)
         refine c_skip ?_
         exact d_round x54 hm Nat.zero_lt_one ⟨rfl, rfl, rfl, rfl, trivial⟩ (fun W h => (h.dropH (t := 100140) rfl).phi (fun W hφ => hφ))
       ·
        unfold m_record_Get_j3 at hm
        refine d_flat [(4, .pointer (some ⟨g1, 0, none⟩)), (7, .pointer (some ⟨g2, 0, none⟩)), (8, .func (.func 56) #[] #[]), (13, .int .i64 x55)] ⟨rfl, rfl, rfl, rfl, trivial⟩ (fun u => ?_)
        refine d_sta ⟨w0, M, (100070, g2, .cells #[.string x3, .int .u16 x14, .int .u16 i27, .int .u32 i36, .string s86] 27 (0, 0)) :: (100040, g1, .cells #[.string (⟨#[]⟩ : ByteArray), .int .u16 0, .int .u16 0, .int .u32 0, .string (⟨#[]⟩ : ByteArray)] 27 (0, 0)) :: H, R, φ⟩ (fun _ h => h) ?_
        refine d_then ?_
        refine c_seq ?_
        refine c_region ?_
        refine g_v rfl (r_loadA (tag := 100070) rfl rfl Try.isAgg27 Try.sizeOf27 rfl rfl) ?_
        replace hm := bnd hm
        obtain ⟨x87, hx88, hm⟩ := hm
        refine g_cn ⟨w0, M, _, _, φ⟩ (fun _ h => h) Try.call31 rfl rfl (c_record_Check (⟨x3, x14, i27, i36, s86⟩ : GRR) _ hx88) (fun _ _ => ?_)
        refine g_v rfl r_assign ?_
        refine g_nil ?_
        refine d_then ?_
        refine c_seq ?_
        refine c_seq ?_
        refine c_region ?_
        refine g_v rfl r_move ?_
        refine g_v rfl (r_neq rfl rfl) ?_
        refine g_nil ?_
        refine d_then ?_
        refine c_cond rfl (fun h89 => ?_) (fun h89 => ?_)
        ·
         replace hm := ite_t hm (of_decide_eq_true h89)
         refine c_seq ?_
         refine c_region ?_
         refine g_v rfl r_move ?_
         refine g_v rfl r_move ?_
         replace hm := bnd hm
         obtain ⟨⟨x90, x91, x92⟩, hx93, hm⟩ := hm
         refine g_cnv ⟨w0, M, _, _, φ⟩ (fun _ h => h) Try.call56 rfl rfl rfl (c_record_Get_c1 x87 _ hx93) (fun _ _ => ?_)
         refine g_v rfl (r_extract rfl rfl) ?_
         refine g_v rfl (r_extract rfl rfl) ?_
         refine g_v rfl (r_extract rfl rfl) ?_
         refine g_storeL (tag := 100040) rfl rfl rfl rfl Try.sizeOf27 rfl rfl ?_
         refine g_v rfl r_assign ?_
         refine g_v rfl r_assign ?_
         refine g_nil ?_
         refine d_then ?_
         refine c_flat [(4, .pointer (some ⟨g1, 0, none⟩)), (5, .int .i64 x91), (6, .int .i64 x92)] ⟨rfl, rfl, rfl, trivial⟩ (fun u => ?_)
         refine c_sta ⟨w0, M, (100070, g2, .cells #[.string x3, .int .u16 x14, .int .u16 i27, .int .u32 i36, .string s86] 27 (0, 0)) :: (100040, g1, .cells #[.string x90.fName, .int .u16 x90.fType, .int .u16 x90.fClass, .int .u32 x90.fTTL, .string x90.fData] 27 (0, 0)) :: H, R, φ⟩ (fun _ h => h) ?_
         refine c_ret ?_
         refine d_ret_then ?_
         replace hm := Option.some.inj hm
         subst hm
         refine d_retC () Try.results18 ?_ trivial (fun W h => ok_pre (H1 := [_, _]) (R1 := []) h (fun W hφ => hφ)) (.inr rfl)
         refine res_agg (tag := 100040) rfl rfl Try.isAgg27 Try.sizeOf27 ?_
         refine res_tmp ?_
         refine res_tmp ?_
         refine res_nil ?_
         exact rfl
        ·
         replace hm := ite_f hm (of_decide_eq_false h89)
         refine c_skip ?_
         refine d_then ?_
         refine c_seq ?_
         refine c_region ?_
         refine g_v rfl (r_loadA (tag := 100070) rfl rfl Try.isAgg27 Try.sizeOf27 rfl rfl) ?_
         refine g_v rfl r_move ?_
         refine g_storeL (tag := 100040) rfl rfl rfl rfl Try.sizeOf27 rfl rfl ?_
         refine g_v rfl r_assign ?_
         refine g_v rfl r_assign ?_
         refine g_nil ?_
         refine d_then ?_
         refine c_flat [(4, .pointer (some ⟨g1, 0, none⟩)), (5, .int .i64 x55), (6, .int .i64 0)] ⟨rfl, rfl, rfl, trivial⟩ (fun u => ?_)
         refine c_sta ⟨w0, M, (100070, g2, .cells #[.string x3, .int .u16 x14, .int .u16 i27, .int .u32 i36, .string s86] 27 (0, 0)) :: (100040, g1, .cells #[.string x3, .int .u16 x14, .int .u16 i27, .int .u32 i36, .string s86] 27 (0, 0)) :: H, R, φ⟩ (fun _ h => h) ?_
         refine c_ret ?_
         replace hm := Option.some.inj hm
         subst hm
         refine d_retC () Try.results18 ?_ trivial (fun W h => ok_pre (H1 := [_, _]) (R1 := []) h (fun W hφ => hφ)) (.inr rfl)
         refine res_agg (tag := 100040) rfl rfl Try.isAgg27 Try.sizeOf27 ?_
         refine res_tmp ?_
         refine res_tmp ?_
         refine res_nil ?_
         exact rfl

theorem bld27_14 (z0 : ByteArray) (z1 : Int) (z2 : ByteArray) : ∀ W, (Instr.build 27 #[(0, .string z0), (1, .int .u16 z1), (4, .string z2)]).run Try.prog W = .ok (.agg #[.string z0, .int .u16 z1, .int .u16 0, .int .u32 0, .string z2]) W := fun _ => by kernel_rfl
theorem bld27_15 (z0 : ByteArray) (z1 : Int) : ∀ W, (Instr.build 27 #[(0, .string z0), (1, .int .u16 z1)]).run Try.prog W = .ok (.agg #[.string z0, .int .u16 z1, .int .u16 0, .int .u32 0, .string (⟨#[]⟩ : ByteArray)]) W := fun _ => by kernel_rfl
noncomputable def m_record_Life (p0 : Int) : Option Int :=
  if p0 / 2147483648 = 1 then
    some 0
  else
    some p0
theorem c_record_Life {w0 : World} {M : Nat → Prop} {H : List (Nat × Nat × Obj)} {R : List (Nat × Row)} {φ : World → Prop} (p0 : Int) (r : Int) (hm : m_record_Life p0 = some r) :
    Cn Try.prog 33 #[.int .u32 p0] ⟨w0, M, H, R, φ⟩ (fun x : Unit => .int .u32 r) (fun x => True) (fun x => ⟨w0, M, H, R, φ⟩) := by
 unfold m_record_Life at hm
 refine cn_intro (fn := Try.f33) (N := 7) Try.func33 rfl Try.ntmps33 rfl ?_
 refine c_seq ?_
 refine c_region ?_
 refine g_v rfl r_assign ?_
 refine g_nil ?_
 refine d_then ?_
 refine c_seq ?_
 refine c_seq ?_
 refine c_region ?_
 refine g_v rfl r_move ?_
 refine g_v rfl (r_shr (n := 2147483648) rfl rfl (by decide) (by decide) (by decide)) ?_
 refine g_v rfl (r_eql rfl rfl) ?_
 refine g_nil ?_
 refine d_then ?_
 refine c_cond rfl (fun h1 => ?_) (fun h1 => ?_)
 ·
  replace hm := ite_t hm (of_decide_eq_true h1)
  refine c_seq ?_
  refine c_region ?_
  refine g_v rfl r_assign ?_
  refine g_nil ?_
  refine d_then ?_
  refine c_ret ?_
  refine d_ret_then ?_
  replace hm := Option.some.inj hm
  subst hm
  refine d_retC () Try.results33 ?_ trivial (fun W h => ok_pre (H1 := []) (R1 := []) h (fun W hφ => hφ)) (.inr rfl)
  refine res_tmp ?_
  refine res_nil ?_
  exact rfl
 ·
  replace hm := ite_f hm (of_decide_eq_false h1)
  refine c_skip ?_
  refine d_then ?_
  refine c_seq ?_
  refine c_region ?_
  refine g_v rfl r_move ?_
  refine g_v rfl r_assign ?_
  refine g_nil ?_
  refine d_then ?_
  refine c_ret ?_
  replace hm := Option.some.inj hm
  subst hm
  refine d_retC () Try.results33 ?_ trivial (fun W h => ok_pre (H1 := []) (R1 := []) h (fun W hφ => hφ)) (.inr rfl)
  refine res_tmp ?_
  refine res_nil ?_
  exact rfl

noncomputable def m_law05_awake  : Option Bool :=
  (m_pack_New).bind fun x1 =>
  (m_record_Put (⟨(⟨#[3, 119, 119, 119, 1, 97, 0]⟩ : ByteArray), 1, 1, 60, (⟨#[1, 2, 3, 4]⟩ : ByteArray)⟩ : GRR) x1).bind fun (z19 : Int × Gpack_Packer) =>
  (m_pack_Packer_Bytes z19.2).bind fun x20 =>
  (m_record_Get x20 0).bind fun (z26 : GRR × Int × Int) =>
  if z19.1 = 0 then
    if x20 = (⟨#[3, 119, 119, 119, 1, 97, 0, 0, 1, 0, 1, 0, 0, 0, 60, 0, 4, 1, 2, 3, 4]⟩ : ByteArray) then
      if z26.2.2 = 0 then
        if z26.2.1 = (x20.size : Int) then
          if z26.1.fTTL = 60 then
            (m_record_Check (⟨(⟨#[0]⟩ : ByteArray), 1, 0, 0, (⟨#[97, 98, 99]⟩ : ByteArray)⟩ : GRR)).bind fun x33 =>
            if x33 = 10 then
              (m_record_Check (⟨(⟨#[0]⟩ : ByteArray), 16, 0, 0, (⟨#[]⟩ : ByteArray)⟩ : GRR)).bind fun x36 =>
              if x36 = 10 then
                (m_record_Life 2147483648).bind fun x39 =>
                if x39 = 0 then
                  (m_record_Life 2147483647).bind fun x42 =>
                  some (decide (x42 = 2147483647))
                else
                  some false
              else
                some false
            else
              some false
          else
            some false
        else
          some false
      else
        some false
    else
      some false
  else
    some false
theorem c_law05_awake {w0 : World} {M : Nat → Prop} {H : List (Nat × Nat × Obj)} {R : List (Nat × Row)} {φ : World → Prop}  (r : Bool) (hm : m_law05_awake = some r) :
    Cn Try.prog 16 #[] ⟨w0, M, H, R, φ⟩ (fun x : Unit => .bool r) (fun x => True) (fun x => ⟨w0, M, H, R, φ⟩) := by
 unfold m_law05_awake at hm
 refine cn_intro (fn := Try.f16) (N := 60) Try.func16 rfl Try.ntmps16 rfl ?_
 refine c_seq ?_
 refine c_region ?_
 refine g_v rfl r_assign ?_
 refine g_nil ?_
 refine d_then ?_
 refine c_seq ?_
 refine c_region ?_
 replace hm := bnd hm
 obtain ⟨x1, hx2, hm⟩ := hm
 refine g_cn ⟨w0, M, _, _, φ⟩ (fun _ h => h) Try.call20 rfl rfl (c_pack_New  _ hx2) (fun ⟨A3, c4, A6, c7, g9⟩ ⟨hc4, hc7⟩ => ?_)
 refine g_sta _ (fun W h => (ok_frontR (t := 2000) (t' := 100070) (ok_frontR (t := 2001) (t' := 100071) (ok_front (t := 3000) (t' := 100075) h rfl) rfl) rfl)) ?_
 refine g_v rfl r_assign ?_
 refine g_nil ?_
 refine d_then ?_
 refine c_seq ?_
 refine c_seq ?_
 refine c_region ?_
 refine g_v rfl r_move ?_
 refine g_v rfl (r_eqlP1 Try.underlying33 rfl rfl) ?_
 refine g_nil ?_
 refine d_then ?_
 refine c_cond0 rfl rfl ?_
 refine c_skip ?_
 refine d_then ?_
 refine c_seq ?_
 refine c_region ?_
 refine g_v rfl r_move ?_
 refine g_v rfl (r_build _ rfl (bld27_1 _ _ _ _ _)) ?_
 replace hm := bnd hm
 obtain ⟨⟨x10, x11⟩, hx12, hm⟩ := hm
 refine g_cn ⟨w0, M, (1000, g9, .cells #[.slice A3 x1.fb.length c4, mapV A6] 100 (0, 0)) :: H, (1000, ⟨.slice A3 x1.fb.length c4, 5, 1, x1.fb.length, x1.fb.flatMap (fun x : Int => [Value.int .u8 x])⟩) :: (1001, ⟨mapV A6, 98, 2, x1.fplaces.length, x1.fplaces.flatMap (mcell (fun x : ByteArray => Value.string x) (fun x : Int => Value.int .i64 x))⟩) :: R, φ⟩ (fun W h => (ok_front (t := 100075) (t' := 1000) (ok_frontR (t := 100070) (t' := 1000) (ok_frontR (t := 100071) (t' := 1001) h rfl) rfl) rfl)) Try.call23 rfl rfl (c_record_Put (⟨(⟨#[3, 119, 119, 119, 1, 97, 0]⟩ : ByteArray), 1, 1, 60, (⟨#[1, 2, 3, 4]⟩ : ByteArray)⟩ : GRR) g9 x1 A3 c4 hc4 A6 c7 trivial _ hx12) (fun ⟨A13, c14, A16, c17⟩ ⟨hc14, hc17⟩ => ?_)
 refine g_sta _ (fun W h => (ok_frontR (t := 2000) (t' := 100070) (ok_frontR (t := 2001) (t' := 100071) (ok_front (t := 1000) (t' := 100075) h rfl) rfl) rfl)) ?_
 refine g_v rfl r_assign ?_
 refine g_nil ?_
 refine d_then ?_
 refine c_flat [(1, .pointer (some ⟨g9, 0, none⟩)), (2, .int .i64 x10)] ⟨rfl, rfl, trivial⟩ (fun u => ?_)
 refine c_sta ⟨w0, M, (100075, g9, .cells #[.slice A13 x11.fb.length c14, mapV A16] 100 (0, 0)) :: H, (100070, ⟨.slice A13 x11.fb.length c14, 5, 1, x11.fb.length, x11.fb.flatMap (fun x : Int => [Value.int .u8 x])⟩) :: (100071, ⟨mapV A16, 98, 2, x11.fplaces.length, x11.fplaces.flatMap (mcell (fun x : ByteArray => Value.string x) (fun x : Int => Value.int .i64 x))⟩) :: R, φ⟩ (fun _ h => h) ?_
 refine c_seq ?_
 refine c_region ?_
 refine g_v rfl r_move ?_
 replace hm := bnd hm
 obtain ⟨x20, hx21, hm⟩ := hm
 refine g_cn ⟨w0, M, (1000, g9, .cells #[.slice A13 x11.fb.length c14, mapV A16] 100 (0, 0)) :: H, (1000, ⟨.slice A13 x11.fb.length c14, 5, 1, x11.fb.length, x11.fb.flatMap (fun x : Int => [Value.int .u8 x])⟩) :: (1001, ⟨mapV A16, 98, 2, x11.fplaces.length, x11.fplaces.flatMap (mcell (fun x : ByteArray => Value.string x) (fun x : Int => Value.int .i64 x))⟩) :: R, φ⟩ (fun W h => (ok_front (t := 100075) (t' := 1000) (ok_frontR (t := 100070) (t' := 1000) (ok_frontR (t := 100071) (t' := 1001) h rfl) rfl) rfl)) Try.call26 rfl rfl (c_pack_Packer_Bytes g9 x11 A13 c14 hc14 A16 c17 trivial _ hx21) (fun _ _ => ?_)
 refine g_sta _ (fun W h => (ok_frontR (t := 1000) (t' := 100070) (ok_frontR (t := 1001) (t' := 100071) (ok_front (t := 1000) (t' := 100075) h rfl) rfl) rfl)) ?_
 refine g_v rfl r_assign ?_
 refine g_nil ?_
 refine d_then ?_
 refine c_seq ?_
 refine c_region ?_
 refine g_v rfl r_move ?_
 replace hm := bnd hm
 obtain ⟨⟨x22, x23, x24⟩, hx25, hm⟩ := hm
 refine g_cn ⟨w0, M, _, _, φ⟩ (fun _ h => h) Try.call18 rfl rfl (c_record_Get x20 0 _ hx25) (fun _ _ => ?_)
 refine g_v rfl r_move ?_
 refine g_v rfl (r_extract rfl rfl) ?_
 refine g_v rfl (r_extract rfl rfl) ?_
 refine g_v rfl (r_extract rfl rfl) ?_
 refine g_e rfl (e_alloc 100040 Try.zeroValue27) (fun g27 _ => ?_)
 refine g_storeL (tag := 100040) rfl rfl rfl rfl Try.sizeOf27 rfl rfl ?_
 refine g_v rfl r_assign ?_
 refine g_v rfl r_assign ?_
 refine g_nil ?_
 refine d_then ?_
 refine c_flat [(2, .int .i64 x10), (3, .string x20), (4, .pointer (some ⟨g27, 0, none⟩)), (5, .int .i64 x23), (6, .int .i64 x24)] ⟨rfl, rfl, rfl, rfl, rfl, trivial⟩ (fun u => ?_)
 refine c_sta ⟨w0, M, (100040, g27, .cells #[.string x22.fName, .int .u16 x22.fType, .int .u16 x22.fClass, .int .u32 x22.fTTL, .string x22.fData] 27 (0, 0)) :: (100075, g9, .cells #[.slice A13 x11.fb.length c14, mapV A16] 100 (0, 0)) :: H, (100070, ⟨.slice A13 x11.fb.length c14, 5, 1, x11.fb.length, x11.fb.flatMap (fun x : Int => [Value.int .u8 x])⟩) :: (100071, ⟨mapV A16, 98, 2, x11.fplaces.length, x11.fplaces.flatMap (mcell (fun x : ByteArray => Value.string x) (fun x : Int => Value.int .i64 x))⟩) :: R, φ⟩ (fun _ h => h) ?_
 refine c_seq ?_
 refine c_region ?_
 refine g_v rfl r_move ?_
 refine g_v rfl (r_eql rfl rfl) ?_
 refine g_v rfl r_move ?_
 refine g_if rfl rfl rfl rfl rfl (fun h28 => ?_) (fun h28 => ?_)
 ·
  replace hm := ite_t hm (of_decide_eq_true h28)
  refine g_v rfl r_move ?_
  refine g_do rfl rfl rfl rfl rfl h28 ?_
  refine g_v rfl (r_eqlT rfl rfl) ?_
  refine g_v rfl (r_pick1 rfl h28) ?_
  refine g_v rfl r_move ?_
  refine g_if rfl rfl rfl rfl rfl (fun h29 => ?_) (fun h29 => ?_)
  ·
   replace hm := ite_t hm (of_decide_eq_true h29)
   refine g_v rfl r_move ?_
   refine g_do rfl rfl rfl rfl rfl h29 ?_
   refine g_v rfl (r_eql rfl rfl) ?_
   refine g_v rfl (r_pick1 rfl h29) ?_
   refine g_v rfl r_move ?_
   refine g_if rfl rfl rfl rfl rfl (fun h30 => ?_) (fun h30 => ?_)
   ·
    replace hm := ite_t hm (of_decide_eq_true h30)
    refine g_v rfl r_move ?_
    refine g_do rfl rfl rfl rfl rfl h30 ?_
    refine g_v rfl r_move ?_
    refine g_do rfl rfl rfl rfl rfl h30 ?_
    refine g_v rfl (r_len Try.underlying9 rfl) ?_
    refine g_do rfl rfl rfl rfl rfl h30 ?_
    refine g_v rfl (r_eql rfl rfl) ?_
    refine g_v rfl (r_pick1 rfl h30) ?_
    refine g_v rfl r_move ?_
    refine g_if rfl rfl rfl rfl rfl (fun h31 => ?_) (fun h31 => ?_)
    ·
     replace hm := ite_t hm (of_decide_eq_true h31)
     refine g_v rfl (r_field (n := 3) Try.underlying27 rfl Try.sizeOf25 rfl rfl) ?_
     refine g_do rfl rfl rfl rfl rfl h31 ?_
     refine g_v rfl (r_load (tag := 100040) rfl rfl rfl Try.isAgg25) ?_
     refine g_do rfl rfl rfl rfl rfl h31 ?_
     refine g_v rfl (r_eql rfl rfl) ?_
     refine g_v rfl (r_pick1 rfl h31) ?_
     refine g_v rfl r_move ?_
     refine g_if rfl rfl rfl rfl rfl (fun h32 => ?_) (fun h32 => ?_)
     ·
      replace hm := ite_t hm (of_decide_eq_true h32)
      refine g_v rfl (r_build _ rfl (bld27_14 _ _ _)) ?_
      refine g_do rfl rfl rfl rfl rfl h32 ?_
      replace hm := bnd hm
      obtain ⟨x33, hx34, hm⟩ := hm
      refine g_cn ⟨w0, M, _, _, φ⟩ (fun _ h => h) Try.call31 rfl rfl (c_record_Check (⟨(⟨#[0]⟩ : ByteArray), 1, 0, 0, (⟨#[97, 98, 99]⟩ : ByteArray)⟩ : GRR) _ hx34) (fun _ _ => ?_)
      refine g_do rfl rfl rfl rfl rfl h32 ?_
      refine g_v rfl (r_eql rfl rfl) ?_
      refine g_v rfl (r_pick1 rfl h32) ?_
      refine g_v rfl r_move ?_
      refine g_if rfl rfl rfl rfl rfl (fun h35 => ?_) (fun h35 => ?_)
      ·
       replace hm := ite_t hm (of_decide_eq_true h35)
       refine g_v rfl (r_build _ rfl (bld27_15 _ _)) ?_
       refine g_do rfl rfl rfl rfl rfl h35 ?_
       replace hm := bnd hm
       obtain ⟨x36, hx37, hm⟩ := hm
       refine g_cn ⟨w0, M, _, _, φ⟩ (fun _ h => h) Try.call31 rfl rfl (c_record_Check (⟨(⟨#[0]⟩ : ByteArray), 16, 0, 0, (⟨#[]⟩ : ByteArray)⟩ : GRR) _ hx37) (fun _ _ => ?_)
       refine g_do rfl rfl rfl rfl rfl h35 ?_
       refine g_v rfl (r_eql rfl rfl) ?_
       refine g_v rfl (r_pick1 rfl h35) ?_
       refine g_v rfl r_move ?_
       refine g_if rfl rfl rfl rfl rfl (fun h38 => ?_) (fun h38 => ?_)
       ·
        replace hm := ite_t hm (of_decide_eq_true h38)
        replace hm := bnd hm
        obtain ⟨x39, hx40, hm⟩ := hm
        refine g_cn ⟨w0, M, _, _, φ⟩ (fun _ h => h) Try.call33 rfl rfl (c_record_Life 2147483648 _ hx40) (fun _ _ => ?_)
        refine g_do rfl rfl rfl rfl rfl h38 ?_
        refine g_v rfl (r_eql rfl rfl) ?_
        refine g_v rfl (r_pick1 rfl h38) ?_
        refine g_v rfl r_move ?_
        refine g_if rfl rfl rfl rfl rfl (fun h41 => ?_) (fun h41 => ?_)
        ·
         replace hm := ite_t hm (of_decide_eq_true h41)
         replace hm := bnd hm
         obtain ⟨x42, hx43, hm⟩ := hm
         refine g_cn ⟨w0, M, _, _, φ⟩ (fun _ h => h) Try.call33 rfl rfl (c_record_Life 2147483647 _ hx43) (fun _ _ => ?_)
         refine g_do rfl rfl rfl rfl rfl h41 ?_
         refine g_v rfl (r_eql rfl rfl) ?_
         refine g_v rfl (r_pick1 rfl h41) ?_
         refine g_v rfl r_assign ?_
         refine g_nil ?_
         refine d_then ?_
         refine c_flat [(0, .bool (decide (x42 = 2147483647)))] ⟨rfl, trivial⟩ (fun u => ?_)
         refine c_sta ⟨w0, M, (100040, g27, .cells #[.string x22.fName, .int .u16 x22.fType, .int .u16 x22.fClass, .int .u32 x22.fTTL, .string x22.fData] 27 (0, 0)) :: (100075, g9, .cells #[.slice A13 x11.fb.length c14, mapV A16] 100 (0, 0)) :: H, (100070, ⟨.slice A13 x11.fb.length c14, 5, 1, x11.fb.length, x11.fb.flatMap (fun x : Int => [Value.int .u8 x])⟩) :: (100071, ⟨mapV A16, 98, 2, x11.fplaces.length, x11.fplaces.flatMap (mcell (fun x : ByteArray => Value.string x) (fun x : Int => Value.int .i64 x))⟩) :: R, φ⟩ (fun _ h => h) ?_
         refine c_ret ?_
         replace hm := Option.some.inj hm
         subst hm
         refine d_retC () Try.results16 ?_ trivial (fun W h => ok_pre (H1 := [_, _]) (R1 := [_, _]) h (fun W hφ => hφ)) (.inr rfl)
         refine res_tmp ?_
         refine res_nil ?_
         exact rfl
        ·
         replace hm := ite_f hm (of_decide_eq_false h41)
         refine g_no rfl rfl rfl rfl rfl h41 ?_
         refine g_v rfl (r_pick0 rfl h41) ?_
         refine g_v rfl r_assign ?_
         refine g_nil ?_
         refine d_then ?_
         refine c_flat [(0, .bool false)] ⟨rfl, trivial⟩ (fun u => ?_)
         refine c_sta ⟨w0, M, (100040, g27, .cells #[.string x22.fName, .int .u16 x22.fType, .int .u16 x22.fClass, .int .u32 x22.fTTL, .string x22.fData] 27 (0, 0)) :: (100075, g9, .cells #[.slice A13 x11.fb.length c14, mapV A16] 100 (0, 0)) :: H, (100070, ⟨.slice A13 x11.fb.length c14, 5, 1, x11.fb.length, x11.fb.flatMap (fun x : Int => [Value.int .u8 x])⟩) :: (100071, ⟨mapV A16, 98, 2, x11.fplaces.length, x11.fplaces.flatMap (mcell (fun x : ByteArray => Value.string x) (fun x : Int => Value.int .i64 x))⟩) :: R, φ⟩ (fun _ h => h) ?_
         refine c_ret ?_
         replace hm := Option.some.inj hm
         subst hm
         refine d_retC () Try.results16 ?_ trivial (fun W h => ok_pre (H1 := [_, _]) (R1 := [_, _]) h (fun W hφ => hφ)) (.inr rfl)
         refine res_tmp ?_
         refine res_nil ?_
         exact rfl
       ·
        replace hm := ite_f hm (of_decide_eq_false h38)
        refine g_no rfl rfl rfl rfl rfl h38 ?_
        refine g_v rfl (r_pick0 rfl h38) ?_
        refine g_v rfl r_move ?_
        refine g_no rfl rfl rfl rfl rfl rfl ?_
        refine g_no rfl rfl rfl rfl rfl rfl ?_
        refine g_v rfl (r_pick0 rfl rfl) ?_
        refine g_v rfl r_assign ?_
        refine g_nil ?_
        refine d_then ?_
        refine c_flat [(0, .bool false)] ⟨rfl, trivial⟩ (fun u => ?_)
        refine c_sta ⟨w0, M, (100040, g27, .cells #[.string x22.fName, .int .u16 x22.fType, .int .u16 x22.fClass, .int .u32 x22.fTTL, .string x22.fData] 27 (0, 0)) :: (100075, g9, .cells #[.slice A13 x11.fb.length c14, mapV A16] 100 (0, 0)) :: H, (100070, ⟨.slice A13 x11.fb.length c14, 5, 1, x11.fb.length, x11.fb.flatMap (fun x : Int => [Value.int .u8 x])⟩) :: (100071, ⟨mapV A16, 98, 2, x11.fplaces.length, x11.fplaces.flatMap (mcell (fun x : ByteArray => Value.string x) (fun x : Int => Value.int .i64 x))⟩) :: R, φ⟩ (fun _ h => h) ?_
        refine c_ret ?_
        replace hm := Option.some.inj hm
        subst hm
        refine d_retC () Try.results16 ?_ trivial (fun W h => ok_pre (H1 := [_, _]) (R1 := [_, _]) h (fun W hφ => hφ)) (.inr rfl)
        refine res_tmp ?_
        refine res_nil ?_
        exact rfl
      ·
       replace hm := ite_f hm (of_decide_eq_false h35)
       refine g_no rfl rfl rfl rfl rfl h35 ?_
       refine g_no rfl rfl rfl rfl rfl h35 ?_
       refine g_v rfl (r_pick0 rfl h35) ?_
       refine g_v rfl r_move ?_
       refine g_no rfl rfl rfl rfl rfl rfl ?_
       refine g_no rfl rfl rfl rfl rfl rfl ?_
       refine g_v rfl (r_pick0 rfl rfl) ?_
       refine g_v rfl r_move ?_
       refine g_no rfl rfl rfl rfl rfl rfl ?_
       refine g_no rfl rfl rfl rfl rfl rfl ?_
       refine g_v rfl (r_pick0 rfl rfl) ?_
       refine g_v rfl r_assign ?_
       refine g_nil ?_
       refine d_then ?_
       refine c_flat [(0, .bool false)] ⟨rfl, trivial⟩ (fun u => ?_)
       refine c_sta ⟨w0, M, (100040, g27, .cells #[.string x22.fName, .int .u16 x22.fType, .int .u16 x22.fClass, .int .u32 x22.fTTL, .string x22.fData] 27 (0, 0)) :: (100075, g9, .cells #[.slice A13 x11.fb.length c14, mapV A16] 100 (0, 0)) :: H, (100070, ⟨.slice A13 x11.fb.length c14, 5, 1, x11.fb.length, x11.fb.flatMap (fun x : Int => [Value.int .u8 x])⟩) :: (100071, ⟨mapV A16, 98, 2, x11.fplaces.length, x11.fplaces.flatMap (mcell (fun x : ByteArray => Value.string x) (fun x : Int => Value.int .i64 x))⟩) :: R, φ⟩ (fun _ h => h) ?_
       refine c_ret ?_
       replace hm := Option.some.inj hm
       subst hm
       refine d_retC () Try.results16 ?_ trivial (fun W h => ok_pre (H1 := [_, _]) (R1 := [_, _]) h (fun W hφ => hφ)) (.inr rfl)
       refine res_tmp ?_
       refine res_nil ?_
       exact rfl
     ·
      replace hm := ite_f hm (of_decide_eq_false h32)
      refine g_no rfl rfl rfl rfl rfl h32 ?_
      refine g_no rfl rfl rfl rfl rfl h32 ?_
      refine g_v rfl (r_pick0 rfl h32) ?_
      refine g_v rfl r_move ?_
      refine g_no rfl rfl rfl rfl rfl rfl ?_
      refine g_no rfl rfl rfl rfl rfl rfl ?_
      refine g_no rfl rfl rfl rfl rfl rfl ?_
      refine g_v rfl (r_pick0 rfl rfl) ?_
      refine g_v rfl r_move ?_
      refine g_no rfl rfl rfl rfl rfl rfl ?_
      refine g_no rfl rfl rfl rfl rfl rfl ?_
      refine g_v rfl (r_pick0 rfl rfl) ?_
      refine g_v rfl r_move ?_
      refine g_no rfl rfl rfl rfl rfl rfl ?_
      refine g_no rfl rfl rfl rfl rfl rfl ?_
      refine g_v rfl (r_pick0 rfl rfl) ?_
      refine g_v rfl r_assign ?_
      refine g_nil ?_
      refine d_then ?_
      refine c_flat [(0, .bool false)] ⟨rfl, trivial⟩ (fun u => ?_)
      refine c_sta ⟨w0, M, (100040, g27, .cells #[.string x22.fName, .int .u16 x22.fType, .int .u16 x22.fClass, .int .u32 x22.fTTL, .string x22.fData] 27 (0, 0)) :: (100075, g9, .cells #[.slice A13 x11.fb.length c14, mapV A16] 100 (0, 0)) :: H, (100070, ⟨.slice A13 x11.fb.length c14, 5, 1, x11.fb.length, x11.fb.flatMap (fun x : Int => [Value.int .u8 x])⟩) :: (100071, ⟨mapV A16, 98, 2, x11.fplaces.length, x11.fplaces.flatMap (mcell (fun x : ByteArray => Value.string x) (fun x : Int => Value.int .i64 x))⟩) :: R, φ⟩ (fun _ h => h) ?_
      refine c_ret ?_
      replace hm := Option.some.inj hm
      subst hm
      refine d_retC () Try.results16 ?_ trivial (fun W h => ok_pre (H1 := [_, _]) (R1 := [_, _]) h (fun W hφ => hφ)) (.inr rfl)
      refine res_tmp ?_
      refine res_nil ?_
      exact rfl
    ·
     replace hm := ite_f hm (of_decide_eq_false h31)
     refine g_no rfl rfl rfl rfl rfl h31 ?_
     refine g_no rfl rfl rfl rfl rfl h31 ?_
     refine g_v rfl (r_pick0 rfl h31) ?_
     refine g_v rfl r_move ?_
     refine g_no rfl rfl rfl rfl rfl rfl ?_
     refine g_no rfl rfl rfl rfl rfl rfl ?_
     refine g_no rfl rfl rfl rfl rfl rfl ?_
     refine g_v rfl (r_pick0 rfl rfl) ?_
     refine g_v rfl r_move ?_
     refine g_no rfl rfl rfl rfl rfl rfl ?_
     refine g_no rfl rfl rfl rfl rfl rfl ?_
     refine g_no rfl rfl rfl rfl rfl rfl ?_
     refine g_v rfl (r_pick0 rfl rfl) ?_
     refine g_v rfl r_move ?_
     refine g_no rfl rfl rfl rfl rfl rfl ?_
     refine g_no rfl rfl rfl rfl rfl rfl ?_
     refine g_v rfl (r_pick0 rfl rfl) ?_
     refine g_v rfl r_move ?_
     refine g_no rfl rfl rfl rfl rfl rfl ?_
     refine g_no rfl rfl rfl rfl rfl rfl ?_
     refine g_v rfl (r_pick0 rfl rfl) ?_
     refine g_v rfl r_assign ?_
     refine g_nil ?_
     refine d_then ?_
     refine c_flat [(0, .bool false)] ⟨rfl, trivial⟩ (fun u => ?_)
     refine c_sta ⟨w0, M, (100040, g27, .cells #[.string x22.fName, .int .u16 x22.fType, .int .u16 x22.fClass, .int .u32 x22.fTTL, .string x22.fData] 27 (0, 0)) :: (100075, g9, .cells #[.slice A13 x11.fb.length c14, mapV A16] 100 (0, 0)) :: H, (100070, ⟨.slice A13 x11.fb.length c14, 5, 1, x11.fb.length, x11.fb.flatMap (fun x : Int => [Value.int .u8 x])⟩) :: (100071, ⟨mapV A16, 98, 2, x11.fplaces.length, x11.fplaces.flatMap (mcell (fun x : ByteArray => Value.string x) (fun x : Int => Value.int .i64 x))⟩) :: R, φ⟩ (fun _ h => h) ?_
     refine c_ret ?_
     replace hm := Option.some.inj hm
     subst hm
     refine d_retC () Try.results16 ?_ trivial (fun W h => ok_pre (H1 := [_, _]) (R1 := [_, _]) h (fun W hφ => hφ)) (.inr rfl)
     refine res_tmp ?_
     refine res_nil ?_
     exact rfl
   ·
    replace hm := ite_f hm (of_decide_eq_false h30)
    refine g_no rfl rfl rfl rfl rfl h30 ?_
    refine g_no rfl rfl rfl rfl rfl h30 ?_
    refine g_no rfl rfl rfl rfl rfl h30 ?_
    refine g_v rfl (r_pick0 rfl h30) ?_
    refine g_v rfl r_move ?_
    refine g_no rfl rfl rfl rfl rfl rfl ?_
    refine g_no rfl rfl rfl rfl rfl rfl ?_
    refine g_no rfl rfl rfl rfl rfl rfl ?_
    refine g_v rfl (r_pick0 rfl rfl) ?_
    refine g_v rfl r_move ?_
    refine g_no rfl rfl rfl rfl rfl rfl ?_
    refine g_no rfl rfl rfl rfl rfl rfl ?_
    refine g_no rfl rfl rfl rfl rfl rfl ?_
    refine g_v rfl (r_pick0 rfl rfl) ?_
    refine g_v rfl r_move ?_
    refine g_no rfl rfl rfl rfl rfl rfl ?_
    refine g_no rfl rfl rfl rfl rfl rfl ?_
    refine g_no rfl rfl rfl rfl rfl rfl ?_
    refine g_v rfl (r_pick0 rfl rfl) ?_
    refine g_v rfl r_move ?_
    refine g_no rfl rfl rfl rfl rfl rfl ?_
    refine g_no rfl rfl rfl rfl rfl rfl ?_
    refine g_v rfl (r_pick0 rfl rfl) ?_
    refine g_v rfl r_move ?_
    refine g_no rfl rfl rfl rfl rfl rfl ?_
    refine g_no rfl rfl rfl rfl rfl rfl ?_
    refine g_v rfl (r_pick0 rfl rfl) ?_
    refine g_v rfl r_assign ?_
    refine g_nil ?_
    refine d_then ?_
    refine c_flat [(0, .bool false)] ⟨rfl, trivial⟩ (fun u => ?_)
    refine c_sta ⟨w0, M, (100040, g27, .cells #[.string x22.fName, .int .u16 x22.fType, .int .u16 x22.fClass, .int .u32 x22.fTTL, .string x22.fData] 27 (0, 0)) :: (100075, g9, .cells #[.slice A13 x11.fb.length c14, mapV A16] 100 (0, 0)) :: H, (100070, ⟨.slice A13 x11.fb.length c14, 5, 1, x11.fb.length, x11.fb.flatMap (fun x : Int => [Value.int .u8 x])⟩) :: (100071, ⟨mapV A16, 98, 2, x11.fplaces.length, x11.fplaces.flatMap (mcell (fun x : ByteArray => Value.string x) (fun x : Int => Value.int .i64 x))⟩) :: R, φ⟩ (fun _ h => h) ?_
    refine c_ret ?_
    replace hm := Option.some.inj hm
    subst hm
    refine d_retC () Try.results16 ?_ trivial (fun W h => ok_pre (H1 := [_, _]) (R1 := [_, _]) h (fun W hφ => hφ)) (.inr rfl)
    refine res_tmp ?_
    refine res_nil ?_
    exact rfl
  ·
   replace hm := ite_f hm (of_decide_eq_false h29)
   refine g_no rfl rfl rfl rfl rfl h29 ?_
   refine g_v rfl (r_pick0 rfl h29) ?_
   refine g_v rfl r_move ?_
   refine g_no rfl rfl rfl rfl rfl rfl ?_
   refine g_no rfl rfl rfl rfl rfl rfl ?_
   refine g_no rfl rfl rfl rfl rfl rfl ?_
   refine g_no rfl rfl rfl rfl rfl rfl ?_
   refine g_v rfl (r_pick0 rfl rfl) ?_
   refine g_v rfl r_move ?_
   refine g_no rfl rfl rfl rfl rfl rfl ?_
   refine g_no rfl rfl rfl rfl rfl rfl ?_
   refine g_no rfl rfl rfl rfl rfl rfl ?_
   refine g_v rfl (r_pick0 rfl rfl) ?_
   refine g_v rfl r_move ?_
   refine g_no rfl rfl rfl rfl rfl rfl ?_
   refine g_no rfl rfl rfl rfl rfl rfl ?_
   refine g_no rfl rfl rfl rfl rfl rfl ?_
   refine g_v rfl (r_pick0 rfl rfl) ?_
   refine g_v rfl r_move ?_
   refine g_no rfl rfl rfl rfl rfl rfl ?_
   refine g_no rfl rfl rfl rfl rfl rfl ?_
   refine g_no rfl rfl rfl rfl rfl rfl ?_
   refine g_v rfl (r_pick0 rfl rfl) ?_
   refine g_v rfl r_move ?_
   refine g_no rfl rfl rfl rfl rfl rfl ?_
   refine g_no rfl rfl rfl rfl rfl rfl ?_
   refine g_v rfl (r_pick0 rfl rfl) ?_
   refine g_v rfl r_move ?_
   refine g_no rfl rfl rfl rfl rfl rfl ?_
   refine g_no rfl rfl rfl rfl rfl rfl ?_
   refine g_v rfl (r_pick0 rfl rfl) ?_
   refine g_v rfl r_assign ?_
   refine g_nil ?_
   refine d_then ?_
   refine c_flat [(0, .bool false)] ⟨rfl, trivial⟩ (fun u => ?_)
   refine c_sta ⟨w0, M, (100040, g27, .cells #[.string x22.fName, .int .u16 x22.fType, .int .u16 x22.fClass, .int .u32 x22.fTTL, .string x22.fData] 27 (0, 0)) :: (100075, g9, .cells #[.slice A13 x11.fb.length c14, mapV A16] 100 (0, 0)) :: H, (100070, ⟨.slice A13 x11.fb.length c14, 5, 1, x11.fb.length, x11.fb.flatMap (fun x : Int => [Value.int .u8 x])⟩) :: (100071, ⟨mapV A16, 98, 2, x11.fplaces.length, x11.fplaces.flatMap (mcell (fun x : ByteArray => Value.string x) (fun x : Int => Value.int .i64 x))⟩) :: R, φ⟩ (fun _ h => h) ?_
   refine c_ret ?_
   replace hm := Option.some.inj hm
   subst hm
   refine d_retC () Try.results16 ?_ trivial (fun W h => ok_pre (H1 := [_, _]) (R1 := [_, _]) h (fun W hφ => hφ)) (.inr rfl)
   refine res_tmp ?_
   refine res_nil ?_
   exact rfl
 ·
  replace hm := ite_f hm (of_decide_eq_false h28)
  refine g_no rfl rfl rfl rfl rfl h28 ?_
  refine g_v rfl (r_pick0 rfl h28) ?_
  refine g_v rfl r_move ?_
  refine g_no rfl rfl rfl rfl rfl rfl ?_
  refine g_no rfl rfl rfl rfl rfl rfl ?_
  refine g_v rfl (r_pick0 rfl rfl) ?_
  refine g_v rfl r_move ?_
  refine g_no rfl rfl rfl rfl rfl rfl ?_
  refine g_no rfl rfl rfl rfl rfl rfl ?_
  refine g_no rfl rfl rfl rfl rfl rfl ?_
  refine g_no rfl rfl rfl rfl rfl rfl ?_
  refine g_v rfl (r_pick0 rfl rfl) ?_
  refine g_v rfl r_move ?_
  refine g_no rfl rfl rfl rfl rfl rfl ?_
  refine g_no rfl rfl rfl rfl rfl rfl ?_
  refine g_no rfl rfl rfl rfl rfl rfl ?_
  refine g_v rfl (r_pick0 rfl rfl) ?_
  refine g_v rfl r_move ?_
  refine g_no rfl rfl rfl rfl rfl rfl ?_
  refine g_no rfl rfl rfl rfl rfl rfl ?_
  refine g_no rfl rfl rfl rfl rfl rfl ?_
  refine g_v rfl (r_pick0 rfl rfl) ?_
  refine g_v rfl r_move ?_
  refine g_no rfl rfl rfl rfl rfl rfl ?_
  refine g_no rfl rfl rfl rfl rfl rfl ?_
  refine g_no rfl rfl rfl rfl rfl rfl ?_
  refine g_v rfl (r_pick0 rfl rfl) ?_
  refine g_v rfl r_move ?_
  refine g_no rfl rfl rfl rfl rfl rfl ?_
  refine g_no rfl rfl rfl rfl rfl rfl ?_
  refine g_v rfl (r_pick0 rfl rfl) ?_
  refine g_v rfl r_move ?_
  refine g_no rfl rfl rfl rfl rfl rfl ?_
  refine g_no rfl rfl rfl rfl rfl rfl ?_
  refine g_v rfl (r_pick0 rfl rfl) ?_
  refine g_v rfl r_assign ?_
  refine g_nil ?_
  refine d_then ?_
  refine c_flat [(0, .bool false)] ⟨rfl, trivial⟩ (fun u => ?_)
  refine c_sta ⟨w0, M, (100040, g27, .cells #[.string x22.fName, .int .u16 x22.fType, .int .u16 x22.fClass, .int .u32 x22.fTTL, .string x22.fData] 27 (0, 0)) :: (100075, g9, .cells #[.slice A13 x11.fb.length c14, mapV A16] 100 (0, 0)) :: H, (100070, ⟨.slice A13 x11.fb.length c14, 5, 1, x11.fb.length, x11.fb.flatMap (fun x : Int => [Value.int .u8 x])⟩) :: (100071, ⟨mapV A16, 98, 2, x11.fplaces.length, x11.fplaces.flatMap (mcell (fun x : ByteArray => Value.string x) (fun x : Int => Value.int .i64 x))⟩) :: R, φ⟩ (fun _ h => h) ?_
  refine c_ret ?_
  replace hm := Option.some.inj hm
  subst hm
  refine d_retC () Try.results16 ?_ trivial (fun W h => ok_pre (H1 := [_, _]) (R1 := [_, _]) h (fun W hφ => hφ)) (.inr rfl)
  refine res_tmp ?_
  refine res_nil ?_
  exact rfl

noncomputable def m_law05_short (p0 : ByteArray) (p1 : Int) : Option ByteArray :=
  if p1 < (p0.size : Int) then
    (scutHi p0 p1).bind fun s2 =>
    some s2
  else
    some p0
theorem c_law05_short {w0 : World} {M : Nat → Prop} {H : List (Nat × Nat × Obj)} {R : List (Nat × Row)} {φ : World → Prop} (p0 : ByteArray) (p1 : Int) (r : ByteArray) (hm : m_law05_short p0 p1 = some r) :
    Cn Try.prog 17 #[.string p0, .int .i64 p1] ⟨w0, M, H, R, φ⟩ (fun x : Unit => .string r) (fun x => True) (fun x => ⟨w0, M, H, R, φ⟩) := by
 unfold m_law05_short at hm
 refine cn_intro (fn := Try.f17) (N := 13) Try.func17 rfl Try.ntmps17 rfl ?_
 refine c_seq ?_
 refine c_region ?_
 refine g_v rfl r_assign ?_
 refine g_nil ?_
 refine d_then ?_
 refine c_seq ?_
 refine c_seq ?_
 refine c_region ?_
 refine g_v rfl r_move ?_
 refine g_v rfl (r_len Try.underlying9 rfl) ?_
 refine g_v rfl r_move ?_
 refine g_v rfl (r_gtr rfl rfl) ?_
 refine g_nil ?_
 refine d_then ?_
 refine c_cond rfl (fun h1 => ?_) (fun h1 => ?_)
 ·
  replace hm := ite_t hm (of_decide_eq_true h1)
  refine c_seq ?_
  refine c_region ?_
  refine g_v rfl r_move ?_
  refine g_v rfl r_move ?_
  replace hm := bnd hm
  obtain ⟨s2, hs2, hm⟩ := hm
  refine g_v rfl (r_scutHi Try.underlying9 rfl rfl hs2) ?_
  refine g_v rfl r_assign ?_
  refine g_nil ?_
  refine d_then ?_
  refine c_flat [(4, .string s2)] ⟨rfl, trivial⟩ (fun u => ?_)
  refine c_sta ⟨w0, M, H, R, φ⟩ (fun _ h => h) ?_
  refine c_ret ?_
  refine d_ret_then ?_
  replace hm := Option.some.inj hm
  subst hm
  refine d_retC () Try.results17 ?_ trivial (fun W h => ok_pre (H1 := []) (R1 := []) h (fun W hφ => hφ)) (.inr rfl)
  refine res_tmp ?_
  refine res_nil ?_
  exact rfl
 ·
  replace hm := ite_f hm (of_decide_eq_false h1)
  refine c_skip ?_
  refine d_then ?_
  refine c_seq ?_
  refine c_region ?_
  refine g_v rfl r_move ?_
  refine g_v rfl r_assign ?_
  refine g_nil ?_
  refine d_then ?_
  refine c_ret ?_
  replace hm := Option.some.inj hm
  subst hm
  refine d_retC () Try.results17 ?_ trivial (fun W h => ok_pre (H1 := []) (R1 := []) h (fun W hφ => hφ)) (.inr rfl)
  refine res_tmp ?_
  refine res_nil ?_
  exact rfl

theorem bld119_16 (z0 : ByteArray) (z1 : ByteArray) : ∀ W, (Instr.build 119 #[(0, .string z0), (1, .string z1)]).run Try.prog W = .ok (.agg #[.string z0, .string z1]) W := fun _ => by kernel_rfl
theorem bld120_17 (z0 : Int) (z1 : Int) (z2 : Int) (z3 : Int) (z4 : Int) : ∀ W, (Instr.build 120 #[(0, .int .u32 z0), (1, .int .u32 z1), (2, .int .u32 z2), (3, .int .u32 z3), (4, .int .u32 z4)]).run Try.prog W = .ok (.agg #[.int .u32 z0, .int .u32 z1, .int .u32 z2, .int .u32 z3, .int .u32 z4]) W := fun _ => by kernel_rfl
noncomputable def m_record_SoaData (p0 : GSoa) : Option (ByteArray × Int) :=
  (m_pack_New).bind fun x2 =>
  (m_pack_Packer_Name p0.fSource false x2).bind fun (z20 : Int × Gpack_Packer) =>
  if z20.1 ≠ 0 then
    some ((⟨#[]⟩ : ByteArray), z20.1)
  else
    (m_pack_Packer_Name p0.fMail false z20.2).bind fun (z31 : Int × Gpack_Packer) =>
    if z31.1 ≠ 0 then
      some ((⟨#[]⟩ : ByteArray), z31.1)
    else
      (m_pack_Packer_Long p0.fSerial z31.2).bind fun x33 =>
      (m_pack_Packer_Long p0.fRefresh x33).bind fun x41 =>
      (m_pack_Packer_Long p0.fRetry x41).bind fun x49 =>
      (m_pack_Packer_Long p0.fExpire x49).bind fun x57 =>
      (m_pack_Packer_Long p0.fMinimum x57).bind fun x65 =>
      (m_pack_Packer_Bytes x65).bind fun x73 =>
      some (x73, 0)
theorem c_record_SoaData {w0 : World} {M : Nat → Prop} {H : List (Nat × Nat × Obj)} {R : List (Nat × Row)} {φ : World → Prop} (p0 : GSoa) (r : ByteArray × Int) (hm : m_record_SoaData p0 = some r) :
    Cn Try.prog 36 #[.agg #[.string p0.fSource, .string p0.fMail, .int .u32 p0.fSerial, .int .u32 p0.fRefresh, .int .u32 p0.fRetry, .int .u32 p0.fExpire, .int .u32 p0.fMinimum]] ⟨w0, M, H, R, φ⟩ (fun x : Unit => .tuple #[.string r.1, .int .i64 r.2]) (fun x => True) (fun x => ⟨w0, M, H, R, φ⟩) := by
 unfold m_record_SoaData at hm
 refine cn_intro (fn := Try.f36) (N := 46) Try.func36 rfl Try.ntmps36 rfl ?_
 refine c_seq ?_
 refine c_region ?_
 refine g_e rfl (e_box 100010 rfl) (fun g1 _ => ?_)
 refine g_v rfl r_assign ?_
 refine g_v rfl r_assign ?_
 refine g_nil ?_
 refine d_then ?_
 refine c_seq ?_
 refine c_region ?_
 replace hm := bnd hm
 obtain ⟨x2, hx3, hm⟩ := hm
 refine g_cn ⟨w0, M, _, _, φ⟩ (fun _ h => h) Try.call20 rfl rfl (c_pack_New  _ hx3) (fun ⟨A4, c5, A7, c8, g10⟩ ⟨hc5, hc8⟩ => ?_)
 refine g_sta _ (fun W h => (ok_frontR (t := 2000) (t' := 100100) (ok_frontR (t := 2001) (t' := 100101) (ok_front (t := 3000) (t' := 100105) h rfl) rfl) rfl)) ?_
 refine g_v rfl r_assign ?_
 refine g_nil ?_
 refine d_then ?_
 refine c_seq ?_
 refine c_seq ?_
 refine c_region ?_
 refine g_v rfl (r_field (n := 0) Try.underlying50 rfl Try.sizeOf9 rfl rfl) ?_
 refine g_v rfl (r_load (tag := 100010) rfl rfl rfl Try.isAgg9) ?_
 refine g_v rfl (r_field (n := 1) Try.underlying50 rfl Try.sizeOf9 rfl rfl) ?_
 refine g_v rfl (r_load (tag := 100010) rfl rfl rfl Try.isAgg9) ?_
 refine g_v rfl (r_build _ rfl (bld119_16 _ _)) ?_
 refine g_v rfl r_move ?_
 refine g_nil ?_
 refine d_then ?_
 refine c_flat [(1, .pointer (some ⟨g1, 0, none⟩)), (4, .pointer (some ⟨g10, 0, none⟩)), (15, .agg #[.string p0.fSource, .string p0.fMail]), (16, .int .i64 0)] ⟨rfl, rfl, rfl, rfl, trivial⟩ (fun u => ?_)
 refine c_sta ⟨w0, M, (100105, g10, .cells #[.slice A4 x2.fb.length c5, mapV A7] 100 (0, 0)) :: (100010, g1, .cells #[.string p0.fSource, .string p0.fMail, .int .u32 p0.fSerial, .int .u32 p0.fRefresh, .int .u32 p0.fRetry, .int .u32 p0.fExpire, .int .u32 p0.fMinimum] 50 (0, 0)) :: H, (100100, ⟨.slice A4 x2.fb.length c5, 5, 1, x2.fb.length, x2.fb.flatMap (fun x : Int => [Value.int .u8 x])⟩) :: (100101, ⟨mapV A7, 98, 2, x2.fplaces.length, x2.fplaces.flatMap (mcell (fun x : ByteArray => Value.string x) (fun x : Int => Value.int .i64 x))⟩) :: R, φ⟩ (fun _ h => h) ?_
 refine c_block ?_
 refine c_rounds 64 ?_
 refine c_seq ?_
 refine c_region ?_
 refine g_v rfl (r_lss rfl rfl) ?_
 refine g_nil ?_
 refine d_then ?_
 refine c_seq ?_
 refine c_cond1 rfl (by decide) ?_
 refine c_skip ?_
 refine d_then ?_
 refine c_seq ?_
 refine c_block ?_
 refine c_seq ?_
 refine c_region ?_
 refine g_v rfl (r_indexA Try.underlying119 Try.sizeOf9 Try.isAgg9 rfl rfl rfl rfl) ?_
 refine g_v rfl r_assign ?_
 refine g_nil ?_
 refine d_then ?_
 refine c_seq ?_
 refine c_region ?_
 refine g_v rfl r_move ?_
 refine g_v rfl r_move ?_
 replace hm := bnd hm
 obtain ⟨⟨x11, x12⟩, hx13, hm⟩ := hm
 refine g_cn ⟨w0, M, (1000, g10, .cells #[.slice A4 x2.fb.length c5, mapV A7] 100 (0, 0)) :: (100010, g1, .cells #[.string p0.fSource, .string p0.fMail, .int .u32 p0.fSerial, .int .u32 p0.fRefresh, .int .u32 p0.fRetry, .int .u32 p0.fExpire, .int .u32 p0.fMinimum] 50 (0, 0)) :: H, (1000, ⟨.slice A4 x2.fb.length c5, 5, 1, x2.fb.length, x2.fb.flatMap (fun x : Int => [Value.int .u8 x])⟩) :: (1001, ⟨mapV A7, 98, 2, x2.fplaces.length, x2.fplaces.flatMap (mcell (fun x : ByteArray => Value.string x) (fun x : Int => Value.int .i64 x))⟩) :: R, φ⟩ (fun W h => (ok_front (t := 100105) (t' := 1000) (ok_frontR (t := 100100) (t' := 1000) (ok_frontR (t := 100101) (t' := 1001) h rfl) rfl) rfl)) Try.call68 rfl rfl (c_pack_Packer_Name p0.fSource false g10 x2 A4 c5 hc5 A7 c8 trivial _ hx13) (fun ⟨A14, c15, A17, c18⟩ ⟨hc15, hc18⟩ => ?_)
 refine g_sta _ (fun W h => (ok_frontR (t := 2000) (t' := 100100) (ok_frontR (t := 2001) (t' := 100101) (ok_front (t := 1000) (t' := 100105) h rfl) rfl) rfl)) ?_
 refine g_v rfl r_assign ?_
 refine g_nil ?_
 refine d_then ?_
 refine c_seq ?_
 refine c_region ?_
 refine g_v rfl r_move ?_
 refine g_v rfl (r_neq rfl rfl) ?_
 refine g_nil ?_
 refine d_then ?_
 refine c_flat [(1, .pointer (some ⟨g1, 0, none⟩)), (4, .pointer (some ⟨g10, 0, none⟩)), (7, .int .i64 x11), (15, .agg #[.string p0.fSource, .string p0.fMail]), (16, .int .i64 0), (23, .bool (decide (x11 ≠ 0)))] ⟨rfl, rfl, rfl, rfl, rfl, rfl, trivial⟩ (fun u => ?_)
 refine c_sta ⟨w0, M, (100105, g10, .cells #[.slice A14 x12.fb.length c15, mapV A17] 100 (0, 0)) :: (100010, g1, .cells #[.string p0.fSource, .string p0.fMail, .int .u32 p0.fSerial, .int .u32 p0.fRefresh, .int .u32 p0.fRetry, .int .u32 p0.fExpire, .int .u32 p0.fMinimum] 50 (0, 0)) :: H, (100100, ⟨.slice A14 x12.fb.length c15, 5, 1, x12.fb.length, x12.fb.flatMap (fun x : Int => [Value.int .u8 x])⟩) :: (100101, ⟨mapV A17, 98, 2, x12.fplaces.length, x12.fplaces.flatMap (mcell (fun x : ByteArray => Value.string x) (fun x : Int => Value.int .i64 x))⟩) :: R, φ⟩ (fun _ h => h) ?_
 refine c_cond rfl (fun h21 => ?_) (fun h21 => ?_)
 ·
  replace hm := ite_t hm (of_decide_eq_true h21)
  refine c_seq ?_
  refine c_region ?_
  refine g_v rfl r_move ?_
  refine g_v rfl r_assign ?_
  refine g_v rfl r_assign ?_
  refine g_nil ?_
  refine d_then ?_
  refine c_ret ?_
  refine d_ret_block ?_
  refine d_ret_then ?_
  refine d_ret_then ?_
  refine d_ret_block ?_
  refine d_ret_then ?_
  replace hm := Option.some.inj hm
  subst hm
  refine d_retC () Try.results36 ?_ trivial (fun W h => ok_pre (H1 := [_, _]) (R1 := [_, _]) h (fun W hφ => hφ)) (.inr rfl)
  refine res_tmp ?_
  refine res_tmp ?_
  refine res_nil ?_
  exact rfl
 ·
  replace hm := ite_f hm (of_decide_eq_false h21)
  refine c_skip ?_
  refine d_normal_block ?_
  refine d_then ?_
  refine c_region ?_
  refine g_v rfl (r_add rfl rfl (show IntKind.i64.wrap (0 + 1) = 1 by decide)) ?_
  refine g_v rfl r_move ?_
  refine g_nil ?_
  refine d_rounds ?_
  refine c_flat [(1, .pointer (some ⟨g1, 0, none⟩)), (4, .pointer (some ⟨g10, 0, none⟩)), (15, .agg #[.string p0.fSource, .string p0.fMail]), (16, .int .i64 1)] ⟨rfl, rfl, rfl, rfl, trivial⟩ (fun u => ?_)
  refine c_sta ⟨w0, M, (100105, g10, .cells #[.slice A14 x12.fb.length c15, mapV A17] 100 (0, 0)) :: (100010, g1, .cells #[.string p0.fSource, .string p0.fMail, .int .u32 p0.fSerial, .int .u32 p0.fRefresh, .int .u32 p0.fRetry, .int .u32 p0.fExpire, .int .u32 p0.fMinimum] 50 (0, 0)) :: H, (100100, ⟨.slice A14 x12.fb.length c15, 5, 1, x12.fb.length, x12.fb.flatMap (fun x : Int => [Value.int .u8 x])⟩) :: (100101, ⟨mapV A17, 98, 2, x12.fplaces.length, x12.fplaces.flatMap (mcell (fun x : ByteArray => Value.string x) (fun x : Int => Value.int .i64 x))⟩) :: R, φ⟩ (fun _ h => h) ?_
  refine c_seq ?_
  refine c_region ?_
  refine g_v rfl (r_lss rfl rfl) ?_
  refine g_nil ?_
  refine d_then ?_
  refine c_seq ?_
  refine c_cond1 rfl (by decide) ?_
  refine c_skip ?_
  refine d_then ?_
  refine c_seq ?_
  refine c_block ?_
  refine c_seq ?_
  refine c_region ?_
  refine g_v rfl (r_indexA Try.underlying119 Try.sizeOf9 Try.isAgg9 rfl rfl rfl rfl) ?_
  refine g_v rfl r_assign ?_
  refine g_nil ?_
  refine d_then ?_
  refine c_seq ?_
  refine c_region ?_
  refine g_v rfl r_move ?_
  refine g_v rfl r_move ?_
  replace hm := bnd hm
  obtain ⟨⟨x22, x23⟩, hx24, hm⟩ := hm
  refine g_cn ⟨w0, M, (1000, g10, .cells #[.slice A14 x12.fb.length c15, mapV A17] 100 (0, 0)) :: (100010, g1, .cells #[.string p0.fSource, .string p0.fMail, .int .u32 p0.fSerial, .int .u32 p0.fRefresh, .int .u32 p0.fRetry, .int .u32 p0.fExpire, .int .u32 p0.fMinimum] 50 (0, 0)) :: H, (1000, ⟨.slice A14 x12.fb.length c15, 5, 1, x12.fb.length, x12.fb.flatMap (fun x : Int => [Value.int .u8 x])⟩) :: (1001, ⟨mapV A17, 98, 2, x12.fplaces.length, x12.fplaces.flatMap (mcell (fun x : ByteArray => Value.string x) (fun x : Int => Value.int .i64 x))⟩) :: R, φ⟩ (fun W h => (ok_front (t := 100105) (t' := 1000) (ok_frontR (t := 100100) (t' := 1000) (ok_frontR (t := 100101) (t' := 1001) h rfl) rfl) rfl)) Try.call68 rfl rfl (c_pack_Packer_Name p0.fMail false g10 x12 A14 c15 hc15 A17 c18 trivial _ hx24) (fun ⟨A25, c26, A28, c29⟩ ⟨hc26, hc29⟩ => ?_)
  refine g_sta _ (fun W h => (ok_frontR (t := 2000) (t' := 100100) (ok_frontR (t := 2001) (t' := 100101) (ok_front (t := 1000) (t' := 100105) h rfl) rfl) rfl)) ?_
  refine g_v rfl r_assign ?_
  refine g_nil ?_
  refine d_then ?_
  refine c_seq ?_
  refine c_region ?_
  refine g_v rfl r_move ?_
  refine g_v rfl (r_neq rfl rfl) ?_
  refine g_nil ?_
  refine d_then ?_
  refine c_flat [(1, .pointer (some ⟨g1, 0, none⟩)), (4, .pointer (some ⟨g10, 0, none⟩)), (7, .int .i64 x22), (15, .agg #[.string p0.fSource, .string p0.fMail]), (16, .int .i64 1), (23, .bool (decide (x22 ≠ 0)))] ⟨rfl, rfl, rfl, rfl, rfl, rfl, trivial⟩ (fun u => ?_)
  refine c_sta ⟨w0, M, (100105, g10, .cells #[.slice A25 x23.fb.length c26, mapV A28] 100 (0, 0)) :: (100010, g1, .cells #[.string p0.fSource, .string p0.fMail, .int .u32 p0.fSerial, .int .u32 p0.fRefresh, .int .u32 p0.fRetry, .int .u32 p0.fExpire, .int .u32 p0.fMinimum] 50 (0, 0)) :: H, (100100, ⟨.slice A25 x23.fb.length c26, 5, 1, x23.fb.length, x23.fb.flatMap (fun x : Int => [Value.int .u8 x])⟩) :: (100101, ⟨mapV A28, 98, 2, x23.fplaces.length, x23.fplaces.flatMap (mcell (fun x : ByteArray => Value.string x) (fun x : Int => Value.int .i64 x))⟩) :: R, φ⟩ (fun _ h => h) ?_
  refine c_cond rfl (fun h32 => ?_) (fun h32 => ?_)
  ·
   replace hm := ite_t hm (of_decide_eq_true h32)
   refine c_seq ?_
   refine c_region ?_
   refine g_v rfl r_move ?_
   refine g_v rfl r_assign ?_
   refine g_v rfl r_assign ?_
   refine g_nil ?_
   refine d_then ?_
   refine c_ret ?_
   refine d_ret_block ?_
   refine d_ret_then ?_
   refine d_ret_then ?_
   refine d_ret_block ?_
   refine d_ret_then ?_
   replace hm := Option.some.inj hm
   subst hm
   refine d_retC () Try.results36 ?_ trivial (fun W h => ok_pre (H1 := [_, _]) (R1 := [_, _]) h (fun W hφ => hφ)) (.inr rfl)
   refine res_tmp ?_
   refine res_tmp ?_
   refine res_nil ?_
   exact rfl
  ·
   replace hm := ite_f hm (of_decide_eq_false h32)
   refine c_skip ?_
   refine d_normal_block ?_
   refine d_then ?_
   refine c_region ?_
   refine g_v rfl (r_add rfl rfl (show IntKind.i64.wrap (1 + 1) = 2 by decide)) ?_
   refine g_v rfl r_move ?_
   refine g_nil ?_
   refine d_rounds ?_
   refine c_flat [(1, .pointer (some ⟨g1, 0, none⟩)), (4, .pointer (some ⟨g10, 0, none⟩)), (15, .agg #[.string p0.fSource, .string p0.fMail]), (16, .int .i64 2)] ⟨rfl, rfl, rfl, rfl, trivial⟩ (fun u => ?_)
   refine c_sta ⟨w0, M, (100105, g10, .cells #[.slice A25 x23.fb.length c26, mapV A28] 100 (0, 0)) :: (100010, g1, .cells #[.string p0.fSource, .string p0.fMail, .int .u32 p0.fSerial, .int .u32 p0.fRefresh, .int .u32 p0.fRetry, .int .u32 p0.fExpire, .int .u32 p0.fMinimum] 50 (0, 0)) :: H, (100100, ⟨.slice A25 x23.fb.length c26, 5, 1, x23.fb.length, x23.fb.flatMap (fun x : Int => [Value.int .u8 x])⟩) :: (100101, ⟨mapV A28, 98, 2, x23.fplaces.length, x23.fplaces.flatMap (mcell (fun x : ByteArray => Value.string x) (fun x : Int => Value.int .i64 x))⟩) :: R, φ⟩ (fun _ h => h) ?_
   refine c_seq ?_
   refine c_region ?_
   refine g_v rfl (r_lss rfl rfl) ?_
   refine g_nil ?_
   refine d_then ?_
   refine c_seq ?_
   refine c_cond0 rfl (by decide) ?_
   refine c_exit ?_
   refine d_exit_then ?_
   refine d_exit_then ?_
   refine d_exit_block ?_
   refine d_then ?_
   refine c_seq ?_
   refine c_seq ?_
   refine c_region ?_
   refine g_v rfl (r_field (n := 2) Try.underlying50 rfl Try.sizeOf25 rfl rfl) ?_
   refine g_v rfl (r_load (tag := 100010) rfl rfl rfl Try.isAgg25) ?_
   refine g_v rfl (r_field (n := 3) Try.underlying50 rfl Try.sizeOf25 rfl rfl) ?_
   refine g_v rfl (r_load (tag := 100010) rfl rfl rfl Try.isAgg25) ?_
   refine g_v rfl (r_field (n := 4) Try.underlying50 rfl Try.sizeOf25 rfl rfl) ?_
   refine g_v rfl (r_load (tag := 100010) rfl rfl rfl Try.isAgg25) ?_
   refine g_v rfl (r_field (n := 5) Try.underlying50 rfl Try.sizeOf25 rfl rfl) ?_
   refine g_v rfl (r_load (tag := 100010) rfl rfl rfl Try.isAgg25) ?_
   refine g_v rfl (r_field (n := 6) Try.underlying50 rfl Try.sizeOf25 rfl rfl) ?_
   refine g_v rfl (r_load (tag := 100010) rfl rfl rfl Try.isAgg25) ?_
   refine g_v rfl (r_build _ rfl (bld120_17 _ _ _ _ _)) ?_
   refine g_v rfl r_move ?_
   refine g_nil ?_
   refine d_then ?_
   refine c_flat [(4, .pointer (some ⟨g10, 0, none⟩)), (36, .agg #[.int .u32 p0.fSerial, .int .u32 p0.fRefresh, .int .u32 p0.fRetry, .int .u32 p0.fExpire, .int .u32 p0.fMinimum]), (37, .int .i64 0)] ⟨rfl, rfl, rfl, trivial⟩ (fun u => ?_)
   refine c_sta ⟨w0, M, (100105, g10, .cells #[.slice A25 x23.fb.length c26, mapV A28] 100 (0, 0)) :: (100010, g1, .cells #[.string p0.fSource, .string p0.fMail, .int .u32 p0.fSerial, .int .u32 p0.fRefresh, .int .u32 p0.fRetry, .int .u32 p0.fExpire, .int .u32 p0.fMinimum] 50 (0, 0)) :: H, (100100, ⟨.slice A25 x23.fb.length c26, 5, 1, x23.fb.length, x23.fb.flatMap (fun x : Int => [Value.int .u8 x])⟩) :: (100101, ⟨mapV A28, 98, 2, x23.fplaces.length, x23.fplaces.flatMap (mcell (fun x : ByteArray => Value.string x) (fun x : Int => Value.int .i64 x))⟩) :: R, φ⟩ (fun _ h => h) ?_
   refine c_block ?_
   refine c_rounds 64 ?_
   refine c_seq ?_
   refine c_region ?_
   refine g_v rfl (r_lss rfl rfl) ?_
   refine g_nil ?_
   refine d_then ?_
   refine c_seq ?_
   refine c_cond1 rfl (by decide) ?_
   refine c_skip ?_
   refine d_then ?_
   refine c_seq ?_
   refine c_block ?_
   refine c_seq ?_
   refine c_region ?_
   refine g_v rfl (r_indexA Try.underlying120 Try.sizeOf25 Try.isAgg25 rfl rfl rfl rfl) ?_
   refine g_v rfl r_assign ?_
   refine g_nil ?_
   refine d_then ?_
   refine c_region ?_
   refine g_v rfl r_move ?_
   refine g_v rfl r_move ?_
   replace hm := bnd hm
   obtain ⟨x33, hx34, hm⟩ := hm
   refine g_cn ⟨w0, M, (1000, g10, .cells #[.slice A25 x23.fb.length c26, mapV A28] 100 (0, 0)) :: (100010, g1, .cells #[.string p0.fSource, .string p0.fMail, .int .u32 p0.fSerial, .int .u32 p0.fRefresh, .int .u32 p0.fRetry, .int .u32 p0.fExpire, .int .u32 p0.fMinimum] 50 (0, 0)) :: H, (1000, ⟨.slice A25 x23.fb.length c26, 5, 1, x23.fb.length, x23.fb.flatMap (fun x : Int => [Value.int .u8 x])⟩) :: (1001, ⟨mapV A28, 98, 2, x23.fplaces.length, x23.fplaces.flatMap (mcell (fun x : ByteArray => Value.string x) (fun x : Int => Value.int .i64 x))⟩) :: R, φ⟩ (fun W h => (ok_front (t := 100105) (t' := 1000) (ok_frontR (t := 100100) (t' := 1000) (ok_frontR (t := 100101) (t' := 1001) h rfl) rfl) rfl)) Try.call70 rfl rfl (c_pack_Packer_Long p0.fSerial g10 x23 A25 c26 hc26 A28 c29 trivial _ hx34) (fun ⟨A35, c36, A38, c39⟩ ⟨hc36, hc39⟩ => ?_)
   refine g_sta _ (fun W h => (ok_frontR (t := 2000) (t' := 100100) (ok_frontR (t := 2001) (t' := 100101) (ok_front (t := 1000) (t' := 100105) h rfl) rfl) rfl)) ?_
   refine g_nil ?_
   refine d_normal_block ?_
   refine d_then ?_
   refine c_region ?_
   refine g_v rfl (r_add rfl rfl (show IntKind.i64.wrap (0 + 1) = 1 by decide)) ?_
   refine g_v rfl r_move ?_
   refine g_nil ?_
   refine d_rounds ?_
   refine c_flat [(4, .pointer (some ⟨g10, 0, none⟩)), (36, .agg #[.int .u32 p0.fSerial, .int .u32 p0.fRefresh, .int .u32 p0.fRetry, .int .u32 p0.fExpire, .int .u32 p0.fMinimum]), (37, .int .i64 1)] ⟨rfl, rfl, rfl, trivial⟩ (fun u => ?_)
   refine c_sta ⟨w0, M, (100105, g10, .cells #[.slice A35 x33.fb.length c36, mapV A38] 100 (0, 0)) :: (100010, g1, .cells #[.string p0.fSource, .string p0.fMail, .int .u32 p0.fSerial, .int .u32 p0.fRefresh, .int .u32 p0.fRetry, .int .u32 p0.fExpire, .int .u32 p0.fMinimum] 50 (0, 0)) :: H, (100100, ⟨.slice A35 x33.fb.length c36, 5, 1, x33.fb.length, x33.fb.flatMap (fun x : Int => [Value.int .u8 x])⟩) :: (100101, ⟨mapV A38, 98, 2, x33.fplaces.length, x33.fplaces.flatMap (mcell (fun x : ByteArray => Value.string x) (fun x : Int => Value.int .i64 x))⟩) :: R, φ⟩ (fun _ h => h) ?_
   refine c_seq ?_
   refine c_region ?_
   refine g_v rfl (r_lss rfl rfl) ?_
   refine g_nil ?_
   refine d_then ?_
   refine c_seq ?_
   refine c_cond1 rfl (by decide) ?_
   refine c_skip ?_
   refine d_then ?_
   refine c_seq ?_
   refine c_block ?_
   refine c_seq ?_
   refine c_region ?_
   refine g_v rfl (r_indexA Try.underlying120 Try.sizeOf25 Try.isAgg25 rfl rfl rfl rfl) ?_
   refine g_v rfl r_assign ?_
   refine g_nil ?_
   refine d_then ?_
   refine c_region ?_
   refine g_v rfl r_move ?_
   refine g_v rfl r_move ?_
   replace hm := bnd hm
   obtain ⟨x41, hx42, hm⟩ := hm
   refine g_cn ⟨w0, M, (1000, g10, .cells #[.slice A35 x33.fb.length c36, mapV A38] 100 (0, 0)) :: (100010, g1, .cells #[.string p0.fSource, .string p0.fMail, .int .u32 p0.fSerial, .int .u32 p0.fRefresh, .int .u32 p0.fRetry, .int .u32 p0.fExpire, .int .u32 p0.fMinimum] 50 (0, 0)) :: H, (1000, ⟨.slice A35 x33.fb.length c36, 5, 1, x33.fb.length, x33.fb.flatMap (fun x : Int => [Value.int .u8 x])⟩) :: (1001, ⟨mapV A38, 98, 2, x33.fplaces.length, x33.fplaces.flatMap (mcell (fun x : ByteArray => Value.string x) (fun x : Int => Value.int .i64 x))⟩) :: R, φ⟩ (fun W h => (ok_front (t := 100105) (t' := 1000) (ok_frontR (t := 100100) (t' := 1000) (ok_frontR (t := 100101) (t' := 1001) h rfl) rfl) rfl)) Try.call70 rfl rfl (c_pack_Packer_Long p0.fRefresh g10 x33 A35 c36 hc36 A38 c39 trivial _ hx42) (fun ⟨A43, c44, A46, c47⟩ ⟨hc44, hc47⟩ => ?_)
   refine g_sta _ (fun W h => (ok_frontR (t := 2000) (t' := 100100) (ok_frontR (t := 2001) (t' := 100101) (ok_front (t := 1000) (t' := 100105) h rfl) rfl) rfl)) ?_
   refine g_nil ?_
   refine d_normal_block ?_
   refine d_then ?_
   refine c_region ?_
   refine g_v rfl (r_add rfl rfl (show IntKind.i64.wrap (1 + 1) = 2 by decide)) ?_
   refine g_v rfl r_move ?_
   refine g_nil ?_
   refine d_rounds ?_
   refine c_flat [(4, .pointer (some ⟨g10, 0, none⟩)), (36, .agg #[.int .u32 p0.fSerial, .int .u32 p0.fRefresh, .int .u32 p0.fRetry, .int .u32 p0.fExpire, .int .u32 p0.fMinimum]), (37, .int .i64 2)] ⟨rfl, rfl, rfl, trivial⟩ (fun u => ?_)
   refine c_sta ⟨w0, M, (100105, g10, .cells #[.slice A43 x41.fb.length c44, mapV A46] 100 (0, 0)) :: (100010, g1, .cells #[.string p0.fSource, .string p0.fMail, .int .u32 p0.fSerial, .int .u32 p0.fRefresh, .int .u32 p0.fRetry, .int .u32 p0.fExpire, .int .u32 p0.fMinimum] 50 (0, 0)) :: H, (100100, ⟨.slice A43 x41.fb.length c44, 5, 1, x41.fb.length, x41.fb.flatMap (fun x : Int => [Value.int .u8 x])⟩) :: (100101, ⟨mapV A46, 98, 2, x41.fplaces.length, x41.fplaces.flatMap (mcell (fun x : ByteArray => Value.string x) (fun x : Int => Value.int .i64 x))⟩) :: R, φ⟩ (fun _ h => h) ?_
   refine c_seq ?_
   refine c_region ?_
   refine g_v rfl (r_lss rfl rfl) ?_
   refine g_nil ?_
   refine d_then ?_
   refine c_seq ?_
   refine c_cond1 rfl (by decide) ?_
   refine c_skip ?_
   refine d_then ?_
   refine c_seq ?_
   refine c_block ?_
   refine c_seq ?_
   refine c_region ?_
   refine g_v rfl (r_indexA Try.underlying120 Try.sizeOf25 Try.isAgg25 rfl rfl rfl rfl) ?_
   refine g_v rfl r_assign ?_
   refine g_nil ?_
   refine d_then ?_
   refine c_region ?_
   refine g_v rfl r_move ?_
   refine g_v rfl r_move ?_
   replace hm := bnd hm
   obtain ⟨x49, hx50, hm⟩ := hm
   refine g_cn ⟨w0, M, (1000, g10, .cells #[.slice A43 x41.fb.length c44, mapV A46] 100 (0, 0)) :: (100010, g1, .cells #[.string p0.fSource, .string p0.fMail, .int .u32 p0.fSerial, .int .u32 p0.fRefresh, .int .u32 p0.fRetry, .int .u32 p0.fExpire, .int .u32 p0.fMinimum] 50 (0, 0)) :: H, (1000, ⟨.slice A43 x41.fb.length c44, 5, 1, x41.fb.length, x41.fb.flatMap (fun x : Int => [Value.int .u8 x])⟩) :: (1001, ⟨mapV A46, 98, 2, x41.fplaces.length, x41.fplaces.flatMap (mcell (fun x : ByteArray => Value.string x) (fun x : Int => Value.int .i64 x))⟩) :: R, φ⟩ (fun W h => (ok_front (t := 100105) (t' := 1000) (ok_frontR (t := 100100) (t' := 1000) (ok_frontR (t := 100101) (t' := 1001) h rfl) rfl) rfl)) Try.call70 rfl rfl (c_pack_Packer_Long p0.fRetry g10 x41 A43 c44 hc44 A46 c47 trivial _ hx50) (fun ⟨A51, c52, A54, c55⟩ ⟨hc52, hc55⟩ => ?_)
   refine g_sta _ (fun W h => (ok_frontR (t := 2000) (t' := 100100) (ok_frontR (t := 2001) (t' := 100101) (ok_front (t := 1000) (t' := 100105) h rfl) rfl) rfl)) ?_
   refine g_nil ?_
   refine d_normal_block ?_
   refine d_then ?_
   refine c_region ?_
   refine g_v rfl (r_add rfl rfl (show IntKind.i64.wrap (2 + 1) = 3 by decide)) ?_
   refine g_v rfl r_move ?_
   refine g_nil ?_
   refine d_rounds ?_
   refine c_flat [(4, .pointer (some ⟨g10, 0, none⟩)), (36, .agg #[.int .u32 p0.fSerial, .int .u32 p0.fRefresh, .int .u32 p0.fRetry, .int .u32 p0.fExpire, .int .u32 p0.fMinimum]), (37, .int .i64 3)] ⟨rfl, rfl, rfl, trivial⟩ (fun u => ?_)
   refine c_sta ⟨w0, M, (100105, g10, .cells #[.slice A51 x49.fb.length c52, mapV A54] 100 (0, 0)) :: (100010, g1, .cells #[.string p0.fSource, .string p0.fMail, .int .u32 p0.fSerial, .int .u32 p0.fRefresh, .int .u32 p0.fRetry, .int .u32 p0.fExpire, .int .u32 p0.fMinimum] 50 (0, 0)) :: H, (100100, ⟨.slice A51 x49.fb.length c52, 5, 1, x49.fb.length, x49.fb.flatMap (fun x : Int => [Value.int .u8 x])⟩) :: (100101, ⟨mapV A54, 98, 2, x49.fplaces.length, x49.fplaces.flatMap (mcell (fun x : ByteArray => Value.string x) (fun x : Int => Value.int .i64 x))⟩) :: R, φ⟩ (fun _ h => h) ?_
   refine c_seq ?_
   refine c_region ?_
   refine g_v rfl (r_lss rfl rfl) ?_
   refine g_nil ?_
   refine d_then ?_
   refine c_seq ?_
   refine c_cond1 rfl (by decide) ?_
   refine c_skip ?_
   refine d_then ?_
   refine c_seq ?_
   refine c_block ?_
   refine c_seq ?_
   refine c_region ?_
   refine g_v rfl (r_indexA Try.underlying120 Try.sizeOf25 Try.isAgg25 rfl rfl rfl rfl) ?_
   refine g_v rfl r_assign ?_
   refine g_nil ?_
   refine d_then ?_
   refine c_region ?_
   refine g_v rfl r_move ?_
   refine g_v rfl r_move ?_
   replace hm := bnd hm
   obtain ⟨x57, hx58, hm⟩ := hm
   refine g_cn ⟨w0, M, (1000, g10, .cells #[.slice A51 x49.fb.length c52, mapV A54] 100 (0, 0)) :: (100010, g1, .cells #[.string p0.fSource, .string p0.fMail, .int .u32 p0.fSerial, .int .u32 p0.fRefresh, .int .u32 p0.fRetry, .int .u32 p0.fExpire, .int .u32 p0.fMinimum] 50 (0, 0)) :: H, (1000, ⟨.slice A51 x49.fb.length c52, 5, 1, x49.fb.length, x49.fb.flatMap (fun x : Int => [Value.int .u8 x])⟩) :: (1001, ⟨mapV A54, 98, 2, x49.fplaces.length, x49.fplaces.flatMap (mcell (fun x : ByteArray => Value.string x) (fun x : Int => Value.int .i64 x))⟩) :: R, φ⟩ (fun W h => (ok_front (t := 100105) (t' := 1000) (ok_frontR (t := 100100) (t' := 1000) (ok_frontR (t := 100101) (t' := 1001) h rfl) rfl) rfl)) Try.call70 rfl rfl (c_pack_Packer_Long p0.fExpire g10 x49 A51 c52 hc52 A54 c55 trivial _ hx58) (fun ⟨A59, c60, A62, c63⟩ ⟨hc60, hc63⟩ => ?_)
   refine g_sta _ (fun W h => (ok_frontR (t := 2000) (t' := 100100) (ok_frontR (t := 2001) (t' := 100101) (ok_front (t := 1000) (t' := 100105) h rfl) rfl) rfl)) ?_
   refine g_nil ?_
   refine d_normal_block ?_
   refine d_then ?_
   refine c_region ?_
   refine g_v rfl (r_add rfl rfl (show IntKind.i64.wrap (3 + 1) = 4 by decide)) ?_
   refine g_v rfl r_move ?_
   refine g_nil ?_
   refine d_rounds ?_
   refine c_flat [(4, .pointer (some ⟨g10, 0, none⟩)), (36, .agg #[.int .u32 p0.fSerial, .int .u32 p0.fRefresh, .int .u32 p0.fRetry, .int .u32 p0.fExpire, .int .u32 p0.fMinimum]), (37, .int .i64 4)] ⟨rfl, rfl, rfl, trivial⟩ (fun u => ?_)
   refine c_sta ⟨w0, M, (100105, g10, .cells #[.slice A59 x57.fb.length c60, mapV A62] 100 (0, 0)) :: (100010, g1, .cells #[.string p0.fSource, .string p0.fMail, .int .u32 p0.fSerial, .int .u32 p0.fRefresh, .int .u32 p0.fRetry, .int .u32 p0.fExpire, .int .u32 p0.fMinimum] 50 (0, 0)) :: H, (100100, ⟨.slice A59 x57.fb.length c60, 5, 1, x57.fb.length, x57.fb.flatMap (fun x : Int => [Value.int .u8 x])⟩) :: (100101, ⟨mapV A62, 98, 2, x57.fplaces.length, x57.fplaces.flatMap (mcell (fun x : ByteArray => Value.string x) (fun x : Int => Value.int .i64 x))⟩) :: R, φ⟩ (fun _ h => h) ?_
   refine c_seq ?_
   refine c_region ?_
   refine g_v rfl (r_lss rfl rfl) ?_
   refine g_nil ?_
   refine d_then ?_
   refine c_seq ?_
   refine c_cond1 rfl (by decide) ?_
   refine c_skip ?_
   refine d_then ?_
   refine c_seq ?_
   refine c_block ?_
   refine c_seq ?_
   refine c_region ?_
   refine g_v rfl (r_indexA Try.underlying120 Try.sizeOf25 Try.isAgg25 rfl rfl rfl rfl) ?_
   refine g_v rfl r_assign ?_
   refine g_nil ?_
   refine d_then ?_
   refine c_region ?_
   refine g_v rfl r_move ?_
   refine g_v rfl r_move ?_
   replace hm := bnd hm
   obtain ⟨x65, hx66, hm⟩ := hm
   refine g_cn ⟨w0, M, (1000, g10, .cells #[.slice A59 x57.fb.length c60, mapV A62] 100 (0, 0)) :: (100010, g1, .cells #[.string p0.fSource, .string p0.fMail, .int .u32 p0.fSerial, .int .u32 p0.fRefresh, .int .u32 p0.fRetry, .int .u32 p0.fExpire, .int .u32 p0.fMinimum] 50 (0, 0)) :: H, (1000, ⟨.slice A59 x57.fb.length c60, 5, 1, x57.fb.length, x57.fb.flatMap (fun x : Int => [Value.int .u8 x])⟩) :: (1001, ⟨mapV A62, 98, 2, x57.fplaces.length, x57.fplaces.flatMap (mcell (fun x : ByteArray => Value.string x) (fun x : Int => Value.int .i64 x))⟩) :: R, φ⟩ (fun W h => (ok_front (t := 100105) (t' := 1000) (ok_frontR (t := 100100) (t' := 1000) (ok_frontR (t := 100101) (t' := 1001) h rfl) rfl) rfl)) Try.call70 rfl rfl (c_pack_Packer_Long p0.fMinimum g10 x57 A59 c60 hc60 A62 c63 trivial _ hx66) (fun ⟨A67, c68, A70, c71⟩ ⟨hc68, hc71⟩ => ?_)
   refine g_sta _ (fun W h => (ok_frontR (t := 2000) (t' := 100100) (ok_frontR (t := 2001) (t' := 100101) (ok_front (t := 1000) (t' := 100105) h rfl) rfl) rfl)) ?_
   refine g_nil ?_
   refine d_normal_block ?_
   refine d_then ?_
   refine c_region ?_
   refine g_v rfl (r_add rfl rfl (show IntKind.i64.wrap (4 + 1) = 5 by decide)) ?_
   refine g_v rfl r_move ?_
   refine g_nil ?_
   refine d_rounds ?_
   refine c_flat [(4, .pointer (some ⟨g10, 0, none⟩)), (36, .agg #[.int .u32 p0.fSerial, .int .u32 p0.fRefresh, .int .u32 p0.fRetry, .int .u32 p0.fExpire, .int .u32 p0.fMinimum]), (37, .int .i64 5)] ⟨rfl, rfl, rfl, trivial⟩ (fun u => ?_)
   refine c_sta ⟨w0, M, (100105, g10, .cells #[.slice A67 x65.fb.length c68, mapV A70] 100 (0, 0)) :: (100010, g1, .cells #[.string p0.fSource, .string p0.fMail, .int .u32 p0.fSerial, .int .u32 p0.fRefresh, .int .u32 p0.fRetry, .int .u32 p0.fExpire, .int .u32 p0.fMinimum] 50 (0, 0)) :: H, (100100, ⟨.slice A67 x65.fb.length c68, 5, 1, x65.fb.length, x65.fb.flatMap (fun x : Int => [Value.int .u8 x])⟩) :: (100101, ⟨mapV A70, 98, 2, x65.fplaces.length, x65.fplaces.flatMap (mcell (fun x : ByteArray => Value.string x) (fun x : Int => Value.int .i64 x))⟩) :: R, φ⟩ (fun _ h => h) ?_
   refine c_seq ?_
   refine c_region ?_
   refine g_v rfl (r_lss rfl rfl) ?_
   refine g_nil ?_
   refine d_then ?_
   refine c_seq ?_
   refine c_cond0 rfl (by decide) ?_
   refine c_exit ?_
   refine d_exit_then ?_
   refine d_exit_then ?_
   refine d_exit_block ?_
   refine d_then ?_
   refine c_seq ?_
   refine c_region ?_
   refine g_v rfl r_move ?_
   replace hm := bnd hm
   obtain ⟨x73, hx74, hm⟩ := hm
   refine g_cn ⟨w0, M, (1000, g10, .cells #[.slice A67 x65.fb.length c68, mapV A70] 100 (0, 0)) :: (100010, g1, .cells #[.string p0.fSource, .string p0.fMail, .int .u32 p0.fSerial, .int .u32 p0.fRefresh, .int .u32 p0.fRetry, .int .u32 p0.fExpire, .int .u32 p0.fMinimum] 50 (0, 0)) :: H, (1000, ⟨.slice A67 x65.fb.length c68, 5, 1, x65.fb.length, x65.fb.flatMap (fun x : Int => [Value.int .u8 x])⟩) :: (1001, ⟨mapV A70, 98, 2, x65.fplaces.length, x65.fplaces.flatMap (mcell (fun x : ByteArray => Value.string x) (fun x : Int => Value.int .i64 x))⟩) :: R, φ⟩ (fun W h => (ok_front (t := 100105) (t' := 1000) (ok_frontR (t := 100100) (t' := 1000) (ok_frontR (t := 100101) (t' := 1001) h rfl) rfl) rfl)) Try.call26 rfl rfl (c_pack_Packer_Bytes g10 x65 A67 c68 hc68 A70 c71 trivial _ hx74) (fun _ _ => ?_)
   refine g_sta _ (fun W h => (ok_frontR (t := 1000) (t' := 100100) (ok_frontR (t := 1001) (t' := 100101) (ok_front (t := 1000) (t' := 100105) h rfl) rfl) rfl)) ?_
   refine g_v rfl r_assign ?_
   refine g_v rfl r_assign ?_
   refine g_nil ?_
   refine d_then ?_
   refine c_ret ?_
   replace hm := Option.some.inj hm
   subst hm
   refine d_retC () Try.results36 ?_ trivial (fun W h => ok_pre (H1 := [_, _]) (R1 := [_, _]) h (fun W hφ => hφ)) (.inr rfl)
   refine res_tmp ?_
   refine res_tmp ?_
   refine res_nil ?_
   exact rfl

theorem bld50_18  : ∀ W, (Instr.build 50 #[]).run Try.prog W = .ok (.agg #[.string (⟨#[]⟩ : ByteArray), .string (⟨#[]⟩ : ByteArray), .int .u32 0, .int .u32 0, .int .u32 0, .int .u32 0, .int .u32 0]) W := fun _ => by kernel_rfl
noncomputable def m_record_Soa_c1 (p0 : Int) (o0 : Grecord_parts) : Option Int :=
  (m_pack_Long o0.fbehind (w64 (4 * p0))).bind fun (z5 : Int × Int × Int) =>
  some z5.1
theorem c_record_Soa_c1 {w0 : World} {M : Nat → Prop} {H : List (Nat × Nat × Obj)} {R : List (Nat × Row)} {φ : World → Prop} (p0 : Int) (go0 : Nat) (o0 : Grecord_parts) (Ao0_0 : Option Addr) (co0_0 : Nat) (hco0_0 : o0.fnames.length ≤ co0_0) (fo0_0 : ∀ W, φ W → Cl W Ao0_0 (o0.fnames.flatMap (fun x : ByteArray => [Value.string x]))) (r : Int) (hm : m_record_Soa_c1 p0 o0 = some r) :
    Cn Try.prog 77 #[.int .i64 p0, .pointer (some ⟨go0, 0, none⟩)] ⟨w0, M, (1000, go0, .cells #[.string o0.fahead, .string o0.fbehind, .slice Ao0_0 o0.fnames.length co0_0] 107 (0, 0)) :: H, R, φ⟩ (fun x : Unit => .int .u32 r) (fun x => True) (fun x => ⟨w0, M, (1000, go0, .cells #[.string o0.fahead, .string o0.fbehind, .slice Ao0_0 o0.fnames.length co0_0] 107 (0, 0)) :: H, R, φ⟩) := by
 unfold m_record_Soa_c1 at hm
 refine cn_intro (fn := Try.f77) (N := 17) Try.func77 rfl Try.ntmps77 rfl ?_
 refine c_seq ?_
 refine c_region ?_
 refine g_v rfl r_assign ?_
 refine g_nil ?_
 refine d_then ?_
 refine c_seq ?_
 refine c_region ?_
 refine g_v rfl (r_field (n := 1) Try.underlying107 rfl Try.sizeOf9 rfl rfl) ?_
 refine g_v rfl (r_load (tag := 1000) rfl rfl rfl Try.isAgg9) ?_
 refine g_v rfl r_move ?_
 refine g_v rfl (r_mul rfl rfl rfl) ?_
 replace hm := bnd hm
 obtain ⟨⟨x1, x2, x3⟩, hx4, hm⟩ := hm
 refine g_cn ⟨w0, M, _, _, φ⟩ (fun _ h => h) Try.call59 rfl rfl (c_pack_Long o0.fbehind (w64 (4 * p0)) _ hx4) (fun _ _ => ?_)
 refine g_v rfl r_move ?_
 refine g_v rfl (r_extract rfl rfl) ?_
 refine g_v rfl (r_extract rfl rfl) ?_
 refine g_v rfl (r_extract rfl rfl) ?_
 refine g_v rfl r_assign ?_
 refine g_v rfl r_assign ?_
 refine g_v rfl r_assign ?_
 refine g_nil ?_
 refine d_then ?_
 refine c_flat [(4, .int .u32 x1)] ⟨rfl, trivial⟩ (fun u => ?_)
 refine c_sta ⟨w0, M, (1000, go0, .cells #[.string o0.fahead, .string o0.fbehind, .slice Ao0_0 o0.fnames.length co0_0] 107 (0, 0)) :: H, R, φ⟩ (fun _ h => h) ?_
 refine c_seq ?_
 refine c_region ?_
 refine g_v rfl r_move ?_
 refine g_v rfl r_assign ?_
 refine g_nil ?_
 refine d_then ?_
 refine c_ret ?_
 replace hm := Option.some.inj hm
 subst hm
 refine d_retC () Try.results77 ?_ trivial (fun W h => h.phi (fun W hφ => hφ)) (.inr rfl)
 refine res_tmp ?_
 refine res_nil ?_
 exact rfl

theorem bld50_19 (z0 : ByteArray) (z1 : ByteArray) (z2 : Int) (z3 : Int) (z4 : Int) (z5 : Int) (z6 : Int) : ∀ W, (Instr.build 50 #[(0, .string z0), (1, .string z1), (2, .int .u32 z2), (3, .int .u32 z3), (4, .int .u32 z4), (5, .int .u32 z5), (6, .int .u32 z6)]).run Try.prog W = .ok (.agg #[.string z0, .string z1, .int .u32 z2, .int .u32 z3, .int .u32 z4, .int .u32 z5, .int .u32 z6]) W := fun _ => by kernel_rfl
noncomputable def m_record_Soa_j1  (s138 : ByteArray) (s139 : ByteArray) (l140 : List ByteArray) : Option (GSoa × Int) :=
  (at_ l140 0).bind fun x181 =>
  (at_ l140 1).bind fun x185 =>
  (m_record_Soa_c1 0 (⟨s138, s139, l140⟩ : Grecord_parts)).bind fun x189 =>
  (m_record_Soa_c1 1 (⟨s138, s139, l140⟩ : Grecord_parts)).bind fun x191 =>
  (m_record_Soa_c1 2 (⟨s138, s139, l140⟩ : Grecord_parts)).bind fun x193 =>
  (m_record_Soa_c1 3 (⟨s138, s139, l140⟩ : Grecord_parts)).bind fun x195 =>
  (m_record_Soa_c1 4 (⟨s138, s139, l140⟩ : Grecord_parts)).bind fun x197 =>
  some ((⟨x181, x185, x189, x191, x193, x195, x197⟩ : GSoa), 0)
noncomputable def m_record_Soa (p0 : GRR) : Option (GSoa × Int) :=
  if p0.fType ≠ 6 then
    some ((⟨(⟨#[]⟩ : ByteArray), (⟨#[]⟩ : ByteArray), 0, 0, 0, 0, 0⟩ : GSoa), 12)
  else
    (m_record_Check p0).bind fun x4 =>
    if x4 ≠ 0 then
      some ((⟨(⟨#[]⟩ : ByteArray), (⟨#[]⟩ : ByteArray), 0, 0, 0, 0, 0⟩ : GSoa), x4)
    else
      (m_record_shapeOf p0.fType).bind fun x251 =>
      (m_record_shape_cut x251 p0.fData).bind fun (z257 : Grecord_parts × Bool) =>
      m_record_Soa_j1 z257.1.fahead z257.1.fbehind z257.1.fnames
theorem c_record_Soa {w0 : World} {M : Nat → Prop} {H : List (Nat × Nat × Obj)} {R : List (Nat × Row)} {φ : World → Prop} (p0 : GRR) (r : GSoa × Int) (hm : m_record_Soa p0 = some r) :
    Cn Try.prog 29 #[.agg #[.string p0.fName, .int .u16 p0.fType, .int .u16 p0.fClass, .int .u32 p0.fTTL, .string p0.fData]] ⟨w0, M, H, R, φ⟩ (fun x : Unit => .tuple #[.agg #[.string r.1.fSource, .string r.1.fMail, .int .u32 r.1.fSerial, .int .u32 r.1.fRefresh, .int .u32 r.1.fRetry, .int .u32 r.1.fExpire, .int .u32 r.1.fMinimum], .int .i64 r.2]) (fun x => True) (fun x => ⟨w0, M, H, R, φ⟩) := by
 unfold m_record_Soa at hm
 refine cn_intro (fn := Try.f29) (N := 47) Try.func29 rfl Try.ntmps29 rfl ?_
 refine c_seq ?_
 refine c_region ?_
 refine g_e rfl (e_box 100010 rfl) (fun g1 _ => ?_)
 refine g_e rfl (e_alloc 100020 Try.zeroValue50) (fun g2 _ => ?_)
 refine g_v rfl r_assign ?_
 refine g_nil ?_
 refine d_then ?_
 refine c_seq ?_
 refine c_seq ?_
 refine c_region ?_
 refine g_v rfl (r_field (n := 1) Try.underlying27 rfl Try.sizeOf24 rfl rfl) ?_
 refine g_v rfl (r_load (tag := 100010) rfl rfl rfl Try.isAgg24) ?_
 refine g_v rfl (r_neq rfl rfl) ?_
 refine g_nil ?_
 refine d_then ?_
 refine c_cond rfl (fun h3 => ?_) (fun h3 => ?_)
 ·
  replace hm := ite_t hm (of_decide_eq_true h3)
  refine c_seq ?_
  refine c_region ?_
  refine g_v rfl (r_build _ rfl (bld50_18)) ?_
  refine g_storeL (tag := 100020) rfl rfl rfl rfl Try.sizeOf50 rfl rfl ?_
  refine g_v rfl r_assign ?_
  refine g_nil ?_
  refine d_then ?_
  refine c_flat [(2, .pointer (some ⟨g2, 0, none⟩)), (3, .int .i64 12)] ⟨rfl, rfl, trivial⟩ (fun u => ?_)
  refine c_sta ⟨w0, M, (100020, g2, .cells #[.string (⟨#[]⟩ : ByteArray), .string (⟨#[]⟩ : ByteArray), .int .u32 0, .int .u32 0, .int .u32 0, .int .u32 0, .int .u32 0] 50 (0, 0)) :: (100010, g1, .cells #[.string p0.fName, .int .u16 p0.fType, .int .u16 p0.fClass, .int .u32 p0.fTTL, .string p0.fData] 27 (0, 0)) :: H, R, φ⟩ (fun _ h => h) ?_
  refine c_ret ?_
  refine d_ret_then ?_
  replace hm := Option.some.inj hm
  subst hm
  refine d_retC () Try.results29 ?_ trivial (fun W h => ok_pre (H1 := [_, _]) (R1 := []) h (fun W hφ => hφ)) (.inr rfl)
  refine res_agg (tag := 100020) rfl rfl Try.isAgg50 Try.sizeOf50 ?_
  refine res_tmp ?_
  refine res_nil ?_
  exact rfl
 ·
  replace hm := ite_f hm (of_decide_eq_false h3)
  refine c_skip ?_
  refine d_then ?_
  refine c_seq ?_
  refine c_region ?_
  refine g_v rfl (r_loadA (tag := 100010) rfl rfl Try.isAgg27 Try.sizeOf27 rfl rfl) ?_
  replace hm := bnd hm
  obtain ⟨x4, hx5, hm⟩ := hm
  refine g_cn ⟨w0, M, _, _, φ⟩ (fun _ h => h) Try.call31 rfl rfl (c_record_Check p0 _ hx5) (fun _ _ => ?_)
  refine g_v rfl r_assign ?_
  refine g_nil ?_
  refine d_then ?_
  refine c_flat [(1, .pointer (some ⟨g1, 0, none⟩)), (2, .pointer (some ⟨g2, 0, none⟩)), (4, .int .i64 x4)] ⟨rfl, rfl, rfl, trivial⟩ (fun u => ?_)
  refine c_sta ⟨w0, M, (100020, g2, .cells #[.string (⟨#[]⟩ : ByteArray), .string (⟨#[]⟩ : ByteArray), .int .u32 0, .int .u32 0, .int .u32 0, .int .u32 0, .int .u32 0] 50 (0, 0)) :: (100010, g1, .cells #[.string p0.fName, .int .u16 p0.fType, .int .u16 p0.fClass, .int .u32 p0.fTTL, .string p0.fData] 27 (0, 0)) :: H, R, φ⟩ (fun _ h => h) ?_
  refine c_seq ?_
  refine c_seq ?_
  refine c_region ?_
  refine g_v rfl r_move ?_
  refine g_v rfl (r_neq rfl rfl) ?_
  refine g_nil ?_
  refine d_then ?_
  refine c_cond rfl (fun h6 => ?_) (fun h6 => ?_)
  ·
   replace hm := ite_t hm (of_decide_eq_true h6)
   refine c_seq ?_
   refine c_region ?_
   refine g_v rfl (r_build _ rfl (bld50_18)) ?_
   refine g_v rfl r_move ?_
   refine g_storeL (tag := 100020) rfl rfl rfl rfl Try.sizeOf50 rfl rfl ?_
   refine g_v rfl r_assign ?_
   refine g_nil ?_
   refine d_then ?_
   refine c_ret ?_
   refine d_ret_then ?_
   replace hm := Option.some.inj hm
   subst hm
   refine d_retC () Try.results29 ?_ trivial (fun W h => ok_pre (H1 := [_, _]) (R1 := []) h (fun W hφ => hφ)) (.inr rfl)
   refine res_agg (tag := 100020) rfl rfl Try.isAgg50 Try.sizeOf50 ?_
   refine res_tmp ?_
   refine res_nil ?_
   exact rfl
  ·
   replace hm := ite_f hm (of_decide_eq_false h6)
   refine c_skip ?_
   refine d_then ?_
   refine c_seq ?_
   refine c_cut (ι := ByteArray × ByteArray × (List ByteArray) × Nat × Option Addr × Nat) [2, 5] (fun ⟨s138, s139, l140, g137, A141, c142⟩ => [(5, .pointer (some ⟨g137, 0, none⟩))]) (fun ⟨s138, s139, l140, g137, A141, c142⟩ => ⟨w0, M, (100050, g137, .cells #[.string s138, .string s139, .slice A141 l140.length c142] 107 (0, 0)) :: (100020, g2, .cells #[.string (⟨#[]⟩ : ByteArray), .string (⟨#[]⟩ : ByteArray), .int .u32 0, .int .u32 0, .int .u32 0, .int .u32 0, .int .u32 0] 50 (0, 0)) :: H, R, fun W => φ W ∧ Cl W A141 (l140.flatMap (fun x : ByteArray => [Value.string x]))⟩) (fun ⟨s138, s139, l140, g137, A141, c142⟩ => m_record_Soa_j1 s138 s139 l140 = some r ∧ l140.length ≤ c142) ?_ (fun ⟨s138, s139, l140, g137, A141, c142⟩ u ⟨hm, hc142⟩ => ?_)
   ·
    refine ga_start (n := 12) ⟨w0, M, (100020, g2, .cells #[.string (⟨#[]⟩ : ByteArray), .string (⟨#[]⟩ : ByteArray), .int .u32 0, .int .u32 0, .int .u32 0, .int .u32 0, .int .u32 0] 50 (0, 0)) :: (100010, g1, .cells #[.string p0.fName, .int .u16 p0.fType, .int .u16 p0.fClass, .int .u32 p0.fTTL, .string p0.fData] 27 (0, 0)) :: H, R, φ⟩ [] #[false, false, false, false, false, false, false, false, false, false, false, false] (fun W h => h.phi (fun W hφ => hφ)) mixed rfl rfl ?_
    refine ga_v (i := 0) #[true, false, false, false, false, false, false, false, false, false, false, false] rfl (by kernel_rfl) (fun _ _ _ _ h => h) rfl (r_field (n := 1) Try.underlying27 rfl Try.sizeOf24 rfl rfl) ?_
    refine ga_v (i := 1) #[true, true, false, false, false, false, false, false, false, false, false, false] rfl (by kernel_rfl) (fun _ _ _ _ h => h) rfl (r_load (tag := 100010) rfl rfl rfl Try.isAgg24) ?_
    refine ga_v (i := 3) #[true, true, false, true, false, false, false, false, false, false, false, false] rfl (by kernel_rfl) (fun _ _ _ _ h => h) rfl (r_field (n := 4) Try.underlying27 rfl Try.sizeOf9 rfl rfl) ?_
    refine ga_v (i := 4) #[true, true, false, true, true, false, false, false, false, false, false, false] rfl (by kernel_rfl) (fun _ _ _ _ h => h) rfl (r_load (tag := 100010) rfl rfl rfl Try.isAgg9) ?_
    replace hm := bnd hm
    obtain ⟨x251, hx252, hm⟩ := hm
    refine ga_two (i := 2) (j := 9) #[true, true, true, true, true, false, false, false, false, false, false, false] #[true, true, false, true, true, false, false, false, false, true, false, false] rfl rfl (by kernel_rfl) (by decide) (by decide) ?_ ?_
    ·
     refine ex_cn (first := #[]) ⟨w0, M, _, _, φ⟩ (fun _ h => h) Try.call61 rfl rfl rfl (c_record_shapeOf p0.fType _ hx252) (fun _ W _ h => h.phi (fun W hφ => hφ)) (fun _ _ => ?_)
     replace hm := bnd hm
     obtain ⟨⟨x254, x255⟩, hx256, hm⟩ := hm
     refine ga_two (i := 5) (j := 9) #[true, true, true, true, true, true, false, false, false, false, false, false] #[true, true, true, true, true, false, false, false, false, true, false, false] rfl rfl (by kernel_rfl) (by decide) (by decide) ?_ ?_
     ·
      refine ex_cn (first := #[]) ⟨w0, M, _, _, φ⟩ (fun _ h => h) Try.call71 rfl rfl rfl (c_record_shape_cut x251 p0.fData _ hx256) (fun ⟨A258, c259⟩ W hc259 h => (h.phi (fun _ hh => hh.1)).phi (fun W hφ => hφ)) (fun ⟨A258, c259⟩ hc259 => ?_)
      refine ga_abs (fun φ261 q261' => ?_)
      have q261 : ∀ W, φ261 W → φ W := fun W h => (q261' W h).1
      have f260 := fun (W : World) (h : φ261 W) => (q261' W h).2
      refine ga_v (i := 6) #[true, true, true, true, true, true, true, false, false, false, false, false] rfl (by kernel_rfl) (fun _ _ _ _ h => h) rfl (r_move) ?_
      refine ga_v (i := 7) #[true, true, true, true, true, true, true, true, false, false, false, false] rfl (by kernel_rfl) (fun _ _ _ _ h => h) rfl (r_extract rfl rfl) ?_
      refine ga_v (i := 8) #[true, true, true, true, true, true, true, true, true, false, false, false] rfl (by kernel_rfl) (fun _ _ _ _ h => h) rfl (r_extract rfl rfl) ?_
      refine ga_e (i := 9) #[true, true, true, true, true, true, true, true, true, true, false, false] rfl (by kernel_rfl) (by decide) rfl  (e_alloc 100050 Try.zeroValue107) (fun g262 W _ h => (h.dropH (t := 100050) rfl).phi (fun W hφ => (q261 _ hφ))) (fun g262 _ => ?_)
      refine ga_storeN (i := 10) (tag := 100050) #[true, true, true, true, true, true, true, true, true, true, true, false] rfl (by kernel_rfl) (by decide) rfl rfl rfl rfl Try.sizeOf107 rfl rfl (fun W h => (h.dropH (t := 100050) rfl).phi (fun W hφ => (q261 _ hφ))) ?_
      refine ga_r (i := 11) #[true, true, true, true, true, true, true, true, true, true, true, true] rfl (by kernel_rfl) (by decide) rfl (r_assign) ?_
      refine ga_done (by kernel_rfl) ?_
      exact d_round (x254.fahead, x254.fbehind, x254.fnames, g262, A258, c259) ⟨hm, hc259⟩ Nat.zero_lt_one ⟨rfl, rfl, trivial⟩ (fun W h => (h.dropH (t := 100010) rfl).phi (fun W hφ => ⟨(q261 _ hφ), (fun W h => f260 W h) W hφ⟩))
     ·
      refine ex_e rfl (e_alloc 100050 Try.zeroValue107) (fun g263 W _ h => (h.dropH (t := 100050) rfl).phi (fun W hφ => hφ)) (fun g263 _ => ?_)
      refine ga_cn (first := #[]) (i := 5) #[true, true, true, true, true, true, false, false, false, true, false, false] rfl (by kernel_rfl) (by decide)  ⟨w0, M, _, _, φ⟩ (fun _ h => h) Try.call71 rfl rfl rfl (c_record_shape_cut x251 p0.fData _ hx256) (fun ⟨A264, c265⟩ W hc265 h => ((h.phi (fun _ hh => hh.1)).dropH (t := 100050) rfl).phi (fun W hφ => hφ)) (fun ⟨A264, c265⟩ hc265 => ?_)
      refine ga_abs (fun φ267 q267' => ?_)
      have q267 : ∀ W, φ267 W → φ W := fun W h => (q267' W h).1
      have f266 := fun (W : World) (h : φ267 W) => (q267' W h).2
      refine ga_r (i := 6) #[true, true, true, true, true, true, true, false, false, true, false, false] rfl (by kernel_rfl) (by decide) rfl (r_move) ?_
      refine ga_v (i := 7) #[true, true, true, true, true, true, true, true, false, true, false, false] rfl (by kernel_rfl) (fun _ _ _ _ h => h) rfl (r_extract rfl rfl) ?_
      refine ga_v (i := 8) #[true, true, true, true, true, true, true, true, true, true, false, false] rfl (by kernel_rfl) (fun _ _ _ _ h => h) rfl (r_extract rfl rfl) ?_
      refine ga_storeN (i := 10) (tag := 100050) #[true, true, true, true, true, true, true, true, true, true, true, false] rfl (by kernel_rfl) (by decide) rfl rfl rfl rfl Try.sizeOf107 rfl rfl (fun W h => (h.dropH (t := 100050) rfl).phi (fun W hφ => (q267 _ hφ))) ?_
      refine ga_r (i := 11) #[true, true, true, true, true, true, true, true, true, true, true, true] rfl (by kernel_rfl) (by decide) rfl (r_assign) ?_
      refine ga_done (by kernel_rfl) ?_
      exact d_round (x254.fahead, x254.fbehind, x254.fnames, g263, A264, c265) ⟨hm, hc265⟩ Nat.zero_lt_one ⟨rfl, rfl, trivial⟩ (fun W h => (h.dropH (t := 100010) rfl).phi (fun W hφ => ⟨(q267 _ hφ), (fun W h => f266 W h) W hφ⟩))
    ·
     refine ex_e rfl (e_alloc 100050 Try.zeroValue107) (fun g268 W _ h => (h.dropH (t := 100050) rfl).phi (fun W hφ => hφ)) (fun g268 _ => ?_)
     refine ga_cn (first := #[]) (i := 2) #[true, true, true, true, true, false, false, false, false, true, false, false] rfl (by kernel_rfl) (by decide)  ⟨w0, M, _, _, φ⟩ (fun _ h => h) Try.call61 rfl rfl rfl (c_record_shapeOf p0.fType _ hx252) (fun _ W _ h => (h.dropH (t := 100050) rfl).phi (fun W hφ => hφ)) (fun _ _ => ?_)
     replace hm := bnd hm
     obtain ⟨⟨x269, x270⟩, hx271, hm⟩ := hm
     refine ga_cn (first := #[]) (i := 5) #[true, true, true, true, true, true, false, false, false, true, false, false] rfl (by kernel_rfl) (by decide)  ⟨w0, M, _, _, φ⟩ (fun _ h => h) Try.call71 rfl rfl rfl (c_record_shape_cut x251 p0.fData _ hx271) (fun ⟨A272, c273⟩ W hc273 h => ((h.phi (fun _ hh => hh.1)).dropH (t := 100050) rfl).phi (fun W hφ => hφ)) (fun ⟨A272, c273⟩ hc273 => ?_)
     refine ga_abs (fun φ275 q275' => ?_)
     have q275 : ∀ W, φ275 W → φ W := fun W h => (q275' W h).1
     have f274 := fun (W : World) (h : φ275 W) => (q275' W h).2
     refine ga_r (i := 6) #[true, true, true, true, true, true, true, false, false, true, false, false] rfl (by kernel_rfl) (by decide) rfl (r_move) ?_
     refine ga_v (i := 7) #[true, true, true, true, true, true, true, true, false, true, false, false] rfl (by kernel_rfl) (fun _ _ _ _ h => h) rfl (r_extract rfl rfl) ?_
     refine ga_v (i := 8) #[true, true, true, true, true, true, true, true, true, true, false, false] rfl (by kernel_rfl) (fun _ _ _ _ h => h) rfl (r_extract rfl rfl) ?_
     refine ga_storeN (i := 10) (tag := 100050) #[true, true, true, true, true, true, true, true, true, true, true, false] rfl (by kernel_rfl) (by decide) rfl rfl rfl rfl Try.sizeOf107 rfl rfl (fun W h => (h.dropH (t := 100050) rfl).phi (fun W hφ => (q275 _ hφ))) ?_
     refine ga_r (i := 11) #[true, true, true, true, true, true, true, true, true, true, true, true] rfl (by kernel_rfl) (by decide) rfl (r_assign) ?_
     refine ga_done (by kernel_rfl) ?_
     exact d_round (x269.fahead, x269.fbehind, x269.fnames, g268, A272, c273) ⟨hm, hc273⟩ Nat.zero_lt_one ⟨rfl, rfl, trivial⟩ (fun W h => (h.dropH (t := 100010) rfl).phi (fun W hφ => ⟨(q275 _ hφ), (fun W h => f274 W h) W hφ⟩))
   ·
    unfold m_record_Soa_j1 at hm
    refine d_abs (fun φ144 q144' => ?_)
    have q144 : ∀ W, φ144 W → φ W := fun W h => (q144' W h).1
    have f143 := fun (W : World) (h : φ144 W) => (q144' W h).2
    refine d_flat [(2, .pointer (some ⟨g2, 0, none⟩)), (5, .pointer (some ⟨g137, 0, none⟩))] ⟨rfl, rfl, trivial⟩ (fun u => ?_)
    refine d_sta ⟨w0, M, (100050, g137, .cells #[.string s138, .string s139, .slice A141 l140.length c142] 107 (0, 0)) :: (100020, g2, .cells #[.string (⟨#[]⟩ : ByteArray), .string (⟨#[]⟩ : ByteArray), .int .u32 0, .int .u32 0, .int .u32 0, .int .u32 0, .int .u32 0] 50 (0, 0)) :: H, R, φ144⟩ (fun _ h => h) ?_
    refine d_then ?_
    refine c_seq ?_
    refine c_region ?_
    refine g_v rfl (r_mkf rfl) ?_
    refine g_v rfl r_assign ?_
    refine g_nil ?_
    refine d_then ?_
    refine c_seq ?_
    refine ga_start (n := 21) ⟨w0, M, (100050, g137, .cells #[.string s138, .string s139, .slice A141 l140.length c142] 107 (0, 0)) :: (100020, g2, .cells #[.string (⟨#[]⟩ : ByteArray), .string (⟨#[]⟩ : ByteArray), .int .u32 0, .int .u32 0, .int .u32 0, .int .u32 0, .int .u32 0] 50 (0, 0)) :: H, R, φ144⟩ [19] #[false, false, false, false, false, false, false, false, false, false, false, false, false, false, false, false, false, false, false, false, false] (fun W h => h.phi (fun W hφ => hφ)) mixed rfl rfl ?_
    refine ga_v (i := 0) #[true, false, false, false, false, false, false, false, false, false, false, false, false, false, false, false, false, false, false, false, false] rfl (by kernel_rfl) (fun _ _ _ _ h => h) rfl (r_field (n := 2) Try.underlying107 rfl Try.sizeOf105 rfl rfl) ?_
    refine ga_v (i := 1) #[true, true, false, false, false, false, false, false, false, false, false, false, false, false, false, false, false, false, false, false, false] rfl (by kernel_rfl) (fun _ _ _ _ h => h) rfl (r_load (tag := 100050) rfl rfl rfl Try.isAgg105) ?_
    replace hm := bnd hm
    obtain ⟨x181, hx181, hm⟩ := hm
    refine ga_know _ (fun W hS => cl_at (p := φ144) (sz := 1) (fun _ => rfl) (by decide) hS.now f143 hx181) ?_
    rintro ⟨ad182, hA184, f183⟩
    refine ga_v (i := 2) #[true, true, true, false, false, false, false, false, false, false, false, false, false, false, false, false, false, false, false, false, false] rfl (by kernel_rfl) (fun _ _ _ _ h => h) rfl (r_ix Try.underlying105 Try.sizeOf9 rfl hA184 rfl hx181) ?_
    refine ga_v (i := 3) #[true, true, true, true, false, false, false, false, false, false, false, false, false, false, false, false, false, false, false, false, false] rfl (by kernel_rfl) (fun _ _ _ _ h => h) rfl (r_ld rfl Try.isAgg9 (fun W hS => Cl.head (f183 W hS.now))) ?_
    refine ga_v (i := 4) #[true, true, true, true, true, false, false, false, false, false, false, false, false, false, false, false, false, false, false, false, false] rfl (by kernel_rfl) (fun _ _ _ _ h => h) rfl (r_field (n := 2) Try.underlying107 rfl Try.sizeOf105 rfl rfl) ?_
    refine ga_v (i := 5) #[true, true, true, true, true, true, false, false, false, false, false, false, false, false, false, false, false, false, false, false, false] rfl (by kernel_rfl) (fun _ _ _ _ h => h) rfl (r_load (tag := 100050) rfl rfl rfl Try.isAgg105) ?_
    replace hm := bnd hm
    obtain ⟨x185, hx185, hm⟩ := hm
    refine ga_know _ (fun W hS => cl_at (p := φ144) (sz := 1) (fun _ => rfl) (by decide) hS.now f143 hx185) ?_
    rintro ⟨ad186, hA188, f187⟩
    refine ga_v (i := 6) #[true, true, true, true, true, true, true, false, false, false, false, false, false, false, false, false, false, false, false, false, false] rfl (by kernel_rfl) (fun _ _ _ _ h => h) rfl (r_ix Try.underlying105 Try.sizeOf9 rfl hA188 rfl hx185) ?_
    refine ga_v (i := 7) #[true, true, true, true, true, true, true, true, false, false, false, false, false, false, false, false, false, false, false, false, false] rfl (by kernel_rfl) (fun _ _ _ _ h => h) rfl (r_ld rfl Try.isAgg9 (fun W hS => Cl.head (f187 W hS.now))) ?_
    refine ga_v (i := 8) #[true, true, true, true, true, true, true, true, true, false, false, false, false, false, false, false, false, false, false, false, false] rfl (by kernel_rfl) (fun _ _ _ _ h => h) rfl (r_move) ?_
    refine ga_v (i := 10) #[true, true, true, true, true, true, true, true, true, false, true, false, false, false, false, false, false, false, false, false, false] rfl (by kernel_rfl) (fun _ _ _ _ h => h) rfl (r_move) ?_
    refine ga_v (i := 12) #[true, true, true, true, true, true, true, true, true, false, true, false, true, false, false, false, false, false, false, false, false] rfl (by kernel_rfl) (fun _ _ _ _ h => h) rfl (r_move) ?_
    refine ga_v (i := 14) #[true, true, true, true, true, true, true, true, true, false, true, false, true, false, true, false, false, false, false, false, false] rfl (by kernel_rfl) (fun _ _ _ _ h => h) rfl (r_move) ?_
    refine ga_v (i := 16) #[true, true, true, true, true, true, true, true, true, false, true, false, true, false, true, false, true, false, false, false, false] rfl (by kernel_rfl) (fun _ _ _ _ h => h) rfl (r_move) ?_
    replace hm := bnd hm
    obtain ⟨x189, hx190, hm⟩ := hm
    refine ga_cn (first := #[]) (i := 9) #[true, true, true, true, true, true, true, true, true, true, true, false, true, false, true, false, true, false, false, false, false] rfl (by kernel_rfl) (by decide)  ⟨w0, M, (1000, g137, .cells #[.string s138, .string s139, .slice A141 l140.length c142] 107 (0, 0)) :: (100020, g2, .cells #[.string (⟨#[]⟩ : ByteArray), .string (⟨#[]⟩ : ByteArray), .int .u32 0, .int .u32 0, .int .u32 0, .int .u32 0, .int .u32 0] 50 (0, 0)) :: H, R, φ144⟩ (fun W h => (ok_front (t := 100050) (t' := 1000) h rfl)) Try.call77 rfl rfl rfl (c_record_Soa_c1 0 g137 (⟨s138, s139, l140⟩ : Grecord_parts) A141 c142 hc142 (fun W h => f143 W h) _ hx190) (fun _ W _ h => (ok_front (t := 1000) (t' := 100050) h rfl).phi (fun W hφ => hφ)) (fun _ _ => ?_)
    refine ga_sta _ (fun W h => (ok_front (t := 1000) (t' := 100050) h rfl)) ?_
    replace hm := bnd hm
    obtain ⟨x191, hx192, hm⟩ := hm
    refine ga_cn (first := #[]) (i := 11) #[true, true, true, true, true, true, true, true, true, true, true, true, true, false, true, false, true, false, false, false, false] rfl (by kernel_rfl) (by decide)  ⟨w0, M, (1000, g137, .cells #[.string s138, .string s139, .slice A141 l140.length c142] 107 (0, 0)) :: (100020, g2, .cells #[.string (⟨#[]⟩ : ByteArray), .string (⟨#[]⟩ : ByteArray), .int .u32 0, .int .u32 0, .int .u32 0, .int .u32 0, .int .u32 0] 50 (0, 0)) :: H, R, φ144⟩ (fun W h => (ok_front (t := 100050) (t' := 1000) h rfl)) Try.call77 rfl rfl rfl (c_record_Soa_c1 1 g137 (⟨s138, s139, l140⟩ : Grecord_parts) A141 c142 hc142 (fun W h => f143 W h) _ hx192) (fun _ W _ h => (ok_front (t := 1000) (t' := 100050) h rfl).phi (fun W hφ => hφ)) (fun _ _ => ?_)
    refine ga_sta _ (fun W h => (ok_front (t := 1000) (t' := 100050) h rfl)) ?_
    replace hm := bnd hm
    obtain ⟨x193, hx194, hm⟩ := hm
    refine ga_cn (first := #[]) (i := 13) #[true, true, true, true, true, true, true, true, true, true, true, true, true, true, true, false, true, false, false, false, false] rfl (by kernel_rfl) (by decide)  ⟨w0, M, (1000, g137, .cells #[.string s138, .string s139, .slice A141 l140.length c142] 107 (0, 0)) :: (100020, g2, .cells #[.string (⟨#[]⟩ : ByteArray), .string (⟨#[]⟩ : ByteArray), .int .u32 0, .int .u32 0, .int .u32 0, .int .u32 0, .int .u32 0] 50 (0, 0)) :: H, R, φ144⟩ (fun W h => (ok_front (t := 100050) (t' := 1000) h rfl)) Try.call77 rfl rfl rfl (c_record_Soa_c1 2 g137 (⟨s138, s139, l140⟩ : Grecord_parts) A141 c142 hc142 (fun W h => f143 W h) _ hx194) (fun _ W _ h => (ok_front (t := 1000) (t' := 100050) h rfl).phi (fun W hφ => hφ)) (fun _ _ => ?_)
    refine ga_sta _ (fun W h => (ok_front (t := 1000) (t' := 100050) h rfl)) ?_
    replace hm := bnd hm
    obtain ⟨x195, hx196, hm⟩ := hm
    refine ga_cn (first := #[]) (i := 15) #[true, true, true, true, true, true, true, true, true, true, true, true, true, true, true, true, true, false, false, false, false] rfl (by kernel_rfl) (by decide)  ⟨w0, M, (1000, g137, .cells #[.string s138, .string s139, .slice A141 l140.length c142] 107 (0, 0)) :: (100020, g2, .cells #[.string (⟨#[]⟩ : ByteArray), .string (⟨#[]⟩ : ByteArray), .int .u32 0, .int .u32 0, .int .u32 0, .int .u32 0, .int .u32 0] 50 (0, 0)) :: H, R, φ144⟩ (fun W h => (ok_front (t := 100050) (t' := 1000) h rfl)) Try.call77 rfl rfl rfl (c_record_Soa_c1 3 g137 (⟨s138, s139, l140⟩ : Grecord_parts) A141 c142 hc142 (fun W h => f143 W h) _ hx196) (fun _ W _ h => (ok_front (t := 1000) (t' := 100050) h rfl).phi (fun W hφ => hφ)) (fun _ _ => ?_)
    refine ga_sta _ (fun W h => (ok_front (t := 1000) (t' := 100050) h rfl)) ?_
    replace hm := bnd hm
    obtain ⟨x197, hx198, hm⟩ := hm
    refine ga_cn (first := #[]) (i := 17) #[true, true, true, true, true, true, true, true, true, true, true, true, true, true, true, true, true, true, false, false, false] rfl (by kernel_rfl) (by decide)  ⟨w0, M, (1000, g137, .cells #[.string s138, .string s139, .slice A141 l140.length c142] 107 (0, 0)) :: (100020, g2, .cells #[.string (⟨#[]⟩ : ByteArray), .string (⟨#[]⟩ : ByteArray), .int .u32 0, .int .u32 0, .int .u32 0, .int .u32 0, .int .u32 0] 50 (0, 0)) :: H, R, φ144⟩ (fun W h => (ok_front (t := 100050) (t' := 1000) h rfl)) Try.call77 rfl rfl rfl (c_record_Soa_c1 4 g137 (⟨s138, s139, l140⟩ : Grecord_parts) A141 c142 hc142 (fun W h => f143 W h) _ hx198) (fun _ W _ h => (ok_front (t := 1000) (t' := 100050) h rfl).phi (fun W hφ => hφ)) (fun _ _ => ?_)
    refine ga_sta _ (fun W h => (ok_front (t := 1000) (t' := 100050) h rfl)) ?_
    refine ga_r (i := 18) #[true, true, true, true, true, true, true, true, true, true, true, true, true, true, true, true, true, true, true, false, false] rfl (by kernel_rfl) (by decide) rfl (r_build _ rfl (bld50_19 _ _ _ _ _ _ _)) ?_
    refine ga_lastL (i := 19) (tag := 100020) #[true, true, true, true, true, true, true, true, true, true, true, true, true, true, true, true, true, true, true, true, false] rfl (by kernel_rfl) (by decide) rfl rfl rfl rfl Try.sizeOf50 rfl rfl ?_
    refine gz_p (i := 20) #[true, true, true, true, true, true, true, true, true, true, true, true, true, true, true, true, true, true, true, true, true] rfl (.inr rfl) (by kernel_rfl) (fun _ _ _ _ h => h) rfl ?_
    refine gz_done (by kernel_rfl) ?_
    refine d_then ?_
    refine c_flat [(2, .pointer (some ⟨g2, 0, none⟩)), (3, .int .i64 0)] ⟨rfl, rfl, trivial⟩ (fun u => ?_)
    refine c_sta ⟨w0, M, (100050, g137, .cells #[.string s138, .string s139, .slice A141 l140.length c142] 107 (0, 0)) :: (100020, g2, .cells #[.string x181, .string x185, .int .u32 x189, .int .u32 x191, .int .u32 x193, .int .u32 x195, .int .u32 x197] 50 (0, 0)) :: H, R, φ144⟩ (fun _ h => h) ?_
    refine c_ret ?_
    replace hm := Option.some.inj hm
    subst hm
    refine d_retC () Try.results29 ?_ trivial (fun W h => ok_pre (H1 := [_, _]) (R1 := []) h (fun W hφ => (q144 _ hφ))) (.inr rfl)
    refine res_agg (tag := 100020) rfl rfl Try.isAgg50 Try.sizeOf50 ?_
    refine res_tmp ?_
    refine res_nil ?_
    exact rfl

theorem eqq50 (a b : GSoa) : ∀ d W, (Op.equalIn (d + 5) 50 (.agg #[.string a.fSource, .string a.fMail, .int .u32 a.fSerial, .int .u32 a.fRefresh, .int .u32 a.fRetry, .int .u32 a.fExpire, .int .u32 a.fMinimum]) (.agg #[.string b.fSource, .string b.fMail, .int .u32 b.fSerial, .int .u32 b.fRefresh, .int .u32 b.fRetry, .int .u32 b.fExpire, .int .u32 b.fMinimum])).run Try.prog W = .ok (decide (a = b)) W := by
  intro d W
  have h := eqs_of (d := d + 4) (xs := #[.string a.fSource, .string a.fMail, .int .u32 a.fSerial, .int .u32 a.fRefresh, .int .u32 a.fRetry, .int .u32 a.fExpire, .int .u32 a.fMinimum]) (ys := #[.string b.fSource, .string b.fMail, .int .u32 b.fSerial, .int .u32 b.fRefresh, .int .u32 b.fRetry, .int .u32 b.fExpire, .int .u32 b.fMinimum]) (w := W) Try.underlying50 (by kernel_rfl) (eqs_cons (a := .string a.fSource) (b := .string b.fSource) rfl (by kernel_rfl) (by kernel_rfl) (eqs_str Try.underlying9) (eqs_cons (a := .string a.fMail) (b := .string b.fMail) rfl (by kernel_rfl) (by kernel_rfl) (eqs_str Try.underlying9) (eqs_cons (a := .int .u32 a.fSerial) (b := .int .u32 b.fSerial) rfl (by kernel_rfl) (by kernel_rfl) (eqs_int Try.underlying25) (eqs_cons (a := .int .u32 a.fRefresh) (b := .int .u32 b.fRefresh) rfl (by kernel_rfl) (by kernel_rfl) (eqs_int Try.underlying25) (eqs_cons (a := .int .u32 a.fRetry) (b := .int .u32 b.fRetry) rfl (by kernel_rfl) (by kernel_rfl) (eqs_int Try.underlying25) (eqs_cons (a := .int .u32 a.fExpire) (b := .int .u32 b.fExpire) rfl (by kernel_rfl) (by kernel_rfl) (eqs_int Try.underlying25) (eqs_cons (a := .int .u32 a.fMinimum) (b := .int .u32 b.fMinimum) rfl (by kernel_rfl) (by kernel_rfl) (eqs_int Try.underlying25) eqs_nil)))))))
  refine h.trans ?_
  congr 1
  cases a; cases b
  simp only [GSoa.mk.injEq, Bool.and_true]
  simp only [Bool.decide_and]
theorem eqg50 : Try.prog.eqGuardType Try.prog.depth 50 = false := by kernel_rfl
noncomputable def m_ref03_row_j1 (p0 : ByteArray) (l82 : List ByteArray) (i85 : Int) : Option ((List ByteArray) × Bool) :=
  some (l82, decide (i85 = w64 ((p0.size : Int) - 1)))
noncomputable def m_ref03_row_s2 (p0 : ByteArray) (l101 : List ByteArray) (i104 : Int) : Option (((List ByteArray) × Int) ⊕ (((List ByteArray) × Int) ⊕ ((List ByteArray) × Bool))) :=
  if i104 < (p0.size : Int) then
    (sat_ p0 i104).bind fun b122 =>
    if b122 ≠ 0 then
      (sat_ p0 i104).bind fun b124 =>
      if 63 < w64 b124 then
        some (.inr (.inr (([] : List ByteArray), false)))
      else
        if (p0.size : Int) < w64 ((w64 (i104 + 1)) + (w64 b124)) then
          some (.inr (.inr (([] : List ByteArray), false)))
        else
          (scutMid p0 (w64 (i104 + 1)) (w64 ((w64 (i104 + 1)) + (w64 b124)))).bind fun s127 =>
          (app 16 l101 [s127]).bind fun l129 =>
          some (.inl (l129, w64 ((w64 (i104 + 1)) + (w64 b124))))
    else
      some (.inr (.inl (l101, i104)))
  else
    some (.inr (.inl (l101, i104)))
noncomputable def m_ref03_row (p0 : ByteArray) : Option ((List ByteArray) × Bool) :=
  (loop (fun s => m_ref03_row_s2 p0 s.1 s.2) (([] : List ByteArray), 0)).bind fun e => Sum.elim (fun e => m_ref03_row_j1 p0 e.1 e.2) (fun x => some x) e
theorem c_ref03_row {w0 : World} {M : Nat → Prop} {H : List (Nat × Nat × Obj)} {R : List (Nat × Row)} {φ : World → Prop} (p0 : ByteArray) (r : (List ByteArray) × Bool) (hm : m_ref03_row p0 = some r) :
    Cn Try.prog 106 #[.string p0] ⟨w0, M, H, R, φ⟩ (fun x : Option Addr × Nat => .tuple #[.slice x.1 r.1.length x.2, .bool r.2]) (fun x => r.1.length ≤ x.2) (fun x => ⟨w0, M, H, (2000, ⟨.slice x.1 r.1.length x.2, 9, 1, r.1.length, r.1.flatMap (fun x : ByteArray => [Value.string x])⟩) :: R, φ⟩) := by
 unfold m_ref03_row at hm
 refine cn_intro (fn := Try.f106) (N := 53) Try.func106 rfl Try.ntmps106 rfl ?_
 refine c_seq ?_
 refine c_region ?_
 refine g_v rfl r_assign ?_
 refine g_v rfl r_assign ?_
 refine g_nil ?_
 refine d_then ?_
 refine c_seq ?_
 refine c_region ?_
 refine g_v rfl r_assign ?_
 refine g_nil ?_
 refine d_then ?_
 refine c_seq ?_
 refine c_region ?_
 refine g_v rfl r_assign ?_
 refine g_nil ?_
 refine d_then ?_
 refine c_seq ?_
 refine c_sta _ (fun W h => nilR h 19 9 1) ?_
 refine c_cut (ι := (List ByteArray) × Int × Option Addr × Nat) [0, 4, 5] (fun ⟨l82, i85, A83, c84⟩ => [(4, .slice A83 l82.length c84), (5, .int .i64 i85)]) (fun ⟨l82, i85, A83, c84⟩ => ⟨w0, M, H, (19, ⟨.slice A83 l82.length c84, 9, 1, l82.length, l82.flatMap (fun x : ByteArray => [Value.string x])⟩) :: R, φ⟩) (fun ⟨l82, i85, A83, c84⟩ => m_ref03_row_j1 p0 l82 i85 = some r ∧ l82.length ≤ c84) ?_ (fun ⟨l82, i85, A83, c84⟩ u ⟨hm, hc84⟩ => ?_)
 ·
  refine c_block ?_
  replace hm := bnd hm
  obtain ⟨out2, hl2, hr2⟩ := hm
  obtain ⟨n120', hl2⟩ := loop_lp hl2
  refine c_loopU (ι := Nat × (List ByteArray) × Int × Option Addr × Nat) [0, 4, 5] (fun ⟨n120, l101, i104, A102, c103⟩ => [(4, .slice A102 l101.length c103), (5, .int .i64 i104)]) (fun ⟨n120, l101, i104, A102, c103⟩ => ⟨w0, M, H, (19, ⟨.slice A102 l101.length c103, 9, 1, l101.length, l101.flatMap (fun x : ByteArray => [Value.string x])⟩) :: R, φ⟩) (fun ⟨n120, l101, i104, A102, c103⟩ => Lp (fun s => m_ref03_row_s2 p0 s.1 s.2) n120 (l101, i104) out2 ∧ l101.length ≤ c103) (fun ⟨n120, l101, i104, A102, c103⟩ => n120) (n120', ([] : List ByteArray), 0, none, 0) ⟨hl2, (Nat.le_refl 0)⟩ ⟨rfl, rfl, rfl, trivial⟩ (fun W h => h.phi (fun W hφ => hφ)) (fun ⟨n120, l101, i104, A102, c103⟩ u ⟨hlp, hc103⟩ => ?_)
  obtain ⟨o2, hm, hnx2⟩ := lp_step hlp
  clear hlp
  replace hm : m_ref03_row_s2 p0 l101 i104 = some o2 := hm
  unfold m_ref03_row_s2 at hm
  refine c_flat [(0, .string p0), (4, .slice A102 l101.length c103), (5, .int .i64 i104)] ⟨rfl, rfl, rfl, trivial⟩ (fun u => ?_)
  refine c_sta ⟨w0, M, H, (19, ⟨.slice A102 l101.length c103, 9, 1, l101.length, l101.flatMap (fun x : ByteArray => [Value.string x])⟩) :: R, φ⟩ (fun _ h => h) ?_
  refine c_seq ?_
  refine c_seq ?_
  refine c_region ?_
  refine g_v rfl r_move ?_
  refine g_v rfl r_move ?_
  refine g_v rfl (r_len Try.underlying9 rfl) ?_
  refine g_v rfl (r_lss rfl rfl) ?_
  refine g_v rfl r_move ?_
  refine g_if rfl rfl rfl rfl rfl (fun h121 => ?_) (fun h121 => ?_)
  ·
   replace hm := ite_t hm (of_decide_eq_true h121)
   refine g_v rfl r_move ?_
   refine g_do rfl rfl rfl rfl rfl h121 ?_
   refine g_v rfl r_move ?_
   refine g_do rfl rfl rfl rfl rfl h121 ?_
   replace hm := bnd hm
   obtain ⟨b122, hb122, hm⟩ := hm
   refine g_v rfl (r_sat Try.underlying9 rfl rfl hb122) ?_
   refine g_do rfl rfl rfl rfl rfl h121 ?_
   refine g_v rfl (r_neq rfl rfl) ?_
   refine g_v rfl (r_pick1 rfl h121) ?_
   refine g_nil ?_
   refine d_then ?_
   refine c_flat [(0, .string p0), (4, .slice A102 l101.length c103), (5, .int .i64 i104), (16, .bool (decide (b122 ≠ 0)))] ⟨rfl, rfl, rfl, rfl, trivial⟩ (fun u => ?_)
   refine c_sta ⟨w0, M, H, (19, ⟨.slice A102 l101.length c103, 9, 1, l101.length, l101.flatMap (fun x : ByteArray => [Value.string x])⟩) :: R, φ⟩ (fun _ h => h) ?_
   refine c_cond rfl (fun h123 => ?_) (fun h123 => ?_)
   ·
    replace hm := ite_t hm (of_decide_eq_true h123)
    refine c_skip ?_
    refine d_then ?_
    refine c_block ?_
    refine c_seq ?_
    refine c_region ?_
    refine g_v rfl r_move ?_
    refine g_v rfl r_move ?_
    replace hm := bnd hm
    obtain ⟨b124, hb124, hm⟩ := hm
    refine g_v rfl (r_sat Try.underlying9 rfl rfl hb124) ?_
    refine g_v rfl (r_conv Try.underlying5 Try.underlying3 rfl rfl) ?_
    refine g_v rfl r_assign ?_
    refine g_nil ?_
    refine d_then ?_
    refine c_seq ?_
    refine c_seq ?_
    refine c_region ?_
    refine g_v rfl r_move ?_
    refine g_v rfl (r_gtr rfl rfl) ?_
    refine g_v rfl r_move ?_
    refine g_if rfl rfl rfl rfl rfl (fun h125 => ?_) (fun h125 => ?_)
    ·
     replace hm := ite_f hm (of_decide_eq_false h125)
     refine g_v rfl r_move ?_
     refine g_do rfl rfl rfl rfl rfl h125 ?_
     refine g_v rfl (r_add rfl rfl rfl) ?_
     refine g_do rfl rfl rfl rfl rfl h125 ?_
     refine g_v rfl r_move ?_
     refine g_do rfl rfl rfl rfl rfl h125 ?_
     refine g_v rfl (r_add rfl rfl rfl) ?_
     refine g_do rfl rfl rfl rfl rfl h125 ?_
     refine g_v rfl r_move ?_
     refine g_do rfl rfl rfl rfl rfl h125 ?_
     refine g_v rfl (r_len Try.underlying9 rfl) ?_
     refine g_do rfl rfl rfl rfl rfl h125 ?_
     refine g_v rfl (r_gtr rfl rfl) ?_
     refine g_v rfl (r_pick0 rfl h125) ?_
     refine g_nil ?_
     refine d_then ?_
     refine c_flat [(0, .string p0), (4, .slice A102 l101.length c103), (5, .int .i64 i104), (6, .int .i64 (w64 b124)), (31, .bool (decide ((p0.size : Int) < w64 ((w64 (i104 + 1)) + (w64 b124)))))] ⟨rfl, rfl, rfl, rfl, rfl, trivial⟩ (fun u => ?_)
     refine c_sta ⟨w0, M, H, (19, ⟨.slice A102 l101.length c103, 9, 1, l101.length, l101.flatMap (fun x : ByteArray => [Value.string x])⟩) :: R, φ⟩ (fun _ h => h) ?_
     refine c_cond rfl (fun h126 => ?_) (fun h126 => ?_)
     ·
      replace hm := ite_t hm (of_decide_eq_true h126)
      refine c_seq ?_
      refine c_region ?_
      refine g_v rfl r_assign ?_
      refine g_v rfl r_assign ?_
      refine g_nil ?_
      refine d_then ?_
      refine c_ret ?_
      refine d_ret_then ?_
      refine d_ret_block ?_
      refine d_ret_then ?_
      refine d_ret_block ?_
      refine d_ret_then ?_
      refine d_ret_then ?_
      replace hm := nx_out (C := (fun e => Sum.elim (fun e => m_ref03_row_j1 p0 e.1 e.2) (fun x => some x) e = some r)) hm hnx2 hr2
      replace hm : some (([] : List ByteArray), false) = some r := hm
      replace hm := Option.some.inj hm
      subst hm
      refine d_sta _ (fun W h => nilR h 28 9 1) ?_
      refine d_sta _ (fun W h => ok_frontR (t := 28) (t' := 2000) h rfl) ?_
      refine d_retC (none, 0) Try.results106 ?_ (Nat.le_refl 0) (fun W h => (h.dropR (t := 19) rfl).phi (fun W hφ => hφ)) (.inr rfl)
      refine res_tmp ?_
      refine res_tmp ?_
      refine res_nil ?_
      exact rfl
     ·
      replace hm := ite_f hm (of_decide_eq_false h126)
      refine c_skip ?_
      refine d_then ?_
      refine c_seq ?_
      refine c_region ?_
      refine g_v rfl r_move ?_
      refine g_v rfl r_move ?_
      refine g_v rfl r_move ?_
      refine g_v rfl (r_add rfl rfl rfl) ?_
      refine g_v rfl r_move ?_
      refine g_v rfl (r_add rfl rfl rfl) ?_
      refine g_v rfl r_move ?_
      refine g_v rfl (r_add rfl rfl rfl) ?_
      replace hm := bnd hm
      obtain ⟨s127, hs127, hm⟩ := hm
      refine g_v rfl (r_scutMid Try.underlying9 rfl rfl rfl hs127) ?_
      refine g_e rfl (e_lit (tag := 100410) (l := [s127]) (enc := (fun x : ByteArray => [Value.string x])) (sz := 1) rfl Try.underlying105 (lit9_2 _) rfl rfl (fun _ => rfl)) (fun g128 _ => ?_)
      replace hm := bnd hm
      obtain ⟨l129, hl129, hm⟩ := hm
      refine g_e rfl (e_appR (enc := (fun x : ByteArray => [Value.string x])) (l := l101) (l1 := [s127]) (l2 := l129) (tag := 19) Try.underlying105 inf9_3 rfl (by decide) (by decide) (fun _ => rfl) (fun _ => rfl) rfl hc103 rfl rfl (fun W hS => rowCl (tag := 100410) rfl W hS) hl129) (fun ⟨A130, c131⟩ hc131 => ?_)
      refine g_v rfl r_assign ?_
      refine g_nil ?_
      refine d_then ?_
      refine c_flat [(0, .string p0), (4, .slice A130 l129.length c131), (5, .int .i64 i104), (6, .int .i64 (w64 b124))] ⟨rfl, rfl, rfl, rfl, trivial⟩ (fun u => ?_)
      refine c_sta ⟨w0, M, H, (100410, ⟨.slice (some ⟨g128, 0, none⟩) [s127].length 1, 9, 1, [s127].length, [s127].flatMap (fun x : ByteArray => [Value.string x])⟩) :: (19, ⟨.slice A130 l129.length c131, 9, 1, l129.length, l129.flatMap (fun x : ByteArray => [Value.string x])⟩) :: R, φ⟩ (fun _ h => h) ?_
      refine c_region ?_
      refine g_v rfl r_move ?_
      refine g_v rfl (r_add rfl rfl rfl) ?_
      refine g_v rfl r_move ?_
      refine g_v rfl (r_add rfl rfl rfl) ?_
      refine g_v rfl r_assign ?_
      refine g_nil ?_
      refine d_normal_block ?_
      obtain ⟨n132, hn132, hlp⟩ := nx_inl hm hnx2
      exact d_round (n132, l129, w64 ((w64 (i104 + 1)) + (w64 b124)), A130, c131) ⟨hlp, hc131⟩ hn132 ⟨rfl, rfl, rfl, trivial⟩ (fun W h => (h.dropR (t := 100410) rfl).phi (fun W hφ => hφ))
    ·
     replace hm := ite_t hm (of_decide_eq_true h125)
     refine g_no rfl rfl rfl rfl rfl h125 ?_
     refine g_no rfl rfl rfl rfl rfl h125 ?_
     refine g_no rfl rfl rfl rfl rfl h125 ?_
     refine g_no rfl rfl rfl rfl rfl h125 ?_
     refine g_no rfl rfl rfl rfl rfl h125 ?_
     refine g_no rfl rfl rfl rfl rfl h125 ?_
     refine g_v rfl (r_pick1 rfl h125) ?_
     refine g_nil ?_
     refine d_then ?_
     refine c_flat [(0, .string p0), (4, .slice A102 l101.length c103), (5, .int .i64 i104), (6, .int .i64 (w64 b124)), (31, .bool true)] ⟨rfl, rfl, rfl, rfl, rfl, trivial⟩ (fun u => ?_)
     refine c_sta ⟨w0, M, H, (19, ⟨.slice A102 l101.length c103, 9, 1, l101.length, l101.flatMap (fun x : ByteArray => [Value.string x])⟩) :: R, φ⟩ (fun _ h => h) ?_
     refine c_cond1 rfl rfl ?_
     refine c_seq ?_
     refine c_region ?_
     refine g_v rfl r_assign ?_
     refine g_v rfl r_assign ?_
     refine g_nil ?_
     refine d_then ?_
     refine c_ret ?_
     refine d_ret_then ?_
     refine d_ret_block ?_
     refine d_ret_then ?_
     refine d_ret_block ?_
     refine d_ret_then ?_
     refine d_ret_then ?_
     replace hm := nx_out (C := (fun e => Sum.elim (fun e => m_ref03_row_j1 p0 e.1 e.2) (fun x => some x) e = some r)) hm hnx2 hr2
     replace hm : some (([] : List ByteArray), false) = some r := hm
     replace hm := Option.some.inj hm
     subst hm
     refine d_sta _ (fun W h => nilR h 29 9 1) ?_
     refine d_sta _ (fun W h => ok_frontR (t := 29) (t' := 2000) h rfl) ?_
     refine d_retC (none, 0) Try.results106 ?_ (Nat.le_refl 0) (fun W h => (h.dropR (t := 19) rfl).phi (fun W hφ => hφ)) (.inr rfl)
     refine res_tmp ?_
     refine res_tmp ?_
     refine res_nil ?_
     exact rfl
   ·
    replace hm := ite_f hm (of_decide_eq_false h123)
    refine c_exit ?_
    refine d_exit_then ?_
    refine d_exit_then ?_
    refine d_exit_block ?_
    replace hm := nx_out (C := (fun e => Sum.elim (fun e => m_ref03_row_j1 p0 e.1 e.2) (fun x => some x) e = some r)) hm hnx2 hr2
    exact d_round (l101, i104, A102, c103) ⟨hm, hc103⟩ Nat.zero_lt_one ⟨rfl, rfl, rfl, trivial⟩ (fun W h => h.phi (fun W hφ => hφ))
  ·
   replace hm := ite_f hm (of_decide_eq_false h121)
   refine g_no rfl rfl rfl rfl rfl h121 ?_
   refine g_no rfl rfl rfl rfl rfl h121 ?_
   refine g_no rfl rfl rfl rfl rfl h121 ?_
   refine g_v rfl (r_pick0 rfl h121) ?_
   refine g_nil ?_
   refine d_then ?_
   refine c_cond0 rfl rfl ?_
   refine c_exit ?_
   refine d_exit_then ?_
   refine d_exit_then ?_
   refine d_exit_block ?_
   replace hm := nx_out (C := (fun e => Sum.elim (fun e => m_ref03_row_j1 p0 e.1 e.2) (fun x => some x) e = some r)) hm hnx2 hr2
   exact d_round (l101, i104, A102, c103) ⟨hm, hc103⟩ Nat.zero_lt_one ⟨rfl, rfl, rfl, trivial⟩ (fun W h => h.phi (fun W hφ => hφ))
 ·
  unfold m_ref03_row_j1 at hm
  refine d_flat [(0, .string p0), (4, .slice A83 l82.length c84), (5, .int .i64 i85)] ⟨rfl, rfl, rfl, trivial⟩ (fun u => ?_)
  refine d_sta ⟨w0, M, H, (19, ⟨.slice A83 l82.length c84, 9, 1, l82.length, l82.flatMap (fun x : ByteArray => [Value.string x])⟩) :: R, φ⟩ (fun _ h => h) ?_
  refine d_then ?_
  refine c_seq ?_
  refine c_region ?_
  refine g_v rfl r_move ?_
  refine g_v rfl r_move ?_
  refine g_v rfl r_move ?_
  refine g_v rfl (r_len Try.underlying9 rfl) ?_
  refine g_v rfl (r_sub rfl rfl rfl) ?_
  refine g_v rfl (r_eql rfl rfl) ?_
  refine g_v rfl r_assign ?_
  refine g_v rfl r_assign ?_
  refine g_nil ?_
  refine d_then ?_
  refine c_ret ?_
  replace hm := Option.some.inj hm
  subst hm
  refine d_sta _ (fun W h => ok_frontR (t := 19) (t' := 2000) h rfl) ?_
  refine d_retC (A83, c84) Try.results106 ?_ hc84 (fun W h => h.phi (fun W hφ => hφ)) (.inr rfl)
  refine res_tmp ?_
  refine res_tmp ?_
  refine res_nil ?_
  exact rfl

noncomputable def m_ref03_Check (p0 : ByteArray) : Option Int :=
  (m_ref03_row p0).bind fun (z7 : (List ByteArray) × Bool) =>
  if z7.2 = true then
    if 255 < (p0.size : Int) then
      some 11
    else
      some 0
  else
    some 10
theorem c_ref03_Check {w0 : World} {M : Nat → Prop} {H : List (Nat × Nat × Obj)} {R : List (Nat × Row)} {φ : World → Prop} (p0 : ByteArray) (r : Int) (hm : m_ref03_Check p0 = some r) :
    Cn Try.prog 81 #[.string p0] ⟨w0, M, H, R, φ⟩ (fun x : Unit => .int .i64 r) (fun x => True) (fun x => ⟨w0, M, H, R, φ⟩) := by
 unfold m_ref03_Check at hm
 refine cn_intro (fn := Try.f81) (N := 15) Try.func81 rfl Try.ntmps81 rfl ?_
 refine c_seq ?_
 refine c_region ?_
 refine g_v rfl r_assign ?_
 refine g_nil ?_
 refine d_then ?_
 refine c_seq ?_
 refine c_region ?_
 refine g_v rfl r_move ?_
 replace hm := bnd hm
 obtain ⟨⟨x1, x2⟩, hx3, hm⟩ := hm
 refine g_cn ⟨w0, M, _, _, φ⟩ (fun _ h => h) Try.call106 rfl rfl (c_ref03_row p0 _ hx3) (fun ⟨A4, c5⟩ hc5 => ?_)
 refine g_sta _ (fun W h => (ok_frontR (t := 2000) (t' := 100070) h rfl)) ?_
 refine g_v rfl r_move ?_
 refine g_v rfl (r_extract rfl rfl) ?_
 refine g_v rfl (r_extract rfl rfl) ?_
 refine g_v rfl r_assign ?_
 refine g_v rfl r_assign ?_
 refine g_nil ?_
 refine d_then ?_
 refine c_seq ?_
 refine c_seq ?_
 refine c_region ?_
 refine g_v rfl r_move ?_
 refine g_v rfl (r_not rfl) ?_
 refine g_nil ?_
 refine d_then ?_
 refine c_flat [(0, .string p0), (11, .bool (!x2))] ⟨rfl, rfl, trivial⟩ (fun u => ?_)
 refine c_sta ⟨w0, M, H, (100070, ⟨.slice A4 x1.length c5, 9, 1, x1.length, x1.flatMap (fun x : ByteArray => [Value.string x])⟩) :: R, φ⟩ (fun _ h => h) ?_
 refine c_cond rfl (fun h8 => ?_) (fun h8 => ?_)
 ·
  have h8' : x2 = false := by revert h8; cases x2 <;> simp
  replace hm := ite_f hm (bool_nt h8')
  refine c_seq ?_
  refine c_region ?_
  refine g_v rfl r_assign ?_
  refine g_nil ?_
  refine d_then ?_
  refine c_ret ?_
  refine d_ret_then ?_
  replace hm := Option.some.inj hm
  subst hm
  refine d_retC () Try.results81 ?_ trivial (fun W h => ok_pre (H1 := []) (R1 := [_]) h (fun W hφ => hφ)) (.inr rfl)
  refine res_tmp ?_
  refine res_nil ?_
  exact rfl
 ·
  have h8' : x2 = true := by revert h8; cases x2 <;> simp
  replace hm := ite_t hm h8'
  refine c_skip ?_
  refine d_then ?_
  refine c_seq ?_
  refine c_seq ?_
  refine c_region ?_
  refine g_v rfl r_move ?_
  refine g_v rfl (r_len Try.underlying9 rfl) ?_
  refine g_v rfl (r_gtr rfl rfl) ?_
  refine g_nil ?_
  refine d_then ?_
  refine c_cond rfl (fun h9 => ?_) (fun h9 => ?_)
  ·
   replace hm := ite_t hm (of_decide_eq_true h9)
   refine c_seq ?_
   refine c_region ?_
   refine g_v rfl r_assign ?_
   refine g_nil ?_
   refine d_then ?_
   refine c_ret ?_
   refine d_ret_then ?_
   replace hm := Option.some.inj hm
   subst hm
   refine d_retC () Try.results81 ?_ trivial (fun W h => ok_pre (H1 := []) (R1 := [_]) h (fun W hφ => hφ)) (.inr rfl)
   refine res_tmp ?_
   refine res_nil ?_
   exact rfl
  ·
   replace hm := ite_f hm (of_decide_eq_false h9)
   refine c_skip ?_
   refine d_then ?_
   refine c_seq ?_
   refine c_region ?_
   refine g_v rfl r_assign ?_
   refine g_nil ?_
   refine d_then ?_
   refine c_ret ?_
   replace hm := Option.some.inj hm
   subst hm
   refine d_retC () Try.results81 ?_ trivial (fun W h => ok_pre (H1 := []) (R1 := [_]) h (fun W hφ => hφ)) (.inr rfl)
   refine res_tmp ?_
   refine res_nil ?_
   exact rfl

structure Gref04_Place where
  fName : ByteArray
  fAt : Int
  deriving DecidableEq
def Gref04_Place.enc (e : Gref04_Place) : List Value := [.string e.fName, .int .i64 e.fAt]
structure Gref04_Packer where
  fB : ByteArray
  fL : List Gref04_Place
theorem bld38_20  : ∀ W, (Instr.build 38 #[]).run Try.prog W = .ok (.agg #[.string (⟨#[]⟩ : ByteArray), .slice none 0 0]) W := fun _ => by kernel_rfl
noncomputable def m_ref04_Packer_Number_j1 (o0 : Gref04_Packer) (s29 : ByteArray) : Option Gref04_Packer :=
  some (⟨s29, o0.fL⟩ : Gref04_Packer)
noncomputable def m_ref04_Packer_Number_s2 (p1 : Int) (i43 : Int) (s44 : ByteArray) : Option ((Int × ByteArray) ⊕ ByteArray) :=
  if 0 ≤ i43 then
    (shOk (IntKind.u64.wrap (w64 (8 * i43)))).bind fun u65 =>
    (sadd s44 (strOfNums [IntKind.u8.wrap (shrI .i64 p1 (IntKind.u64.wrap (w64 (8 * i43))))])).bind fun s67 =>
    some (.inl (w64 (i43 - 1), s67))
  else
    some (.inr s44)
noncomputable def m_ref04_Packer_Number (p1 : Int) (p2 : Int) (o0 : Gref04_Packer) : Option Gref04_Packer :=
  (loop (fun s => m_ref04_Packer_Number_s2 p1 s.1 s.2) (w64 (p2 - 1), o0.fB)).bind fun e => m_ref04_Packer_Number_j1 o0 e
theorem c_ref04_Packer_Number {w0 : World} {M : Nat → Prop} {H : List (Nat × Nat × Obj)} {R : List (Nat × Row)} {φ : World → Prop} (p1 : Int) (p2 : Int) (go0 : Nat) (o0 : Gref04_Packer) (Ao0_0 : Option Addr) (co0_0 : Nat) (hco0_0 : o0.fL.length ≤ co0_0) (r : Gref04_Packer) (hm : m_ref04_Packer_Number p1 p2 o0 = some r) :
    Cn Try.prog 74 #[.pointer (some ⟨go0, 0, none⟩), .int .i64 p1, .int .i64 p2] ⟨w0, M, (1000, go0, .cells #[.string o0.fB, .slice Ao0_0 o0.fL.length co0_0] 38 (0, 0)) :: H, (1000, ⟨.slice Ao0_0 o0.fL.length co0_0, 145, 2, o0.fL.length, o0.fL.flatMap Gref04_Place.enc⟩) :: R, φ⟩ (fun x : Option Addr × Nat => .tuple #[]) (fun x => r.fL.length ≤ x.2) (fun x => ⟨w0, M, (1000, go0, .cells #[.string r.fB, .slice x.1 r.fL.length x.2] 38 (0, 0)) :: H, (2000, ⟨.slice x.1 r.fL.length x.2, 145, 2, r.fL.length, r.fL.flatMap Gref04_Place.enc⟩) :: R, φ⟩) := by
 unfold m_ref04_Packer_Number at hm
 refine cn_intro (fn := Try.f74) (N := 29) Try.func74 rfl Try.ntmps74 rfl ?_
 refine c_seq ?_
 refine c_region ?_
 refine g_v rfl r_move ?_
 refine g_v rfl (r_sub rfl rfl rfl) ?_
 refine g_v rfl r_assign ?_
 refine g_nil ?_
 refine d_then ?_
 refine c_cut (ι := ByteArray) [] (fun s29 => []) (fun s29 => ⟨w0, M, (1000, go0, .cells #[.string s29, .slice Ao0_0 o0.fL.length co0_0] 38 (0, 0)) :: H, (1000, ⟨.slice Ao0_0 o0.fL.length co0_0, 145, 2, o0.fL.length, o0.fL.flatMap Gref04_Place.enc⟩) :: R, φ⟩) (fun s29 => m_ref04_Packer_Number_j1 o0 s29 = some r) ?_ (fun s29 u hm => ?_)
 ·
  refine c_block ?_
  replace hm := bnd hm
  obtain ⟨out2, hl2, hr2⟩ := hm
  obtain ⟨n57', hl2⟩ := loop_lp hl2
  refine c_loopU (ι := Nat × Int × ByteArray) [0, 1, 6] (fun ⟨n57, i43, s44⟩ => [(6, .int .i64 i43)]) (fun ⟨n57, i43, s44⟩ => ⟨w0, M, (1000, go0, .cells #[.string s44, .slice Ao0_0 o0.fL.length co0_0] 38 (0, 0)) :: H, (1000, ⟨.slice Ao0_0 o0.fL.length co0_0, 145, 2, o0.fL.length, o0.fL.flatMap Gref04_Place.enc⟩) :: R, φ⟩) (fun ⟨n57, i43, s44⟩ => Lp (fun s => m_ref04_Packer_Number_s2 p1 s.1 s.2) n57 (i43, s44) out2) (fun ⟨n57, i43, s44⟩ => n57) (n57', w64 (p2 - 1), o0.fB) hl2 ⟨rfl, rfl, rfl, trivial⟩ (fun W h => h.phi (fun W hφ => hφ)) (fun ⟨n57, i43, s44⟩ u hlp => ?_)
  obtain ⟨o2, hm, hnx2⟩ := lp_step hlp
  clear hlp
  replace hm : m_ref04_Packer_Number_s2 p1 i43 s44 = some o2 := hm
  unfold m_ref04_Packer_Number_s2 at hm
  refine c_flat [(0, .pointer (some ⟨go0, 0, none⟩)), (1, .int .i64 p1), (6, .int .i64 i43)] ⟨rfl, rfl, rfl, trivial⟩ (fun u => ?_)
  refine c_sta ⟨w0, M, (1000, go0, .cells #[.string s44, .slice Ao0_0 o0.fL.length co0_0] 38 (0, 0)) :: H, (1000, ⟨.slice Ao0_0 o0.fL.length co0_0, 145, 2, o0.fL.length, o0.fL.flatMap Gref04_Place.enc⟩) :: R, φ⟩ (fun _ h => h) ?_
  refine c_seq ?_
  refine c_seq ?_
  refine c_region ?_
  refine g_v rfl r_move ?_
  refine g_v rfl (r_geq rfl rfl) ?_
  refine g_nil ?_
  refine d_then ?_
  refine c_cond rfl (fun h58 => ?_) (fun h58 => ?_)
  ·
   replace hm := ite_t hm (of_decide_eq_true h58)
   refine c_skip ?_
   refine d_then ?_
   refine c_seq ?_
   refine c_block ?_
   refine ga_start (n := 17) ⟨w0, M, (1000, go0, .cells #[.string s44, .slice Ao0_0 o0.fL.length co0_0] 38 (0, 0)) :: H, (1000, ⟨.slice Ao0_0 o0.fL.length co0_0, 145, 2, o0.fL.length, o0.fL.flatMap Gref04_Place.enc⟩) :: R, φ⟩ [16] #[false, false, false, false, false, false, false, false, false, false, false, false, false, false, false, false, false] (fun W h => h.phi (fun W hφ => hφ)) mixed rfl rfl ?_
   refine ga_v (i := 0) #[true, false, false, false, false, false, false, false, false, false, false, false, false, false, false, false, false] rfl (by kernel_rfl) (fun _ _ _ _ h => h) rfl (r_move) ?_
   refine ga_v (i := 1) #[true, true, false, false, false, false, false, false, false, false, false, false, false, false, false, false, false] rfl (by kernel_rfl) (fun _ _ _ _ h => h) rfl (r_move) ?_
   refine ga_v (i := 2) #[true, true, true, false, false, false, false, false, false, false, false, false, false, false, false, false, false] rfl (by kernel_rfl) (fun _ _ _ _ h => h) rfl (r_nilck rfl) ?_
   refine ga_v (i := 3) #[true, true, true, true, false, false, false, false, false, false, false, false, false, false, false, false, false] rfl (by kernel_rfl) (fun _ _ _ _ h => h) rfl (r_field (n := 0) Try.underlying38 rfl Try.sizeOf9 rfl rfl) ?_
   refine ga_v (i := 4) #[true, true, true, true, true, false, false, false, false, false, false, false, false, false, false, false, false] rfl (by kernel_rfl) (fun _ _ _ _ h => h) rfl (r_load (tag := 1000) rfl rfl rfl Try.isAgg9) ?_
   refine ga_v (i := 5) #[true, true, true, true, true, true, false, false, false, false, false, false, false, false, false, false, false] rfl (by kernel_rfl) (fun _ _ _ _ h => h) rfl (r_move) ?_
   refine ga_r (i := 6) #[true, true, true, true, true, true, true, false, false, false, false, false, false, false, false, false, false] rfl (by kernel_rfl) (by decide) rfl (r_move) ?_
   refine ga_r (i := 7) #[true, true, true, true, true, true, true, true, false, false, false, false, false, false, false, false, false] rfl (by kernel_rfl) (by decide) rfl (r_mul rfl rfl rfl) ?_
   refine ga_r (i := 8) #[true, true, true, true, true, true, true, true, true, false, false, false, false, false, false, false, false] rfl (by kernel_rfl) (by decide) rfl (r_conv Try.underlying3 Try.underlying78 rfl rfl) ?_
   replace hm := bnd hm
   obtain ⟨u65, hu65, hm⟩ := hm
   refine ga_r (i := 9) #[true, true, true, true, true, true, true, true, true, true, false, false, false, false, false, false, false] rfl (by kernel_rfl) (by decide) rfl (r_shrV rfl rfl hu65) ?_
   refine ga_r (i := 10) #[true, true, true, true, true, true, true, true, true, true, true, false, false, false, false, false, false] rfl (by kernel_rfl) (by decide) rfl (r_conv Try.underlying3 Try.underlying5 rfl rfl) ?_
   refine ga_e (i := 11) #[true, true, true, true, true, true, true, true, true, true, true, true, false, false, false, false, false] rfl (by kernel_rfl) (by decide) rfl  (e_lit (tag := 100240) (l := [IntKind.u8.wrap (shrI .i64 p1 (IntKind.u64.wrap (w64 (8 * i43))))]) (enc := (fun x : Int => [Value.int .u8 x])) (sz := 1) rfl Try.underlying77 (lit5_11 _) rfl rfl (fun _ => rfl)) (fun g66 W _ h => (h.dropR (t := 100240) rfl).phi (fun W hφ => hφ)) (fun g66 _ => ?_)
   refine ga_r (i := 12) #[true, true, true, true, true, true, true, true, true, true, true, true, true, false, false, false, false] rfl (by kernel_rfl) (by decide) rfl (r_textE Try.underlying77 Try.underlying5 Try.underlying9 rfl (fun W hS => rowCl (tag := 100240) rfl W hS)) ?_
   replace hm := bnd hm
   obtain ⟨s67, hs67, hm⟩ := hm
   refine ga_r (i := 13) #[true, true, true, true, true, true, true, true, true, true, true, true, true, true, false, false, false] rfl (by kernel_rfl) (by decide) rfl (r_addT rfl rfl hs67) ?_
   refine ga_r (i := 14) #[true, true, true, true, true, true, true, true, true, true, true, true, true, true, true, false, false] rfl (by kernel_rfl) (by decide) rfl (r_nilck rfl) ?_
   refine ga_r (i := 15) #[true, true, true, true, true, true, true, true, true, true, true, true, true, true, true, true, false] rfl (by kernel_rfl) (by decide) rfl (r_field (n := 0) Try.underlying38 rfl Try.sizeOf9 rfl rfl) ?_
   refine ga_lastL (i := 16) (tag := 1000) #[true, true, true, true, true, true, true, true, true, true, true, true, true, true, true, true, true] rfl (by kernel_rfl) (by decide) rfl rfl rfl rfl Try.sizeOf9 rfl rfl ?_
   refine gz_done (by kernel_rfl) ?_
   refine d_normal_block ?_
   refine d_then ?_
   refine c_flat [(0, .pointer (some ⟨go0, 0, none⟩)), (1, .int .i64 p1), (6, .int .i64 i43)] ⟨rfl, rfl, rfl, trivial⟩ (fun u => ?_)
   refine c_sta ⟨w0, M, (1000, go0, .cells #[.string s67, .slice Ao0_0 o0.fL.length co0_0] 38 (0, 0)) :: H, (100240, ⟨.slice (some ⟨g66, 0, none⟩) [IntKind.u8.wrap (shrI .i64 p1 (IntKind.u64.wrap (w64 (8 * i43))))].length 1, 5, 1, [IntKind.u8.wrap (shrI .i64 p1 (IntKind.u64.wrap (w64 (8 * i43))))].length, [IntKind.u8.wrap (shrI .i64 p1 (IntKind.u64.wrap (w64 (8 * i43))))].flatMap (fun x : Int => [Value.int .u8 x])⟩) :: (1000, ⟨.slice Ao0_0 o0.fL.length co0_0, 145, 2, o0.fL.length, o0.fL.flatMap Gref04_Place.enc⟩) :: R, φ⟩ (fun _ h => h) ?_
   refine c_region ?_
   refine g_v rfl r_move ?_
   refine g_v rfl (r_sub rfl rfl rfl) ?_
   refine g_v rfl r_assign ?_
   refine g_nil ?_
   obtain ⟨n68, hn68, hlp⟩ := nx_inl hm hnx2
   exact d_round (n68, w64 (i43 - 1), s67) hlp hn68 ⟨rfl, rfl, rfl, trivial⟩ (fun W h => (h.dropR (t := 100240) rfl).phi (fun W hφ => hφ))
  ·
   replace hm := ite_f hm (of_decide_eq_false h58)
   refine c_exit ?_
   refine d_exit_then ?_
   refine d_exit_then ?_
   refine d_exit_block ?_
   replace hm := nx_out (C := (fun e => m_ref04_Packer_Number_j1 o0 e = some r)) hm hnx2 hr2
   exact d_round s44 hm Nat.zero_lt_one trivial (fun W h => h.phi (fun W hφ => hφ))
 ·
  unfold m_ref04_Packer_Number_j1 at hm
  refine d_flat [] trivial (fun u => ?_)
  refine d_sta ⟨w0, M, (1000, go0, .cells #[.string s29, .slice Ao0_0 o0.fL.length co0_0] 38 (0, 0)) :: H, (1000, ⟨.slice Ao0_0 o0.fL.length co0_0, 145, 2, o0.fL.length, o0.fL.flatMap Gref04_Place.enc⟩) :: R, φ⟩ (fun _ h => h) ?_
  replace hm := Option.some.inj hm
  subst hm
  refine d_sta _ (fun W h => ok_frontR (t := 1000) (t' := 2000) h rfl) ?_
  refine d_retC (Ao0_0, co0_0) Try.results74 ?_ hco0_0 (fun W h => h.phi (fun W hφ => hφ)) (.inl rfl)
  refine res_nil ?_
  exact rfl

noncomputable def m_ref05_SoaData_j1 (p0 : GSoa) (i7 : Int) : Option (ByteArray × Int) :=
  if i7 ≠ 0 then
    some ((⟨#[]⟩ : ByteArray), i7)
  else
    (m_ref04_Packer_Number (w64 p0.fSerial) 4 (⟨(⟨#[]⟩ : ByteArray), ([] : List Gref04_Place)⟩ : Gref04_Packer)).bind fun x10 =>
    (m_ref04_Packer_Number (w64 p0.fRefresh) 4 x10).bind fun x15 =>
    (m_ref04_Packer_Number (w64 p0.fRetry) 4 x15).bind fun x20 =>
    (m_ref04_Packer_Number (w64 p0.fExpire) 4 x20).bind fun x25 =>
    (m_ref04_Packer_Number (w64 p0.fMinimum) 4 x25).bind fun x30 =>
    (sadd p0.fSource p0.fMail).bind fun s39 =>
    (sadd s39 x30.fB).bind fun s40 =>
    some (s40, 0)
noncomputable def m_ref05_SoaData (p0 : GSoa) : Option (ByteArray × Int) :=
  (m_ref03_Check p0.fSource).bind fun x2 =>
  if x2 = 0 then
    (m_ref03_Check p0.fMail).bind fun x42 =>
    m_ref05_SoaData_j1 p0 x42
  else
    m_ref05_SoaData_j1 p0 x2
theorem c_ref05_SoaData {w0 : World} {M : Nat → Prop} {H : List (Nat × Nat × Obj)} {R : List (Nat × Row)} {φ : World → Prop} (p0 : GSoa) (r : ByteArray × Int) (hm : m_ref05_SoaData p0 = some r) :
    Cn Try.prog 37 #[.agg #[.string p0.fSource, .string p0.fMail, .int .u32 p0.fSerial, .int .u32 p0.fRefresh, .int .u32 p0.fRetry, .int .u32 p0.fExpire, .int .u32 p0.fMinimum]] ⟨w0, M, H, R, φ⟩ (fun x : Unit => .tuple #[.string r.1, .int .i64 r.2]) (fun x => True) (fun x => ⟨w0, M, H, R, φ⟩) := by
 unfold m_ref05_SoaData at hm
 refine cn_intro (fn := Try.f37) (N := 54) Try.func37 rfl Try.ntmps37 rfl ?_
 refine c_seq ?_
 refine c_region ?_
 refine g_e rfl (e_box 100010 rfl) (fun g1 _ => ?_)
 refine g_v rfl r_assign ?_
 refine g_v rfl r_assign ?_
 refine g_nil ?_
 refine d_then ?_
 refine c_seq ?_
 refine c_region ?_
 refine g_v rfl (r_field (n := 0) Try.underlying50 rfl Try.sizeOf9 rfl rfl) ?_
 refine g_v rfl (r_load (tag := 100010) rfl rfl rfl Try.isAgg9) ?_
 replace hm := bnd hm
 obtain ⟨x2, hx3, hm⟩ := hm
 refine g_cn ⟨w0, M, _, _, φ⟩ (fun _ h => h) Try.call81 rfl rfl (c_ref03_Check p0.fSource _ hx3) (fun _ _ => ?_)
 refine g_v rfl r_assign ?_
 refine g_nil ?_
 refine d_then ?_
 refine c_seq ?_
 refine c_cut (ι := Int) [1, 4] (fun i7 => [(4, .int .i64 i7)]) (fun i7 => ⟨w0, M, (100010, g1, .cells #[.string p0.fSource, .string p0.fMail, .int .u32 p0.fSerial, .int .u32 p0.fRefresh, .int .u32 p0.fRetry, .int .u32 p0.fExpire, .int .u32 p0.fMinimum] 50 (0, 0)) :: H, R, φ⟩) (fun i7 => m_ref05_SoaData_j1 p0 i7 = some r) ?_ (fun i7 u hm => ?_)
 ·
  refine c_seq ?_
  refine c_region ?_
  refine g_v rfl r_move ?_
  refine g_v rfl (r_eql rfl rfl) ?_
  refine g_nil ?_
  refine d_then ?_
  refine c_flat [(1, .pointer (some ⟨g1, 0, none⟩)), (4, .int .i64 x2), (10, .bool (decide (x2 = 0)))] ⟨rfl, rfl, rfl, trivial⟩ (fun u => ?_)
  refine c_sta ⟨w0, M, (100010, g1, .cells #[.string p0.fSource, .string p0.fMail, .int .u32 p0.fSerial, .int .u32 p0.fRefresh, .int .u32 p0.fRetry, .int .u32 p0.fExpire, .int .u32 p0.fMinimum] 50 (0, 0)) :: H, R, φ⟩ (fun _ h => h) ?_
  refine c_cond rfl (fun h41 => ?_) (fun h41 => ?_)
  ·
   replace hm := ite_t hm (of_decide_eq_true h41)
   refine c_region ?_
   refine g_v rfl (r_field (n := 1) Try.underlying50 rfl Try.sizeOf9 rfl rfl) ?_
   refine g_v rfl (r_load (tag := 100010) rfl rfl rfl Try.isAgg9) ?_
   replace hm := bnd hm
   obtain ⟨x42, hx43, hm⟩ := hm
   refine g_cn ⟨w0, M, _, _, φ⟩ (fun _ h => h) Try.call81 rfl rfl (c_ref03_Check p0.fMail _ hx43) (fun _ _ => ?_)
   refine g_v rfl r_assign ?_
   refine g_nil ?_
   exact d_round x42 hm Nat.zero_lt_one ⟨rfl, rfl, trivial⟩ (fun W h => h.phi (fun W hφ => hφ))
  ·
   replace hm := ite_f hm (of_decide_eq_false h41)
   refine c_skip ?_
   exact d_round x2 hm Nat.zero_lt_one ⟨rfl, rfl, trivial⟩ (fun W h => h.phi (fun W hφ => hφ))
 ·
  unfold m_ref05_SoaData_j1 at hm
  refine d_flat [(1, .pointer (some ⟨g1, 0, none⟩)), (4, .int .i64 i7)] ⟨rfl, rfl, trivial⟩ (fun u => ?_)
  refine d_sta ⟨w0, M, (100010, g1, .cells #[.string p0.fSource, .string p0.fMail, .int .u32 p0.fSerial, .int .u32 p0.fRefresh, .int .u32 p0.fRetry, .int .u32 p0.fExpire, .int .u32 p0.fMinimum] 50 (0, 0)) :: H, R, φ⟩ (fun _ h => h) ?_
  refine d_then ?_
  refine c_seq ?_
  refine c_seq ?_
  refine c_region ?_
  refine g_v rfl r_move ?_
  refine g_v rfl (r_neq rfl rfl) ?_
  refine g_nil ?_
  refine d_then ?_
  refine c_cond rfl (fun h8 => ?_) (fun h8 => ?_)
  ·
   replace hm := ite_t hm (of_decide_eq_true h8)
   refine c_seq ?_
   refine c_region ?_
   refine g_v rfl r_move ?_
   refine g_v rfl r_assign ?_
   refine g_v rfl r_assign ?_
   refine g_nil ?_
   refine d_then ?_
   refine c_ret ?_
   refine d_ret_then ?_
   replace hm := Option.some.inj hm
   subst hm
   refine d_retC () Try.results37 ?_ trivial (fun W h => ok_pre (H1 := [_]) (R1 := []) h (fun W hφ => hφ)) (.inr rfl)
   refine res_tmp ?_
   refine res_tmp ?_
   refine res_nil ?_
   exact rfl
  ·
   replace hm := ite_f hm (of_decide_eq_false h8)
   refine c_skip ?_
   refine d_then ?_
   refine c_seq ?_
   refine c_region ?_
   refine g_v rfl (r_build _ rfl (bld38_20)) ?_
   refine g_e rfl (e_box 100180 rfl) (fun g9 _ => ?_)
   refine g_v rfl r_assign ?_
   refine g_nil ?_
   refine d_then ?_
   refine c_seq ?_
   refine c_region ?_
   refine g_v rfl r_move ?_
   refine g_v rfl (r_field (n := 2) Try.underlying50 rfl Try.sizeOf25 rfl rfl) ?_
   refine g_v rfl (r_load (tag := 100010) rfl rfl rfl Try.isAgg25) ?_
   refine g_v rfl (r_conv Try.underlying25 Try.underlying3 rfl rfl) ?_
   refine g_sta _ (fun W h => nilR h 11 145 2) ?_
   replace hm := bnd hm
   obtain ⟨x10, hx11, hm⟩ := hm
   refine g_cn ⟨w0, M, (1000, g9, .cells #[.string (⟨#[]⟩ : ByteArray), .slice none 0 0] 38 (0, 0)) :: (100010, g1, .cells #[.string p0.fSource, .string p0.fMail, .int .u32 p0.fSerial, .int .u32 p0.fRefresh, .int .u32 p0.fRetry, .int .u32 p0.fExpire, .int .u32 p0.fMinimum] 50 (0, 0)) :: H, (1000, ⟨.slice none 0 0, 145, 2, 0, []⟩) :: R, φ⟩ (fun W h => (ok_front (t := 100180) (t' := 1000) (ok_frontR (t := 11) (t' := 1000) h rfl) rfl)) Try.call74 rfl rfl (c_ref04_Packer_Number (w64 p0.fSerial) 4 g9 (⟨(⟨#[]⟩ : ByteArray), ([] : List Gref04_Place)⟩ : Gref04_Packer) none 0 (Nat.le_refl 0) _ hx11) (fun ⟨A12, c13⟩ hc13 => ?_)
   refine g_sta _ (fun W h => (ok_frontR (t := 2000) (t' := 11) (ok_front (t := 1000) (t' := 100180) h rfl) rfl)) ?_
   refine g_nil ?_
   refine d_then ?_
   refine c_flat [(1, .pointer (some ⟨g1, 0, none⟩)), (5, .pointer (some ⟨g9, 0, none⟩))] ⟨rfl, rfl, trivial⟩ (fun u => ?_)
   refine c_sta ⟨w0, M, (100180, g9, .cells #[.string x10.fB, .slice A12 x10.fL.length c13] 38 (0, 0)) :: (100010, g1, .cells #[.string p0.fSource, .string p0.fMail, .int .u32 p0.fSerial, .int .u32 p0.fRefresh, .int .u32 p0.fRetry, .int .u32 p0.fExpire, .int .u32 p0.fMinimum] 50 (0, 0)) :: H, (11, ⟨.slice A12 x10.fL.length c13, 145, 2, x10.fL.length, x10.fL.flatMap Gref04_Place.enc⟩) :: R, φ⟩ (fun _ h => h) ?_
   refine c_seq ?_
   refine c_region ?_
   refine g_v rfl r_move ?_
   refine g_v rfl (r_field (n := 3) Try.underlying50 rfl Try.sizeOf25 rfl rfl) ?_
   refine g_v rfl (r_load (tag := 100010) rfl rfl rfl Try.isAgg25) ?_
   refine g_v rfl (r_conv Try.underlying25 Try.underlying3 rfl rfl) ?_
   replace hm := bnd hm
   obtain ⟨x15, hx16, hm⟩ := hm
   refine g_cn ⟨w0, M, (1000, g9, .cells #[.string x10.fB, .slice A12 x10.fL.length c13] 38 (0, 0)) :: (100010, g1, .cells #[.string p0.fSource, .string p0.fMail, .int .u32 p0.fSerial, .int .u32 p0.fRefresh, .int .u32 p0.fRetry, .int .u32 p0.fExpire, .int .u32 p0.fMinimum] 50 (0, 0)) :: H, (1000, ⟨.slice A12 x10.fL.length c13, 145, 2, x10.fL.length, x10.fL.flatMap Gref04_Place.enc⟩) :: R, φ⟩ (fun W h => (ok_front (t := 100180) (t' := 1000) (ok_frontR (t := 11) (t' := 1000) h rfl) rfl)) Try.call74 rfl rfl (c_ref04_Packer_Number (w64 p0.fRefresh) 4 g9 x10 A12 c13 hc13 _ hx16) (fun ⟨A17, c18⟩ hc18 => ?_)
   refine g_sta _ (fun W h => (ok_frontR (t := 2000) (t' := 11) (ok_front (t := 1000) (t' := 100180) h rfl) rfl)) ?_
   refine g_nil ?_
   refine d_then ?_
   refine c_seq ?_
   refine c_region ?_
   refine g_v rfl r_move ?_
   refine g_v rfl (r_field (n := 4) Try.underlying50 rfl Try.sizeOf25 rfl rfl) ?_
   refine g_v rfl (r_load (tag := 100010) rfl rfl rfl Try.isAgg25) ?_
   refine g_v rfl (r_conv Try.underlying25 Try.underlying3 rfl rfl) ?_
   replace hm := bnd hm
   obtain ⟨x20, hx21, hm⟩ := hm
   refine g_cn ⟨w0, M, (1000, g9, .cells #[.string x15.fB, .slice A17 x15.fL.length c18] 38 (0, 0)) :: (100010, g1, .cells #[.string p0.fSource, .string p0.fMail, .int .u32 p0.fSerial, .int .u32 p0.fRefresh, .int .u32 p0.fRetry, .int .u32 p0.fExpire, .int .u32 p0.fMinimum] 50 (0, 0)) :: H, (1000, ⟨.slice A17 x15.fL.length c18, 145, 2, x15.fL.length, x15.fL.flatMap Gref04_Place.enc⟩) :: R, φ⟩ (fun W h => (ok_front (t := 100180) (t' := 1000) (ok_frontR (t := 11) (t' := 1000) h rfl) rfl)) Try.call74 rfl rfl (c_ref04_Packer_Number (w64 p0.fRetry) 4 g9 x15 A17 c18 hc18 _ hx21) (fun ⟨A22, c23⟩ hc23 => ?_)
   refine g_sta _ (fun W h => (ok_frontR (t := 2000) (t' := 11) (ok_front (t := 1000) (t' := 100180) h rfl) rfl)) ?_
   refine g_nil ?_
   refine d_then ?_
   refine c_flat [(1, .pointer (some ⟨g1, 0, none⟩)), (5, .pointer (some ⟨g9, 0, none⟩))] ⟨rfl, rfl, trivial⟩ (fun u => ?_)
   refine c_sta ⟨w0, M, (100180, g9, .cells #[.string x20.fB, .slice A22 x20.fL.length c23] 38 (0, 0)) :: (100010, g1, .cells #[.string p0.fSource, .string p0.fMail, .int .u32 p0.fSerial, .int .u32 p0.fRefresh, .int .u32 p0.fRetry, .int .u32 p0.fExpire, .int .u32 p0.fMinimum] 50 (0, 0)) :: H, (11, ⟨.slice A22 x20.fL.length c23, 145, 2, x20.fL.length, x20.fL.flatMap Gref04_Place.enc⟩) :: R, φ⟩ (fun _ h => h) ?_
   refine c_seq ?_
   refine c_region ?_
   refine g_v rfl r_move ?_
   refine g_v rfl (r_field (n := 5) Try.underlying50 rfl Try.sizeOf25 rfl rfl) ?_
   refine g_v rfl (r_load (tag := 100010) rfl rfl rfl Try.isAgg25) ?_
   refine g_v rfl (r_conv Try.underlying25 Try.underlying3 rfl rfl) ?_
   replace hm := bnd hm
   obtain ⟨x25, hx26, hm⟩ := hm
   refine g_cn ⟨w0, M, (1000, g9, .cells #[.string x20.fB, .slice A22 x20.fL.length c23] 38 (0, 0)) :: (100010, g1, .cells #[.string p0.fSource, .string p0.fMail, .int .u32 p0.fSerial, .int .u32 p0.fRefresh, .int .u32 p0.fRetry, .int .u32 p0.fExpire, .int .u32 p0.fMinimum] 50 (0, 0)) :: H, (1000, ⟨.slice A22 x20.fL.length c23, 145, 2, x20.fL.length, x20.fL.flatMap Gref04_Place.enc⟩) :: R, φ⟩ (fun W h => (ok_front (t := 100180) (t' := 1000) (ok_frontR (t := 11) (t' := 1000) h rfl) rfl)) Try.call74 rfl rfl (c_ref04_Packer_Number (w64 p0.fExpire) 4 g9 x20 A22 c23 hc23 _ hx26) (fun ⟨A27, c28⟩ hc28 => ?_)
   refine g_sta _ (fun W h => (ok_frontR (t := 2000) (t' := 11) (ok_front (t := 1000) (t' := 100180) h rfl) rfl)) ?_
   refine g_nil ?_
   refine d_then ?_
   refine c_seq ?_
   refine c_region ?_
   refine g_v rfl r_move ?_
   refine g_v rfl (r_field (n := 6) Try.underlying50 rfl Try.sizeOf25 rfl rfl) ?_
   refine g_v rfl (r_load (tag := 100010) rfl rfl rfl Try.isAgg25) ?_
   refine g_v rfl (r_conv Try.underlying25 Try.underlying3 rfl rfl) ?_
   replace hm := bnd hm
   obtain ⟨x30, hx31, hm⟩ := hm
   refine g_cn ⟨w0, M, (1000, g9, .cells #[.string x25.fB, .slice A27 x25.fL.length c28] 38 (0, 0)) :: (100010, g1, .cells #[.string p0.fSource, .string p0.fMail, .int .u32 p0.fSerial, .int .u32 p0.fRefresh, .int .u32 p0.fRetry, .int .u32 p0.fExpire, .int .u32 p0.fMinimum] 50 (0, 0)) :: H, (1000, ⟨.slice A27 x25.fL.length c28, 145, 2, x25.fL.length, x25.fL.flatMap Gref04_Place.enc⟩) :: R, φ⟩ (fun W h => (ok_front (t := 100180) (t' := 1000) (ok_frontR (t := 11) (t' := 1000) h rfl) rfl)) Try.call74 rfl rfl (c_ref04_Packer_Number (w64 p0.fMinimum) 4 g9 x25 A27 c28 hc28 _ hx31) (fun ⟨A32, c33⟩ hc33 => ?_)
   refine g_sta _ (fun W h => (ok_frontR (t := 2000) (t' := 11) (ok_front (t := 1000) (t' := 100180) h rfl) rfl)) ?_
   refine g_nil ?_
   refine d_then ?_
   refine c_flat [(1, .pointer (some ⟨g1, 0, none⟩)), (5, .pointer (some ⟨g9, 0, none⟩))] ⟨rfl, rfl, trivial⟩ (fun u => ?_)
   refine c_sta ⟨w0, M, (100180, g9, .cells #[.string x30.fB, .slice A32 x30.fL.length c33] 38 (0, 0)) :: (100010, g1, .cells #[.string p0.fSource, .string p0.fMail, .int .u32 p0.fSerial, .int .u32 p0.fRefresh, .int .u32 p0.fRetry, .int .u32 p0.fExpire, .int .u32 p0.fMinimum] 50 (0, 0)) :: H, (11, ⟨.slice A32 x30.fL.length c33, 145, 2, x30.fL.length, x30.fL.flatMap Gref04_Place.enc⟩) :: R, φ⟩ (fun _ h => h) ?_
   refine c_seq ?_
   refine ga_start (n := 12) ⟨w0, M, (100180, g9, .cells #[.string x30.fB, .slice A32 x30.fL.length c33] 38 (0, 0)) :: (100010, g1, .cells #[.string p0.fSource, .string p0.fMail, .int .u32 p0.fSerial, .int .u32 p0.fRefresh, .int .u32 p0.fRetry, .int .u32 p0.fExpire, .int .u32 p0.fMinimum] 50 (0, 0)) :: H, (11, ⟨.slice A32 x30.fL.length c33, 145, 2, x30.fL.length, x30.fL.flatMap Gref04_Place.enc⟩) :: R, φ⟩ [] #[false, false, false, false, false, false, false, false, false, false, false, false] (fun W h => h.phi (fun W hφ => hφ)) mixed rfl rfl ?_
   refine ga_v (i := 0) #[true, false, false, false, false, false, false, false, false, false, false, false] rfl (by kernel_rfl) (fun _ _ _ _ h => h) rfl (r_field (n := 0) Try.underlying50 rfl Try.sizeOf9 rfl rfl) ?_
   refine ga_v (i := 1) #[true, true, false, false, false, false, false, false, false, false, false, false] rfl (by kernel_rfl) (fun _ _ _ _ h => h) rfl (r_load (tag := 100010) rfl rfl rfl Try.isAgg9) ?_
   refine ga_v (i := 2) #[true, true, true, false, false, false, false, false, false, false, false, false] rfl (by kernel_rfl) (fun _ _ _ _ h => h) rfl (r_field (n := 1) Try.underlying50 rfl Try.sizeOf9 rfl rfl) ?_
   refine ga_v (i := 3) #[true, true, true, true, false, false, false, false, false, false, false, false] rfl (by kernel_rfl) (fun _ _ _ _ h => h) rfl (r_load (tag := 100010) rfl rfl rfl Try.isAgg9) ?_
   replace hm := bnd hm
   obtain ⟨s39, hs39, hm⟩ := hm
   refine ga_v (i := 4) #[true, true, true, true, true, false, false, false, false, false, false, false] rfl (by kernel_rfl) (fun _ _ _ _ h => h) rfl (r_addT rfl rfl hs39) ?_
   refine ga_r (i := 5) #[true, true, true, true, true, true, false, false, false, false, false, false] rfl (by kernel_rfl) (by decide) rfl (r_move) ?_
   refine ga_r (i := 6) #[true, true, true, true, true, true, true, false, false, false, false, false] rfl (by kernel_rfl) (by decide) rfl (r_nilck rfl) ?_
   refine ga_r (i := 7) #[true, true, true, true, true, true, true, true, false, false, false, false] rfl (by kernel_rfl) (by decide) rfl (r_field (n := 0) Try.underlying38 rfl Try.sizeOf9 rfl rfl) ?_
   refine ga_r (i := 8) #[true, true, true, true, true, true, true, true, true, false, false, false] rfl (by kernel_rfl) (by decide) rfl (r_load (tag := 100180) rfl rfl rfl Try.isAgg9) ?_
   replace hm := bnd hm
   obtain ⟨s40, hs40, hm⟩ := hm
   refine ga_r (i := 9) #[true, true, true, true, true, true, true, true, true, true, false, false] rfl (by kernel_rfl) (by decide) rfl (r_addT rfl rfl hs40) ?_
   refine ga_r (i := 10) #[true, true, true, true, true, true, true, true, true, true, true, false] rfl (by kernel_rfl) (by decide) rfl (r_assign) ?_
   refine ga_r (i := 11) #[true, true, true, true, true, true, true, true, true, true, true, true] rfl (by kernel_rfl) (by decide) rfl (r_assign) ?_
   refine ga_done (by kernel_rfl) ?_
   refine d_then ?_
   refine c_flat [(2, .string s40), (3, .int .i64 0)] ⟨rfl, rfl, trivial⟩ (fun u => ?_)
   refine c_sta ⟨w0, M, (100180, g9, .cells #[.string x30.fB, .slice A32 x30.fL.length c33] 38 (0, 0)) :: (100010, g1, .cells #[.string p0.fSource, .string p0.fMail, .int .u32 p0.fSerial, .int .u32 p0.fRefresh, .int .u32 p0.fRetry, .int .u32 p0.fExpire, .int .u32 p0.fMinimum] 50 (0, 0)) :: H, (11, ⟨.slice A32 x30.fL.length c33, 145, 2, x30.fL.length, x30.fL.flatMap Gref04_Place.enc⟩) :: R, φ⟩ (fun _ h => h) ?_
   refine c_ret ?_
   replace hm := Option.some.inj hm
   subst hm
   refine d_retC () Try.results37 ?_ trivial (fun W h => ok_pre (H1 := [_, _]) (R1 := [_]) h (fun W hφ => hφ)) (.inr rfl)
   refine res_tmp ?_
   refine res_tmp ?_
   refine res_nil ?_
   exact rfl

noncomputable def m_law05_RecordSoas_j1 (x5 : ByteArray) (x7 : ByteArray) (p0 : GSoa) (x3 : Bool) (x13 : ByteArray) (x14 : Int) (x18 : Int) (x17 : ByteArray) (x9 : ByteArray) (x11 : ByteArray) (p1 : GSoa) : Option Bool :=
  (m_ref05_SoaData (⟨x5, x7, p0.fSerial, p0.fRefresh, p0.fRetry, p0.fExpire, p0.fMinimum⟩ : GSoa)).bind fun (z32 : ByteArray × Int) =>
  if x3 = true then
    if x13 = z32.1 then
      if x14 = z32.2 then
        if x14 ≠ 0 then
          some true
        else
          if x18 ≠ 0 then
            some true
          else
            some ((decide (x13 = x17)) == (decide ((⟨x5, x7, p0.fSerial, p0.fRefresh, p0.fRetry, p0.fExpire, p0.fMinimum⟩ : GSoa) = (⟨x9, x11, p1.fSerial, p1.fRefresh, p1.fRetry, p1.fExpire, p1.fMinimum⟩ : GSoa))))
      else
        some false
    else
      some false
  else
    some false
noncomputable def m_law05_RecordSoas (p0 : GSoa) (p1 : GSoa) : Option Bool :=
  (m_law05_awake).bind fun x3 =>
  (m_law05_short p0.fSource 300).bind fun x5 =>
  (m_law05_short p0.fMail 300).bind fun x7 =>
  (m_law05_short p1.fSource 300).bind fun x9 =>
  (m_law05_short p1.fMail 300).bind fun x11 =>
  (m_record_SoaData (⟨x5, x7, p0.fSerial, p0.fRefresh, p0.fRetry, p0.fExpire, p0.fMinimum⟩ : GSoa)).bind fun (z16 : ByteArray × Int) =>
  (m_record_SoaData (⟨x9, x11, p1.fSerial, p1.fRefresh, p1.fRetry, p1.fExpire, p1.fMinimum⟩ : GSoa)).bind fun (z20 : ByteArray × Int) =>
  if z16.2 = 0 then
    (m_record_Soa (⟨(⟨#[0]⟩ : ByteArray), 6, 0, 0, z16.1⟩ : GRR)).bind fun (z42 : GSoa × Int) =>
    if z42.2 ≠ 0 then
      some false
    else
      if z42.1 = (⟨x5, x7, p0.fSerial, p0.fRefresh, p0.fRetry, p0.fExpire, p0.fMinimum⟩ : GSoa) then
        m_law05_RecordSoas_j1 x5 x7 p0 x3 z16.1 z16.2 z20.2 z20.1 x9 x11 p1
      else
        some false
  else
    m_law05_RecordSoas_j1 x5 x7 p0 x3 z16.1 z16.2 z20.2 z20.1 x9 x11 p1
theorem c_law05_RecordSoas {w0 : World} {M : Nat → Prop} {H : List (Nat × Nat × Obj)} {R : List (Nat × Row)} {φ : World → Prop} (p0 : GSoa) (p1 : GSoa) (r : Bool) (hm : m_law05_RecordSoas p0 p1 = some r) :
    Cn Try.prog 9 #[.agg #[.string p0.fSource, .string p0.fMail, .int .u32 p0.fSerial, .int .u32 p0.fRefresh, .int .u32 p0.fRetry, .int .u32 p0.fExpire, .int .u32 p0.fMinimum], .agg #[.string p1.fSource, .string p1.fMail, .int .u32 p1.fSerial, .int .u32 p1.fRefresh, .int .u32 p1.fRetry, .int .u32 p1.fExpire, .int .u32 p1.fMinimum]] ⟨w0, M, H, R, φ⟩ (fun x : Unit => .bool r) (fun x => True) (fun x => ⟨w0, M, H, R, φ⟩) := by
 unfold m_law05_RecordSoas at hm
 refine cn_intro (fn := Try.f9) (N := 89) Try.func9 rfl Try.ntmps9 rfl ?_
 refine c_seq ?_
 refine c_region ?_
 refine g_e rfl (e_box 100020 rfl) (fun g1 _ => ?_)
 refine g_e rfl (e_box 100030 rfl) (fun g2 _ => ?_)
 refine g_v rfl r_assign ?_
 refine g_nil ?_
 refine d_then ?_
 refine c_seq ?_
 refine c_region ?_
 replace hm := bnd hm
 obtain ⟨x3, hx4, hm⟩ := hm
 refine g_cn ⟨w0, M, _, _, φ⟩ (fun _ h => h) Try.call16 rfl rfl (c_law05_awake  _ hx4) (fun _ _ => ?_)
 refine g_v rfl r_assign ?_
 refine g_nil ?_
 refine d_then ?_
 refine c_seq ?_
 refine c_region ?_
 refine g_v rfl (r_field (n := 0) Try.underlying50 rfl Try.sizeOf9 rfl rfl) ?_
 refine g_v rfl (r_load (tag := 100020) rfl rfl rfl Try.isAgg9) ?_
 replace hm := bnd hm
 obtain ⟨x5, hx6, hm⟩ := hm
 refine g_cn ⟨w0, M, _, _, φ⟩ (fun _ h => h) Try.call17 rfl rfl (c_law05_short p0.fSource 300 _ hx6) (fun _ _ => ?_)
 refine g_v rfl (r_field (n := 0) Try.underlying50 rfl Try.sizeOf9 rfl rfl) ?_
 refine g_storeL (tag := 100020) rfl rfl rfl rfl Try.sizeOf9 rfl rfl ?_
 refine g_nil ?_
 refine d_then ?_
 refine c_flat [(2, .pointer (some ⟨g1, 0, none⟩)), (3, .pointer (some ⟨g2, 0, none⟩)), (5, .bool x3)] ⟨rfl, rfl, rfl, trivial⟩ (fun u => ?_)
 refine c_sta ⟨w0, M, (100030, g2, .cells #[.string p1.fSource, .string p1.fMail, .int .u32 p1.fSerial, .int .u32 p1.fRefresh, .int .u32 p1.fRetry, .int .u32 p1.fExpire, .int .u32 p1.fMinimum] 50 (0, 0)) :: (100020, g1, .cells #[.string x5, .string p0.fMail, .int .u32 p0.fSerial, .int .u32 p0.fRefresh, .int .u32 p0.fRetry, .int .u32 p0.fExpire, .int .u32 p0.fMinimum] 50 (0, 0)) :: H, R, φ⟩ (fun _ h => h) ?_
 refine c_seq ?_
 refine c_region ?_
 refine g_v rfl (r_field (n := 1) Try.underlying50 rfl Try.sizeOf9 rfl rfl) ?_
 refine g_v rfl (r_load (tag := 100020) rfl rfl rfl Try.isAgg9) ?_
 replace hm := bnd hm
 obtain ⟨x7, hx8, hm⟩ := hm
 refine g_cn ⟨w0, M, _, _, φ⟩ (fun _ h => h) Try.call17 rfl rfl (c_law05_short p0.fMail 300 _ hx8) (fun _ _ => ?_)
 refine g_v rfl (r_field (n := 1) Try.underlying50 rfl Try.sizeOf9 rfl rfl) ?_
 refine g_storeL (tag := 100020) rfl rfl rfl rfl Try.sizeOf9 rfl rfl ?_
 refine g_nil ?_
 refine d_then ?_
 refine c_seq ?_
 refine c_region ?_
 refine g_v rfl (r_field (n := 0) Try.underlying50 rfl Try.sizeOf9 rfl rfl) ?_
 refine g_v rfl (r_load (tag := 100030) rfl rfl rfl Try.isAgg9) ?_
 replace hm := bnd hm
 obtain ⟨x9, hx10, hm⟩ := hm
 refine g_cn ⟨w0, M, _, _, φ⟩ (fun _ h => h) Try.call17 rfl rfl (c_law05_short p1.fSource 300 _ hx10) (fun _ _ => ?_)
 refine g_v rfl (r_field (n := 0) Try.underlying50 rfl Try.sizeOf9 rfl rfl) ?_
 refine g_storeL (tag := 100030) rfl rfl rfl rfl Try.sizeOf9 rfl rfl ?_
 refine g_nil ?_
 refine d_then ?_
 refine c_flat [(2, .pointer (some ⟨g1, 0, none⟩)), (3, .pointer (some ⟨g2, 0, none⟩)), (5, .bool x3)] ⟨rfl, rfl, rfl, trivial⟩ (fun u => ?_)
 refine c_sta ⟨w0, M, (100030, g2, .cells #[.string x9, .string p1.fMail, .int .u32 p1.fSerial, .int .u32 p1.fRefresh, .int .u32 p1.fRetry, .int .u32 p1.fExpire, .int .u32 p1.fMinimum] 50 (0, 0)) :: (100020, g1, .cells #[.string x5, .string x7, .int .u32 p0.fSerial, .int .u32 p0.fRefresh, .int .u32 p0.fRetry, .int .u32 p0.fExpire, .int .u32 p0.fMinimum] 50 (0, 0)) :: H, R, φ⟩ (fun _ h => h) ?_
 refine c_seq ?_
 refine c_region ?_
 refine g_v rfl (r_field (n := 1) Try.underlying50 rfl Try.sizeOf9 rfl rfl) ?_
 refine g_v rfl (r_load (tag := 100030) rfl rfl rfl Try.isAgg9) ?_
 replace hm := bnd hm
 obtain ⟨x11, hx12, hm⟩ := hm
 refine g_cn ⟨w0, M, _, _, φ⟩ (fun _ h => h) Try.call17 rfl rfl (c_law05_short p1.fMail 300 _ hx12) (fun _ _ => ?_)
 refine g_v rfl (r_field (n := 1) Try.underlying50 rfl Try.sizeOf9 rfl rfl) ?_
 refine g_storeL (tag := 100030) rfl rfl rfl rfl Try.sizeOf9 rfl rfl ?_
 refine g_nil ?_
 refine d_then ?_
 refine c_seq ?_
 refine c_region ?_
 refine g_v rfl (r_loadA (tag := 100020) rfl rfl Try.isAgg50 Try.sizeOf50 rfl rfl) ?_
 replace hm := bnd hm
 obtain ⟨⟨x13, x14⟩, hx15, hm⟩ := hm
 refine g_cn ⟨w0, M, _, _, φ⟩ (fun _ h => h) Try.call36 rfl rfl (c_record_SoaData (⟨x5, x7, p0.fSerial, p0.fRefresh, p0.fRetry, p0.fExpire, p0.fMinimum⟩ : GSoa) _ hx15) (fun _ _ => ?_)
 refine g_v rfl r_move ?_
 refine g_v rfl (r_extract rfl rfl) ?_
 refine g_v rfl (r_extract rfl rfl) ?_
 refine g_v rfl r_assign ?_
 refine g_v rfl r_assign ?_
 refine g_nil ?_
 refine d_then ?_
 refine c_flat [(2, .pointer (some ⟨g1, 0, none⟩)), (3, .pointer (some ⟨g2, 0, none⟩)), (5, .bool x3), (6, .string x13), (7, .int .i64 x14)] ⟨rfl, rfl, rfl, rfl, rfl, trivial⟩ (fun u => ?_)
 refine c_sta ⟨w0, M, (100030, g2, .cells #[.string x9, .string x11, .int .u32 p1.fSerial, .int .u32 p1.fRefresh, .int .u32 p1.fRetry, .int .u32 p1.fExpire, .int .u32 p1.fMinimum] 50 (0, 0)) :: (100020, g1, .cells #[.string x5, .string x7, .int .u32 p0.fSerial, .int .u32 p0.fRefresh, .int .u32 p0.fRetry, .int .u32 p0.fExpire, .int .u32 p0.fMinimum] 50 (0, 0)) :: H, R, φ⟩ (fun _ h => h) ?_
 refine c_seq ?_
 refine c_region ?_
 refine g_v rfl (r_loadA (tag := 100030) rfl rfl Try.isAgg50 Try.sizeOf50 rfl rfl) ?_
 replace hm := bnd hm
 obtain ⟨⟨x17, x18⟩, hx19, hm⟩ := hm
 refine g_cn ⟨w0, M, _, _, φ⟩ (fun _ h => h) Try.call36 rfl rfl (c_record_SoaData (⟨x9, x11, p1.fSerial, p1.fRefresh, p1.fRetry, p1.fExpire, p1.fMinimum⟩ : GSoa) _ hx19) (fun _ _ => ?_)
 refine g_v rfl r_move ?_
 refine g_v rfl (r_extract rfl rfl) ?_
 refine g_v rfl (r_extract rfl rfl) ?_
 refine g_v rfl r_assign ?_
 refine g_v rfl r_assign ?_
 refine g_nil ?_
 refine d_then ?_
 refine c_seq ?_
 refine c_cut (ι := Unit) [2, 3, 5, 6, 7, 8, 9] (fun _ => []) (fun _ => ⟨w0, M, (100030, g2, .cells #[.string x9, .string x11, .int .u32 p1.fSerial, .int .u32 p1.fRefresh, .int .u32 p1.fRetry, .int .u32 p1.fExpire, .int .u32 p1.fMinimum] 50 (0, 0)) :: (100020, g1, .cells #[.string x5, .string x7, .int .u32 p0.fSerial, .int .u32 p0.fRefresh, .int .u32 p0.fRetry, .int .u32 p0.fExpire, .int .u32 p0.fMinimum] 50 (0, 0)) :: H, R, φ⟩) (fun _ => m_law05_RecordSoas_j1 x5 x7 p0 x3 x13 x14 x18 x17 x9 x11 p1 = some r) ?_ (fun _ u hm => ?_)
 ·
  refine c_seq ?_
  refine c_region ?_
  refine g_v rfl r_move ?_
  refine g_v rfl (r_eql rfl rfl) ?_
  refine g_nil ?_
  refine d_then ?_
  refine c_flat [(2, .pointer (some ⟨g1, 0, none⟩)), (3, .pointer (some ⟨g2, 0, none⟩)), (5, .bool x3), (6, .string x13), (7, .int .i64 x14), (8, .string x17), (9, .int .i64 x18), (42, .bool (decide (x14 = 0)))] ⟨rfl, rfl, rfl, rfl, rfl, rfl, rfl, rfl, trivial⟩ (fun u => ?_)
  refine c_sta ⟨w0, M, (100030, g2, .cells #[.string x9, .string x11, .int .u32 p1.fSerial, .int .u32 p1.fRefresh, .int .u32 p1.fRetry, .int .u32 p1.fExpire, .int .u32 p1.fMinimum] 50 (0, 0)) :: (100020, g1, .cells #[.string x5, .string x7, .int .u32 p0.fSerial, .int .u32 p0.fRefresh, .int .u32 p0.fRetry, .int .u32 p0.fExpire, .int .u32 p0.fMinimum] 50 (0, 0)) :: H, R, φ⟩ (fun _ h => h) ?_
  refine c_cond rfl (fun h38 => ?_) (fun h38 => ?_)
  ·
   replace hm := ite_t hm (of_decide_eq_true h38)
   refine c_seq ?_
   refine c_region ?_
   refine g_v rfl r_move ?_
   refine g_v rfl (r_build _ rfl (bld27_14 _ _ _)) ?_
   replace hm := bnd hm
   obtain ⟨⟨x39, x40⟩, hx41, hm⟩ := hm
   refine g_cn ⟨w0, M, _, _, φ⟩ (fun _ h => h) Try.call29 rfl rfl (c_record_Soa (⟨(⟨#[0]⟩ : ByteArray), 6, 0, 0, x13⟩ : GRR) _ hx41) (fun _ _ => ?_)
   refine g_v rfl r_move ?_
   refine g_v rfl (r_extract rfl rfl) ?_
   refine g_v rfl (r_extract rfl rfl) ?_
   refine g_e rfl (e_alloc 100100 Try.zeroValue50) (fun g43 _ => ?_)
   refine g_storeL (tag := 100100) rfl rfl rfl rfl Try.sizeOf50 rfl rfl ?_
   refine g_v rfl r_assign ?_
   refine g_nil ?_
   refine d_then ?_
   refine c_flat [(2, .pointer (some ⟨g1, 0, none⟩)), (3, .pointer (some ⟨g2, 0, none⟩)), (5, .bool x3), (6, .string x13), (7, .int .i64 x14), (8, .string x17), (9, .int .i64 x18), (10, .pointer (some ⟨g43, 0, none⟩)), (11, .int .i64 x40)] ⟨rfl, rfl, rfl, rfl, rfl, rfl, rfl, rfl, rfl, trivial⟩ (fun u => ?_)
   refine c_sta ⟨w0, M, (100100, g43, .cells #[.string x39.fSource, .string x39.fMail, .int .u32 x39.fSerial, .int .u32 x39.fRefresh, .int .u32 x39.fRetry, .int .u32 x39.fExpire, .int .u32 x39.fMinimum] 50 (0, 0)) :: (100030, g2, .cells #[.string x9, .string x11, .int .u32 p1.fSerial, .int .u32 p1.fRefresh, .int .u32 p1.fRetry, .int .u32 p1.fExpire, .int .u32 p1.fMinimum] 50 (0, 0)) :: (100020, g1, .cells #[.string x5, .string x7, .int .u32 p0.fSerial, .int .u32 p0.fRefresh, .int .u32 p0.fRetry, .int .u32 p0.fExpire, .int .u32 p0.fMinimum] 50 (0, 0)) :: H, R, φ⟩ (fun _ h => h) ?_
   refine c_seq ?_
   refine c_region ?_
   refine g_v rfl r_move ?_
   refine g_v rfl (r_neq rfl rfl) ?_
   refine g_v rfl r_move ?_
   refine g_if rfl rfl rfl rfl rfl (fun h44 => ?_) (fun h44 => ?_)
   ·
    replace hm := ite_f hm (of_decide_eq_false h44)
    refine g_v rfl (r_loadA (tag := 100100) rfl rfl Try.isAgg50 Try.sizeOf50 rfl rfl) ?_
    refine g_do rfl rfl rfl rfl rfl h44 ?_
    refine g_v rfl (r_loadA (tag := 100020) rfl rfl Try.isAgg50 Try.sizeOf50 rfl rfl) ?_
    refine g_do rfl rfl rfl rfl rfl h44 ?_
    refine g_v rfl (r_neqA rfl rfl eqg50 (eqq50 x39 (⟨x5, x7, p0.fSerial, p0.fRefresh, p0.fRetry, p0.fExpire, p0.fMinimum⟩ : GSoa))) ?_
    refine g_v rfl (r_pick0 rfl h44) ?_
    refine g_nil ?_
    refine d_then ?_
    refine c_cond rfl (fun h45 => ?_) (fun h45 => ?_)
    ·
     have h45' : (decide (x39 = (⟨x5, x7, p0.fSerial, p0.fRefresh, p0.fRetry, p0.fExpire, p0.fMinimum⟩ : GSoa))) = false := by revert h45; cases (decide (x39 = (⟨x5, x7, p0.fSerial, p0.fRefresh, p0.fRetry, p0.fExpire, p0.fMinimum⟩ : GSoa))) <;> simp
     replace hm := ite_f hm (of_decide_eq_false h45')
     refine c_seq ?_
     refine c_region ?_
     refine g_v rfl r_assign ?_
     refine g_nil ?_
     refine d_then ?_
     refine c_ret ?_
     refine d_ret_then ?_
     refine d_ret_then ?_
     replace hm := Option.some.inj hm
     subst hm
     refine d_retC () Try.results9 ?_ trivial (fun W h => ok_pre (H1 := [_, _, _]) (R1 := []) h (fun W hφ => hφ)) (.inr rfl)
     refine res_tmp ?_
     refine res_nil ?_
     exact rfl
    ·
     have h45' : (decide (x39 = (⟨x5, x7, p0.fSerial, p0.fRefresh, p0.fRetry, p0.fExpire, p0.fMinimum⟩ : GSoa))) = true := by revert h45; cases (decide (x39 = (⟨x5, x7, p0.fSerial, p0.fRefresh, p0.fRetry, p0.fExpire, p0.fMinimum⟩ : GSoa))) <;> simp
     replace hm := ite_t hm (of_decide_eq_true h45')
     refine c_skip ?_
     exact d_round () hm Nat.zero_lt_one ⟨rfl, rfl, rfl, rfl, rfl, rfl, rfl, trivial⟩ (fun W h => (h.dropH (t := 100100) rfl).phi (fun W hφ => hφ))
   ·
    replace hm := ite_t hm (of_decide_eq_true h44)
    refine g_no rfl rfl rfl rfl rfl h44 ?_
    refine g_no rfl rfl rfl rfl rfl h44 ?_
    refine g_v rfl (r_pick1 rfl h44) ?_
    refine g_nil ?_
    refine d_then ?_
    refine c_cond1 rfl rfl ?_
    refine c_seq ?_
    refine c_region ?_
    refine g_v rfl r_assign ?_
    refine g_nil ?_
    refine d_then ?_
    refine c_ret ?_
    refine d_ret_then ?_
    refine d_ret_then ?_
    replace hm := Option.some.inj hm
    subst hm
    refine d_retC () Try.results9 ?_ trivial (fun W h => ok_pre (H1 := [_, _, _]) (R1 := []) h (fun W hφ => hφ)) (.inr rfl)
    refine res_tmp ?_
    refine res_nil ?_
    exact rfl
  ·
   replace hm := ite_f hm (of_decide_eq_false h38)
   refine c_skip ?_
   exact d_round () hm Nat.zero_lt_one ⟨rfl, rfl, rfl, rfl, rfl, rfl, rfl, trivial⟩ (fun W h => h.phi (fun W hφ => hφ))
 ·
  unfold m_law05_RecordSoas_j1 at hm
  refine d_flat [(2, .pointer (some ⟨g1, 0, none⟩)), (3, .pointer (some ⟨g2, 0, none⟩)), (5, .bool x3), (6, .string x13), (7, .int .i64 x14), (8, .string x17), (9, .int .i64 x18)] ⟨rfl, rfl, rfl, rfl, rfl, rfl, rfl, trivial⟩ (fun u => ?_)
  refine d_sta ⟨w0, M, (100030, g2, .cells #[.string x9, .string x11, .int .u32 p1.fSerial, .int .u32 p1.fRefresh, .int .u32 p1.fRetry, .int .u32 p1.fExpire, .int .u32 p1.fMinimum] 50 (0, 0)) :: (100020, g1, .cells #[.string x5, .string x7, .int .u32 p0.fSerial, .int .u32 p0.fRefresh, .int .u32 p0.fRetry, .int .u32 p0.fExpire, .int .u32 p0.fMinimum] 50 (0, 0)) :: H, R, φ⟩ (fun _ h => h) ?_
  refine d_then ?_
  refine c_seq ?_
  refine c_region ?_
  refine g_v rfl (r_loadA (tag := 100020) rfl rfl Try.isAgg50 Try.sizeOf50 rfl rfl) ?_
  replace hm := bnd hm
  obtain ⟨⟨x29, x30⟩, hx31, hm⟩ := hm
  refine g_cn ⟨w0, M, _, _, φ⟩ (fun _ h => h) Try.call37 rfl rfl (c_ref05_SoaData (⟨x5, x7, p0.fSerial, p0.fRefresh, p0.fRetry, p0.fExpire, p0.fMinimum⟩ : GSoa) _ hx31) (fun _ _ => ?_)
  refine g_v rfl r_move ?_
  refine g_v rfl (r_extract rfl rfl) ?_
  refine g_v rfl (r_extract rfl rfl) ?_
  refine g_v rfl r_assign ?_
  refine g_v rfl r_assign ?_
  refine g_nil ?_
  refine d_then ?_
  refine c_seq ?_
  refine c_region ?_
  refine g_v rfl r_move ?_
  refine g_v rfl r_move ?_
  refine g_if rfl rfl rfl rfl rfl (fun h33 => ?_) (fun h33 => ?_)
  ·
   replace hm := ite_t hm h33
   refine g_v rfl r_move ?_
   refine g_do rfl rfl rfl rfl rfl h33 ?_
   refine g_v rfl r_move ?_
   refine g_do rfl rfl rfl rfl rfl h33 ?_
   refine g_v rfl (r_eqlT rfl rfl) ?_
   refine g_v rfl (r_pick1 rfl h33) ?_
   refine g_v rfl r_move ?_
   refine g_if rfl rfl rfl rfl rfl (fun h34 => ?_) (fun h34 => ?_)
   ·
    replace hm := ite_t hm (of_decide_eq_true h34)
    refine g_v rfl r_move ?_
    refine g_do rfl rfl rfl rfl rfl h34 ?_
    refine g_v rfl r_move ?_
    refine g_do rfl rfl rfl rfl rfl h34 ?_
    refine g_v rfl (r_eql rfl rfl) ?_
    refine g_v rfl (r_pick1 rfl h34) ?_
    refine g_v rfl r_move ?_
    refine g_if rfl rfl rfl rfl rfl (fun h35 => ?_) (fun h35 => ?_)
    ·
     replace hm := ite_t hm (of_decide_eq_true h35)
     refine g_v rfl r_move ?_
     refine g_do rfl rfl rfl rfl rfl h35 ?_
     refine g_v rfl (r_neq rfl rfl) ?_
     refine g_do rfl rfl rfl rfl rfl h35 ?_
     refine g_v rfl r_move ?_
     refine g_if rfl rfl rfl rfl rfl (fun h36 => ?_) (fun h36 => ?_)
     ·
      replace hm := ite_f hm (of_decide_eq_false h36)
      refine g_v rfl r_move ?_
      refine g_do rfl rfl rfl rfl rfl h36 ?_
      refine g_v rfl (r_neq rfl rfl) ?_
      refine g_do rfl rfl rfl rfl rfl h35 ?_
      refine g_v rfl (r_pick0 rfl h36) ?_
      refine g_do rfl rfl rfl rfl rfl h35 ?_
      refine g_v rfl r_move ?_
      refine g_if rfl rfl rfl rfl rfl (fun h37 => ?_) (fun h37 => ?_)
      ·
       replace hm := ite_f hm (of_decide_eq_false h37)
       refine g_v rfl r_move ?_
       refine g_do rfl rfl rfl rfl rfl h37 ?_
       refine g_v rfl r_move ?_
       refine g_do rfl rfl rfl rfl rfl h37 ?_
       refine g_v rfl (r_eqlT rfl rfl) ?_
       refine g_do rfl rfl rfl rfl rfl h37 ?_
       refine g_v rfl (r_loadA (tag := 100020) rfl rfl Try.isAgg50 Try.sizeOf50 rfl rfl) ?_
       refine g_do rfl rfl rfl rfl rfl h37 ?_
       refine g_v rfl (r_loadA (tag := 100030) rfl rfl Try.isAgg50 Try.sizeOf50 rfl rfl) ?_
       refine g_do rfl rfl rfl rfl rfl h37 ?_
       refine g_v rfl (r_eqlA rfl rfl eqg50 (eqq50 (⟨x5, x7, p0.fSerial, p0.fRefresh, p0.fRetry, p0.fExpire, p0.fMinimum⟩ : GSoa) (⟨x9, x11, p1.fSerial, p1.fRefresh, p1.fRetry, p1.fExpire, p1.fMinimum⟩ : GSoa))) ?_
       refine g_do rfl rfl rfl rfl rfl h37 ?_
       refine g_v rfl (r_eqlBo Try.underlying4 rfl rfl) ?_
       refine g_do rfl rfl rfl rfl rfl h35 ?_
       refine g_v rfl (r_pick0 rfl h37) ?_
       refine g_v rfl (r_pick1 rfl h35) ?_
       refine g_v rfl r_assign ?_
       refine g_nil ?_
       refine d_then ?_
       refine c_flat [(4, .bool ((decide (x13 = x17)) == (decide ((⟨x5, x7, p0.fSerial, p0.fRefresh, p0.fRetry, p0.fExpire, p0.fMinimum⟩ : GSoa) = (⟨x9, x11, p1.fSerial, p1.fRefresh, p1.fRetry, p1.fExpire, p1.fMinimum⟩ : GSoa)))))] ⟨rfl, trivial⟩ (fun u => ?_)
       refine c_sta ⟨w0, M, (100030, g2, .cells #[.string x9, .string x11, .int .u32 p1.fSerial, .int .u32 p1.fRefresh, .int .u32 p1.fRetry, .int .u32 p1.fExpire, .int .u32 p1.fMinimum] 50 (0, 0)) :: (100020, g1, .cells #[.string x5, .string x7, .int .u32 p0.fSerial, .int .u32 p0.fRefresh, .int .u32 p0.fRetry, .int .u32 p0.fExpire, .int .u32 p0.fMinimum] 50 (0, 0)) :: H, R, φ⟩ (fun _ h => h) ?_
       refine c_ret ?_
       replace hm := Option.some.inj hm
       subst hm
       refine d_retC () Try.results9 ?_ trivial (fun W h => ok_pre (H1 := [_, _]) (R1 := []) h (fun W hφ => hφ)) (.inr rfl)
       refine res_tmp ?_
       refine res_nil ?_
       exact rfl
      ·
       replace hm := ite_t hm (of_decide_eq_true h37)
       refine g_no rfl rfl rfl rfl rfl h37 ?_
       refine g_no rfl rfl rfl rfl rfl h37 ?_
       refine g_no rfl rfl rfl rfl rfl h37 ?_
       refine g_no rfl rfl rfl rfl rfl h37 ?_
       refine g_no rfl rfl rfl rfl rfl h37 ?_
       refine g_no rfl rfl rfl rfl rfl h37 ?_
       refine g_do rfl rfl rfl rfl rfl h35 ?_
       refine g_v rfl (r_pick1 rfl h37) ?_
       refine g_v rfl (r_pick1 rfl h35) ?_
       refine g_v rfl r_assign ?_
       refine g_nil ?_
       refine d_then ?_
       refine c_flat [(4, .bool true)] ⟨rfl, trivial⟩ (fun u => ?_)
       refine c_sta ⟨w0, M, (100030, g2, .cells #[.string x9, .string x11, .int .u32 p1.fSerial, .int .u32 p1.fRefresh, .int .u32 p1.fRetry, .int .u32 p1.fExpire, .int .u32 p1.fMinimum] 50 (0, 0)) :: (100020, g1, .cells #[.string x5, .string x7, .int .u32 p0.fSerial, .int .u32 p0.fRefresh, .int .u32 p0.fRetry, .int .u32 p0.fExpire, .int .u32 p0.fMinimum] 50 (0, 0)) :: H, R, φ⟩ (fun _ h => h) ?_
       refine c_ret ?_
       replace hm := Option.some.inj hm
       subst hm
       refine d_retC () Try.results9 ?_ trivial (fun W h => ok_pre (H1 := [_, _]) (R1 := []) h (fun W hφ => hφ)) (.inr rfl)
       refine res_tmp ?_
       refine res_nil ?_
       exact rfl
     ·
      replace hm := ite_t hm (of_decide_eq_true h36)
      refine g_no rfl rfl rfl rfl rfl h36 ?_
      refine g_do rfl rfl rfl rfl rfl h35 ?_
      refine g_v rfl (r_pick1 rfl h36) ?_
      refine g_do rfl rfl rfl rfl rfl h35 ?_
      refine g_v rfl r_move ?_
      refine g_no rfl rfl rfl rfl rfl rfl ?_
      refine g_no rfl rfl rfl rfl rfl rfl ?_
      refine g_no rfl rfl rfl rfl rfl rfl ?_
      refine g_no rfl rfl rfl rfl rfl rfl ?_
      refine g_no rfl rfl rfl rfl rfl rfl ?_
      refine g_no rfl rfl rfl rfl rfl rfl ?_
      refine g_no rfl rfl rfl rfl rfl rfl ?_
      refine g_do rfl rfl rfl rfl rfl h35 ?_
      refine g_v rfl (r_pick1 rfl rfl) ?_
      refine g_v rfl (r_pick1 rfl h35) ?_
      refine g_v rfl r_assign ?_
      refine g_nil ?_
      refine d_then ?_
      refine c_flat [(4, .bool true)] ⟨rfl, trivial⟩ (fun u => ?_)
      refine c_sta ⟨w0, M, (100030, g2, .cells #[.string x9, .string x11, .int .u32 p1.fSerial, .int .u32 p1.fRefresh, .int .u32 p1.fRetry, .int .u32 p1.fExpire, .int .u32 p1.fMinimum] 50 (0, 0)) :: (100020, g1, .cells #[.string x5, .string x7, .int .u32 p0.fSerial, .int .u32 p0.fRefresh, .int .u32 p0.fRetry, .int .u32 p0.fExpire, .int .u32 p0.fMinimum] 50 (0, 0)) :: H, R, φ⟩ (fun _ h => h) ?_
      refine c_ret ?_
      replace hm := Option.some.inj hm
      subst hm
      refine d_retC () Try.results9 ?_ trivial (fun W h => ok_pre (H1 := [_, _]) (R1 := []) h (fun W hφ => hφ)) (.inr rfl)
      refine res_tmp ?_
      refine res_nil ?_
      exact rfl
    ·
     replace hm := ite_f hm (of_decide_eq_false h35)
     refine g_no rfl rfl rfl rfl rfl h35 ?_
     refine g_no rfl rfl rfl rfl rfl h35 ?_
     refine g_nu rfl rfl rfl rfl rfl ?_
     refine g_nu rfl rfl rfl rfl rfl ?_
     refine g_no rfl rfl rfl rfl rfl h35 ?_
     refine g_no rfl rfl rfl rfl rfl h35 ?_
     refine g_nu rfl rfl rfl rfl rfl ?_
     refine g_nu rfl rfl rfl rfl rfl ?_
     refine g_nu rfl rfl rfl rfl rfl ?_
     refine g_nu rfl rfl rfl rfl rfl ?_
     refine g_nu rfl rfl rfl rfl rfl ?_
     refine g_nu rfl rfl rfl rfl rfl ?_
     refine g_nu rfl rfl rfl rfl rfl ?_
     refine g_no rfl rfl rfl rfl rfl h35 ?_
     refine g_v rfl (r_pick0 rfl h35) ?_
     refine g_v rfl r_assign ?_
     refine g_nil ?_
     refine d_then ?_
     refine c_flat [(4, .bool false)] ⟨rfl, trivial⟩ (fun u => ?_)
     refine c_sta ⟨w0, M, (100030, g2, .cells #[.string x9, .string x11, .int .u32 p1.fSerial, .int .u32 p1.fRefresh, .int .u32 p1.fRetry, .int .u32 p1.fExpire, .int .u32 p1.fMinimum] 50 (0, 0)) :: (100020, g1, .cells #[.string x5, .string x7, .int .u32 p0.fSerial, .int .u32 p0.fRefresh, .int .u32 p0.fRetry, .int .u32 p0.fExpire, .int .u32 p0.fMinimum] 50 (0, 0)) :: H, R, φ⟩ (fun _ h => h) ?_
     refine c_ret ?_
     replace hm := Option.some.inj hm
     subst hm
     refine d_retC () Try.results9 ?_ trivial (fun W h => ok_pre (H1 := [_, _]) (R1 := []) h (fun W hφ => hφ)) (.inr rfl)
     refine res_tmp ?_
     refine res_nil ?_
     exact rfl
   ·
    replace hm := ite_f hm (of_decide_eq_false h34)
    refine g_no rfl rfl rfl rfl rfl h34 ?_
    refine g_no rfl rfl rfl rfl rfl h34 ?_
    refine g_v rfl (r_pick0 rfl h34) ?_
    refine g_v rfl r_move ?_
    refine g_no rfl rfl rfl rfl rfl rfl ?_
    refine g_no rfl rfl rfl rfl rfl rfl ?_
    refine g_no rfl rfl rfl rfl rfl rfl ?_
    refine g_nu rfl rfl rfl rfl rfl ?_
    refine g_nu rfl rfl rfl rfl rfl ?_
    refine g_no rfl rfl rfl rfl rfl rfl ?_
    refine g_no rfl rfl rfl rfl rfl rfl ?_
    refine g_nu rfl rfl rfl rfl rfl ?_
    refine g_nu rfl rfl rfl rfl rfl ?_
    refine g_nu rfl rfl rfl rfl rfl ?_
    refine g_nu rfl rfl rfl rfl rfl ?_
    refine g_nu rfl rfl rfl rfl rfl ?_
    refine g_nu rfl rfl rfl rfl rfl ?_
    refine g_nu rfl rfl rfl rfl rfl ?_
    refine g_no rfl rfl rfl rfl rfl rfl ?_
    refine g_v rfl (r_pick0 rfl rfl) ?_
    refine g_v rfl r_assign ?_
    refine g_nil ?_
    refine d_then ?_
    refine c_flat [(4, .bool false)] ⟨rfl, trivial⟩ (fun u => ?_)
    refine c_sta ⟨w0, M, (100030, g2, .cells #[.string x9, .string x11, .int .u32 p1.fSerial, .int .u32 p1.fRefresh, .int .u32 p1.fRetry, .int .u32 p1.fExpire, .int .u32 p1.fMinimum] 50 (0, 0)) :: (100020, g1, .cells #[.string x5, .string x7, .int .u32 p0.fSerial, .int .u32 p0.fRefresh, .int .u32 p0.fRetry, .int .u32 p0.fExpire, .int .u32 p0.fMinimum] 50 (0, 0)) :: H, R, φ⟩ (fun _ h => h) ?_
    refine c_ret ?_
    replace hm := Option.some.inj hm
    subst hm
    refine d_retC () Try.results9 ?_ trivial (fun W h => ok_pre (H1 := [_, _]) (R1 := []) h (fun W hφ => hφ)) (.inr rfl)
    refine res_tmp ?_
    refine res_nil ?_
    exact rfl
  ·
   replace hm := ite_f hm (bool_nt h33)
   refine g_no rfl rfl rfl rfl rfl h33 ?_
   refine g_no rfl rfl rfl rfl rfl h33 ?_
   refine g_v rfl (r_pick0 rfl h33) ?_
   refine g_v rfl r_move ?_
   refine g_no rfl rfl rfl rfl rfl rfl ?_
   refine g_no rfl rfl rfl rfl rfl rfl ?_
   refine g_no rfl rfl rfl rfl rfl rfl ?_
   refine g_v rfl (r_pick0 rfl rfl) ?_
   refine g_v rfl r_move ?_
   refine g_no rfl rfl rfl rfl rfl rfl ?_
   refine g_no rfl rfl rfl rfl rfl rfl ?_
   refine g_no rfl rfl rfl rfl rfl rfl ?_
   refine g_nu rfl rfl rfl rfl rfl ?_
   refine g_nu rfl rfl rfl rfl rfl ?_
   refine g_no rfl rfl rfl rfl rfl rfl ?_
   refine g_no rfl rfl rfl rfl rfl rfl ?_
   refine g_nu rfl rfl rfl rfl rfl ?_
   refine g_nu rfl rfl rfl rfl rfl ?_
   refine g_nu rfl rfl rfl rfl rfl ?_
   refine g_nu rfl rfl rfl rfl rfl ?_
   refine g_nu rfl rfl rfl rfl rfl ?_
   refine g_nu rfl rfl rfl rfl rfl ?_
   refine g_nu rfl rfl rfl rfl rfl ?_
   refine g_no rfl rfl rfl rfl rfl rfl ?_
   refine g_v rfl (r_pick0 rfl rfl) ?_
   refine g_v rfl r_assign ?_
   refine g_nil ?_
   refine d_then ?_
   refine c_flat [(4, .bool false)] ⟨rfl, trivial⟩ (fun u => ?_)
   refine c_sta ⟨w0, M, (100030, g2, .cells #[.string x9, .string x11, .int .u32 p1.fSerial, .int .u32 p1.fRefresh, .int .u32 p1.fRetry, .int .u32 p1.fExpire, .int .u32 p1.fMinimum] 50 (0, 0)) :: (100020, g1, .cells #[.string x5, .string x7, .int .u32 p0.fSerial, .int .u32 p0.fRefresh, .int .u32 p0.fRetry, .int .u32 p0.fExpire, .int .u32 p0.fMinimum] 50 (0, 0)) :: H, R, φ⟩ (fun _ h => h) ?_
   refine c_ret ?_
   replace hm := Option.some.inj hm
   subst hm
   refine d_retC () Try.results9 ?_ trivial (fun W h => ok_pre (H1 := [_, _]) (R1 := []) h (fun W hφ => hφ)) (.inr rfl)
   refine res_tmp ?_
   refine res_nil ?_
   exact rfl

end Go.Proofs.Ytpdhdpefdgndeaa
