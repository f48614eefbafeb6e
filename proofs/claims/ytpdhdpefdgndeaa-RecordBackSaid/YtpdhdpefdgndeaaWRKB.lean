import Derived.Test.YtpdhdpefdgndeaaWRKA
set_option maxRecDepth 100000
set_option maxHeartbeats 4000000
set_option linter.unusedVariables false
set_option linter.unusedSimpArgs false
namespace Go.Proofs.Ytpdhdpefdgndeaa
open Go.RowKit Go.Proofs.YtpdhdpefdgndeaaW.PrintLast
noncomputable def m_record_Get_j3 (x3 : ByteArray) (x14 : Int) (i27 : Int) (i36 : Int) (x55 : Int) (s86 : ByteArray) : Option (GRR × Int × Int) :=
  (m_record_Check (⟨x3, x14, i27, i36, s86⟩ : GRR)).bind fun x87 =>
  if x87 ≠ 0 then
    (m_record_Get_c1 x87).bind fun (z94 : GRR × Int × Int) =>
    some (z94.1, z94.2.1, z94.2.2)
  else
    some ((⟨x3, x14, i27, i36, s86⟩ : GRR), x55, 0)
noncomputable def m_record_Get_j2 (p0 : ByteArray) (x14 : Int) (x3 : ByteArray) (i27 : Int) (i34 : Int) (i35 : Int) (i36 : Int) : Option (GRR × Int × Int) :=
  if i35 ≠ 0 then
    (m_record_Get_c1 i35).bind fun (z42 : GRR × Int × Int) =>
    some (z42.1, z42.2.1, z42.2.2)
  else
    (m_pack_Word p0 i34).bind fun (z47 : Int × Int × Int) =>
    if z47.2.2 ≠ 0 then
      (m_record_Get_c1 z47.2.2).bind fun (z53 : GRR × Int × Int) =>
      some (z53.1, z53.2.1, z53.2.2)
    else
      (m_pack_Raw p0 z47.2.1 (w64 z47.1)).bind fun (z58 : ByteArray × Int × Int) =>
      if z58.2.2 ≠ 0 then
        (m_record_Get_c1 z58.2.2).bind fun (z64 : GRR × Int × Int) =>
        some (z64.1, z64.2.1, z64.2.2)
      else
        (m_record_shapeOf x14).bind fun x65 =>
        if 0 < x65.fnames then
          (m_record_full p0 z47.2.1 x65).bind fun (z100 : ByteArray × Int × Int) =>
          if z100.2.2 ≠ 0 then
            (m_record_Get_c1 z100.2.2).bind fun (z106 : GRR × Int × Int) =>
            some (z106.1, z106.2.1, z106.2.2)
          else
            if z100.2.1 ≠ z58.2.1 then
              (m_record_Get_c1 10).bind fun (z112 : GRR × Int × Int) =>
              some (z112.1, z112.2.1, z112.2.2)
            else
              m_record_Get_j3 x3 x14 i27 i36 z58.2.1 z100.1
        else
          m_record_Get_j3 x3 x14 i27 i36 z58.2.1 z58.1
noncomputable def m_record_Get_j1 (p0 : ByteArray) (x14 : Int) (x3 : ByteArray) (i25 : Int) (i26 : Int) (i27 : Int) : Option (GRR × Int × Int) :=
  if i26 = 0 then
    (m_pack_Long p0 i25).bind fun (z118 : Int × Int × Int) =>
    m_record_Get_j2 p0 x14 x3 i27 z118.2.1 z118.2.2 z118.1
  else
    m_record_Get_j2 p0 x14 x3 i27 i25 i26 0
noncomputable def m_record_Get (p0 : ByteArray) (p1 : Int) : Option (GRR × Int × Int) :=
  (m_pack_Name p0 p1).bind fun (z7 : ByteArray × Int × Int) =>
  if z7.2.2 ≠ 0 then
    (m_record_Get_c1 z7.2.2).bind fun (z13 : GRR × Int × Int) =>
    some (z13.1, z13.2.1, z13.2.2)
  else
    (m_pack_Word p0 z7.2.1).bind fun (z18 : Int × Int × Int) =>
    if z18.2.2 = 0 then
      (m_pack_Word p0 z18.2.1).bind fun (z124 : Int × Int × Int) =>
      m_record_Get_j1 p0 z18.1 z7.1 z124.2.1 z124.2.2 z124.1
    else
      m_record_Get_j1 p0 z18.1 z7.1 z18.2.1 z18.2.2 0
theorem c_record_Get {w0 : World} {M : Nat → Prop} {H : List (Nat × Nat × Obj)} {R : List (Nat × Row)} {φ : World → Prop} (p0 : ByteArray) (p1 : Int) (r : GRR × Int × Int) (hm : m_record_Get p0 p1 = some r) :
    Cn Try.prog 18 #[.string p0, .int .i64 p1] ⟨w0, M, H, R, φ⟩ (fun x : Unit => .tuple #[.agg #[.string r.1.fName, .int .u16 r.1.fType, .int .u16 r.1.fClass, .int .u32 r.1.fTTL, .string r.1.fData], .int .i64 r.2.1, .int .i64 r.2.2]) (fun x => True) (fun x => ⟨w0, M, H, R, φ⟩) := by
 unfold m_record_Get at hm
 refine cn_intro (fn := Try.f18) (N := 151) Try.func18 rfl Try.ntmps18 rfl ?_
 refine c_seq ?_
 refine c_region ?_
 refine g_e rfl (e_alloc 100040 Try.zeroValue27) (fun g1 _ => ?_)
 refine g_v rfl r_assign ?_
 refine g_v rfl r_assign ?_
 refine g_nil ?_
 refine d_then ?_
 refine c_seq ?_
 refine c_region ?_
 refine g_e rfl (e_alloc 100070 Try.zeroValue27) (fun g2 _ => ?_)
 refine g_nil ?_
 refine d_then ?_
 refine c_seq ?_
 refine c_region ?_
 refine g_v rfl r_assign ?_
 refine g_nil ?_
 refine d_then ?_
 refine c_seq ?_
 refine c_region ?_
 refine g_v rfl r_move ?_
 refine g_v rfl r_move ?_
 replace hm := bnd hm
 obtain ⟨⟨x3, x4, x5⟩, hx6, hm⟩ := hm
 refine g_cn ⟨w0, M, _, _, φ⟩ (fun _ h => h) Try.call57 rfl rfl (c_pack_Name p0 p1 _ hx6) (fun _ _ => ?_)
 refine g_v rfl r_move ?_
 refine g_v rfl (r_extract rfl rfl) ?_
 refine g_v rfl (r_extract rfl rfl) ?_
 refine g_v rfl (r_extract rfl rfl) ?_
 refine g_v rfl r_assign ?_
 refine g_v rfl r_assign ?_
 refine g_v rfl r_assign ?_
 refine g_nil ?_
 refine d_then ?_
 refine c_flat [(0, .string p0), (1, .int .i64 x4), (4, .pointer (some ⟨g1, 0, none⟩)), (7, .pointer (some ⟨g2, 0, none⟩)), (8, .func (.func 56) #[] #[]), (9, .string x3), (10, .int .i64 x5)] ⟨rfl, rfl, rfl, rfl, rfl, rfl, rfl, trivial⟩ (fun u => ?_)
 refine c_sta ⟨w0, M, (100070, g2, .cells #[.string (⟨#[]⟩ : ByteArray), .int .u16 0, .int .u16 0, .int .u32 0, .string (⟨#[]⟩ : ByteArray)] 27 (0, 0)) :: (100040, g1, .cells #[.string (⟨#[]⟩ : ByteArray), .int .u16 0, .int .u16 0, .int .u32 0, .string (⟨#[]⟩ : ByteArray)] 27 (0, 0)) :: H, R, φ⟩ (fun _ h => h) ?_
 refine c_seq ?_
 refine c_seq ?_
 refine c_region ?_
 refine g_v rfl r_move ?_
 refine g_v rfl (r_neq rfl rfl) ?_
 refine g_nil ?_
 refine d_then ?_
 refine c_cond rfl (fun h8 => ?_) (fun h8 => ?_)
 ·
  replace hm := ite_t hm (of_decide_eq_true h8)
  refine c_seq ?_
  refine c_region ?_
  refine g_v rfl r_move ?_
  refine g_v rfl r_move ?_
  replace hm := bnd hm
  obtain ⟨⟨x9, x10, x11⟩, hx12, hm⟩ := hm
  refine g_cnv ⟨w0, M, _, _, φ⟩ (fun _ h => h) Try.call56 rfl rfl rfl (c_record_Get_c1 x5 _ hx12) (fun _ _ => ?_)
  refine g_v rfl (r_extract rfl rfl) ?_
  refine g_v rfl (r_extract rfl rfl) ?_
  refine g_v rfl (r_extract rfl rfl) ?_
  refine g_storeL (tag := 100040) rfl rfl rfl rfl Try.sizeOf27 rfl rfl ?_
  refine g_v rfl r_assign ?_
  refine g_v rfl r_assign ?_
  refine g_nil ?_
  refine d_then ?_
  refine c_flat [(4, .pointer (some ⟨g1, 0, none⟩)), (5, .int .i64 x10), (6, .int .i64 x11)] ⟨rfl, rfl, rfl, trivial⟩ (fun u => ?_)
  refine c_sta ⟨w0, M, (100070, g2, .cells #[.string (⟨#[]⟩ : ByteArray), .int .u16 0, .int .u16 0, .int .u32 0, .string (⟨#[]⟩ : ByteArray)] 27 (0, 0)) :: (100040, g1, .cells #[.string x9.fName, .int .u16 x9.fType, .int .u16 x9.fClass, .int .u32 x9.fTTL, .string x9.fData] 27 (0, 0)) :: H, R, φ⟩ (fun _ h => h) ?_
  refine c_ret ?_
  refine d_ret_then ?_
  replace hm := Option.some.inj hm
  subst hm
  refine d_retC () Try.results18 ?_ trivial (fun W h => ok_pre (H1 := [_, _]) (R1 := []) h (fun W hφ => hφ)) (.inr rfl)
  refine res_agg (tag := 100040) rfl rfl Try.isAgg27 Try.sizeOf27 ?_
  refine res_tmp ?_
  refine res_tmp ?_
  refine res_nil ?_
  exact rfl
 ·
  replace hm := ite_f hm (of_decide_eq_false h8)
  refine c_skip ?_
  refine d_then ?_
  refine c_seq ?_
  refine c_region ?_
  refine g_v rfl r_move ?_
  refine g_v rfl (r_field (n := 0) Try.underlying27 rfl Try.sizeOf9 rfl rfl) ?_
  refine g_storeL (tag := 100070) rfl rfl rfl rfl Try.sizeOf9 rfl rfl ?_
  refine g_nil ?_
  refine d_then ?_
  refine c_seq ?_
  refine c_region ?_
  refine g_v rfl r_move ?_
  refine g_v rfl r_move ?_
  replace hm := bnd hm
  obtain ⟨⟨x14, x15, x16⟩, hx17, hm⟩ := hm
  refine g_cn ⟨w0, M, _, _, φ⟩ (fun _ h => h) Try.call58 rfl rfl (c_pack_Word p0 x4 _ hx17) (fun _ _ => ?_)
  refine g_v rfl r_move ?_
  refine g_v rfl (r_extract rfl rfl) ?_
  refine g_v rfl (r_extract rfl rfl) ?_
  refine g_v rfl (r_extract rfl rfl) ?_
  refine g_v rfl (r_field (n := 1) Try.underlying27 rfl Try.sizeOf24 rfl rfl) ?_
  refine g_storeL (tag := 100070) rfl rfl rfl rfl Try.sizeOf24 rfl rfl ?_
  refine g_v rfl r_assign ?_
  refine g_v rfl r_assign ?_
  refine g_nil ?_
  refine d_then ?_
  refine c_flat [(0, .string p0), (1, .int .i64 x15), (4, .pointer (some ⟨g1, 0, none⟩)), (7, .pointer (some ⟨g2, 0, none⟩)), (8, .func (.func 56) #[] #[]), (10, .int .i64 x16)] ⟨rfl, rfl, rfl, rfl, rfl, rfl, trivial⟩ (fun u => ?_)
  refine c_sta ⟨w0, M, (100070, g2, .cells #[.string x3, .int .u16 x14, .int .u16 0, .int .u32 0, .string (⟨#[]⟩ : ByteArray)] 27 (0, 0)) :: (100040, g1, .cells #[.string (⟨#[]⟩ : ByteArray), .int .u16 0, .int .u16 0, .int .u32 0, .string (⟨#[]⟩ : ByteArray)] 27 (0, 0)) :: H, R, φ⟩ (fun _ h => h) ?_
  refine c_seq ?_
  refine c_cut (ι := Int × Int × Int) [0, 1, 4, 7, 8, 10] (fun ⟨i25, i26, i27⟩ => [(1, .int .i64 i25), (10, .int .i64 i26)]) (fun ⟨i25, i26, i27⟩ => ⟨w0, M, (100070, g2, .cells #[.string x3, .int .u16 x14, .int .u16 i27, .int .u32 0, .string (⟨#[]⟩ : ByteArray)] 27 (0, 0)) :: (100040, g1, .cells #[.string (⟨#[]⟩ : ByteArray), .int .u16 0, .int .u16 0, .int .u32 0, .string (⟨#[]⟩ : ByteArray)] 27 (0, 0)) :: H, R, φ⟩) (fun ⟨i25, i26, i27⟩ => m_record_Get_j1 p0 x14 x3 i25 i26 i27 = some r) ?_ (fun ⟨i25, i26, i27⟩ u hm => ?_)
  ·
   refine c_seq ?_
   refine c_region ?_
   refine g_v rfl r_move ?_
   refine g_v rfl (r_eql rfl rfl) ?_
   refine g_nil ?_
   refine d_then ?_
   refine c_cond rfl (fun h119 => ?_) (fun h119 => ?_)
   ·
    replace hm := ite_t hm (of_decide_eq_true h119)
    refine c_region ?_
    refine g_v rfl r_move ?_
    refine g_v rfl r_move ?_
    replace hm := bnd hm
    obtain ⟨⟨x120, x121, x122⟩, hx123, hm⟩ := hm
    refine g_cn ⟨w0, M, _, _, φ⟩ (fun _ h => h) Try.call58 rfl rfl (c_pack_Word p0 x15 _ hx123) (fun _ _ => ?_)
    refine g_v rfl r_move ?_
    refine g_v rfl (r_extract rfl rfl) ?_
    refine g_v rfl (r_extract rfl rfl) ?_
    refine g_v rfl (r_extract rfl rfl) ?_
    refine g_v rfl (r_field (n := 2) Try.underlying27 rfl Try.sizeOf24 rfl rfl) ?_
    refine g_storeL (tag := 100070) rfl rfl rfl rfl Try.sizeOf24 rfl rfl ?_
    refine g_v rfl r_assign ?_
    refine g_v rfl r_assign ?_
    refine g_nil ?_
    exact d_round (x121, x122, x120) hm Nat.zero_lt_one ⟨rfl, rfl, rfl, rfl, rfl, rfl, trivial⟩ (fun W h => h.phi (fun W hφ => hφ))
   ·
    replace hm := ite_f hm (of_decide_eq_false h119)
    refine c_skip ?_
    exact d_round (x15, x16, 0) hm Nat.zero_lt_one ⟨rfl, rfl, rfl, rfl, rfl, rfl, trivial⟩ (fun W h => h.phi (fun W hφ => hφ))
  ·
   unfold m_record_Get_j1 at hm
   refine d_flat [(0, .string p0), (1, .int .i64 i25), (4, .pointer (some ⟨g1, 0, none⟩)), (7, .pointer (some ⟨g2, 0, none⟩)), (8, .func (.func 56) #[] #[]), (10, .int .i64 i26)] ⟨rfl, rfl, rfl, rfl, rfl, rfl, trivial⟩ (fun u => ?_)
   refine d_sta ⟨w0, M, (100070, g2, .cells #[.string x3, .int .u16 x14, .int .u16 i27, .int .u32 0, .string (⟨#[]⟩ : ByteArray)] 27 (0, 0)) :: (100040, g1, .cells #[.string (⟨#[]⟩ : ByteArray), .int .u16 0, .int .u16 0, .int .u32 0, .string (⟨#[]⟩ : ByteArray)] 27 (0, 0)) :: H, R, φ⟩ (fun _ h => h) ?_
   refine d_then ?_
   refine c_seq ?_
   refine c_cut (ι := Int × Int × Int) [0, 1, 4, 7, 8, 10] (fun ⟨i34, i35, i36⟩ => [(1, .int .i64 i34), (10, .int .i64 i35)]) (fun ⟨i34, i35, i36⟩ => ⟨w0, M, (100070, g2, .cells #[.string x3, .int .u16 x14, .int .u16 i27, .int .u32 i36, .string (⟨#[]⟩ : ByteArray)] 27 (0, 0)) :: (100040, g1, .cells #[.string (⟨#[]⟩ : ByteArray), .int .u16 0, .int .u16 0, .int .u32 0, .string (⟨#[]⟩ : ByteArray)] 27 (0, 0)) :: H, R, φ⟩) (fun ⟨i34, i35, i36⟩ => m_record_Get_j2 p0 x14 x3 i27 i34 i35 i36 = some r) ?_ (fun ⟨i34, i35, i36⟩ u hm => ?_)
   ·
    refine c_seq ?_
    refine c_region ?_
    refine g_v rfl r_move ?_
    refine g_v rfl (r_eql rfl rfl) ?_
    refine g_nil ?_
    refine d_then ?_
    refine c_cond rfl (fun h113 => ?_) (fun h113 => ?_)
    ·
     replace hm := ite_t hm (of_decide_eq_true h113)
     refine c_region ?_
     refine g_v rfl r_move ?_
     refine g_v rfl r_move ?_
     replace hm := bnd hm
     obtain ⟨⟨x114, x115, x116⟩, hx117, hm⟩ := hm
     refine g_cn ⟨w0, M, _, _, φ⟩ (fun _ h => h) Try.call59 rfl rfl (c_pack_Long p0 i25 _ hx117) (fun _ _ => ?_)
     refine g_v rfl r_move ?_
     refine g_v rfl (r_extract rfl rfl) ?_
     refine g_v rfl (r_extract rfl rfl) ?_
     refine g_v rfl (r_extract rfl rfl) ?_
     refine g_v rfl (r_field (n := 3) Try.underlying27 rfl Try.sizeOf25 rfl rfl) ?_
     refine g_storeL (tag := 100070) rfl rfl rfl rfl Try.sizeOf25 rfl rfl ?_
     refine g_v rfl r_assign ?_
     refine g_v rfl r_assign ?_
     refine g_nil ?_
     exact d_round (x115, x116, x114) hm Nat.zero_lt_one ⟨rfl, rfl, rfl, rfl, rfl, rfl, trivial⟩ (fun W h => h.phi (fun W hφ => hφ))
    ·
     replace hm := ite_f hm (of_decide_eq_false h113)
     refine c_skip ?_
     exact d_round (i25, i26, 0) hm Nat.zero_lt_one ⟨rfl, rfl, rfl, rfl, rfl, rfl, trivial⟩ (fun W h => h.phi (fun W hφ => hφ))
   ·
    unfold m_record_Get_j2 at hm
    refine d_flat [(0, .string p0), (1, .int .i64 i34), (4, .pointer (some ⟨g1, 0, none⟩)), (7, .pointer (some ⟨g2, 0, none⟩)), (8, .func (.func 56) #[] #[]), (10, .int .i64 i35)] ⟨rfl, rfl, rfl, rfl, rfl, rfl, trivial⟩ (fun u => ?_)
    refine d_sta ⟨w0, M, (100070, g2, .cells #[.string x3, .int .u16 x14, .int .u16 i27, .int .u32 i36, .string (⟨#[]⟩ : ByteArray)] 27 (0, 0)) :: (100040, g1, .cells #[.string (⟨#[]⟩ : ByteArray), .int .u16 0, .int .u16 0, .int .u32 0, .string (⟨#[]⟩ : ByteArray)] 27 (0, 0)) :: H, R, φ⟩ (fun _ h => h) ?_
    refine d_then ?_
    refine c_seq ?_
    refine c_seq ?_
    refine c_region ?_
    refine g_v rfl r_move ?_
    refine g_v rfl (r_neq rfl rfl) ?_
    refine g_nil ?_
    refine d_then ?_
    refine c_cond rfl (fun h37 => ?_) (fun h37 => ?_)
    ·
     replace hm := ite_t hm (of_decide_eq_true h37)
     refine c_seq ?_
     refine c_region ?_
     refine g_v rfl r_move ?_
     refine g_v rfl r_move ?_
     replace hm := bnd hm
     obtain ⟨⟨x38, x39, x40⟩, hx41, hm⟩ := hm
     refine g_cnv ⟨w0, M, _, _, φ⟩ (fun _ h => h) Try.call56 rfl rfl rfl (c_record_Get_c1 i35 _ hx41) (fun _ _ => ?_)
     refine g_v rfl (r_extract rfl rfl) ?_
     refine g_v rfl (r_extract rfl rfl) ?_
     refine g_v rfl (r_extract rfl rfl) ?_
     refine g_storeL (tag := 100040) rfl rfl rfl rfl Try.sizeOf27 rfl rfl ?_
     refine g_v rfl r_assign ?_
     refine g_v rfl r_assign ?_
     refine g_nil ?_
     refine d_then ?_
     refine c_flat [(4, .pointer (some ⟨g1, 0, none⟩)), (5, .int .i64 x39), (6, .int .i64 x40)] ⟨rfl, rfl, rfl, trivial⟩ (fun u => ?_)
     refine c_sta ⟨w0, M, (100070, g2, .cells #[.string x3, .int .u16 x14, .int .u16 i27, .int .u32 i36, .string (⟨#[]⟩ : ByteArray)] 27 (0, 0)) :: (100040, g1, .cells #[.string x38.fName, .int .u16 x38.fType, .int .u16 x38.fClass, .int .u32 x38.fTTL, .string x38.fData] 27 (0, 0)) :: H, R, φ⟩ (fun _ h => h) ?_
     refine c_ret ?_
     refine d_ret_then ?_
     replace hm := Option.some.inj hm
     subst hm
     refine d_retC () Try.results18 ?_ trivial (fun W h => ok_pre (H1 := [_, _]) (R1 := []) h (fun W hφ => hφ)) (.inr rfl)
     refine res_agg (tag := 100040) rfl rfl Try.isAgg27 Try.sizeOf27 ?_
     refine res_tmp ?_
     refine res_tmp ?_
     refine res_nil ?_
     exact rfl
    ·
     replace hm := ite_f hm (of_decide_eq_false h37)
     refine c_skip ?_
     refine d_then ?_
     refine c_seq ?_
     refine c_region ?_
     refine g_v rfl r_move ?_
     refine g_v rfl r_move ?_
     replace hm := bnd hm
     obtain ⟨⟨x43, x44, x45⟩, hx46, hm⟩ := hm
     refine g_cn ⟨w0, M, _, _, φ⟩ (fun _ h => h) Try.call58 rfl rfl (c_pack_Word p0 i34 _ hx46) (fun _ _ => ?_)
     refine g_v rfl r_move ?_
     refine g_v rfl (r_extract rfl rfl) ?_
     refine g_v rfl (r_extract rfl rfl) ?_
     refine g_v rfl (r_extract rfl rfl) ?_
     refine g_v rfl r_assign ?_
     refine g_v rfl r_assign ?_
     refine g_v rfl r_assign ?_
     refine g_nil ?_
     refine d_then ?_
     refine c_flat [(0, .string p0), (1, .int .i64 x44), (4, .pointer (some ⟨g1, 0, none⟩)), (7, .pointer (some ⟨g2, 0, none⟩)), (8, .func (.func 56) #[] #[]), (10, .int .i64 x45), (11, .int .u16 x43)] ⟨rfl, rfl, rfl, rfl, rfl, rfl, rfl, trivial⟩ (fun u => ?_)
     refine c_sta ⟨w0, M, (100070, g2, .cells #[.string x3, .int .u16 x14, .int .u16 i27, .int .u32 i36, .string (⟨#[]⟩ : ByteArray)] 27 (0, 0)) :: (100040, g1, .cells #[.string (⟨#[]⟩ : ByteArray), .int .u16 0, .int .u16 0, .int .u32 0, .string (⟨#[]⟩ : ByteArray)] 27 (0, 0)) :: H, R, φ⟩ (fun _ h => h) ?_
     refine c_seq ?_
     refine c_seq ?_
     refine c_region ?_
     refine g_v rfl r_move ?_
     refine g_v rfl (r_neq rfl rfl) ?_
     refine g_nil ?_
     refine d_then ?_
     refine c_cond rfl (fun h48 => ?_) (fun h48 => ?_)
     ·
      replace hm := ite_t hm (of_decide_eq_true h48)
      refine c_seq ?_
      refine c_region ?_
      refine g_v rfl r_move ?_
      refine g_v rfl r_move ?_
      replace hm := bnd hm
      obtain ⟨⟨x49, x50, x51⟩, hx52, hm⟩ := hm
      refine g_cnv ⟨w0, M, _, _, φ⟩ (fun _ h => h) Try.call56 rfl rfl rfl (c_record_Get_c1 x45 _ hx52) (fun _ _ => ?_)
      refine g_v rfl (r_extract rfl rfl) ?_
      refine g_v rfl (r_extract rfl rfl) ?_
      refine g_v rfl (r_extract rfl rfl) ?_
      refine g_storeL (tag := 100040) rfl rfl rfl rfl Try.sizeOf27 rfl rfl ?_
      refine g_v rfl r_assign ?_
      refine g_v rfl r_assign ?_
      refine g_nil ?_
      refine d_then ?_
      refine c_flat [(4, .pointer (some ⟨g1, 0, none⟩)), (5, .int .i64 x50), (6, .int .i64 x51)] ⟨rfl, rfl, rfl, trivial⟩ (fun u => ?_)
      refine c_sta ⟨w0, M, (100070, g2, .cells #[.string x3, .int .u16 x14, .int .u16 i27, .int .u32 i36, .string (⟨#[]⟩ : ByteArray)] 27 (0, 0)) :: (100040, g1, .cells #[.string x49.fName, .int .u16 x49.fType, .int .u16 x49.fClass, .int .u32 x49.fTTL, .string x49.fData] 27 (0, 0)) :: H, R, φ⟩ (fun _ h => h) ?_
      refine c_ret ?_
      refine d_ret_then ?_
      replace hm := Option.some.inj hm
      subst hm
      refine d_retC () Try.results18 ?_ trivial (fun W h => ok_pre (H1 := [_, _]) (R1 := []) h (fun W hφ => hφ)) (.inr rfl)
      refine res_agg (tag := 100040) rfl rfl Try.isAgg27 Try.sizeOf27 ?_
      refine res_tmp ?_
      refine res_tmp ?_
      refine res_nil ?_
      exact rfl
     ·
      replace hm := ite_f hm (of_decide_eq_false h48)
      refine c_skip ?_
      refine d_then ?_
      refine c_seq ?_
      refine c_region ?_
      refine g_v rfl r_move ?_
      refine g_v rfl r_move ?_
      refine g_v rfl r_move ?_
      refine g_v rfl (r_conv Try.underlying24 Try.underlying3 rfl rfl) ?_
      replace hm := bnd hm
      obtain ⟨⟨x54, x55, x56⟩, hx57, hm⟩ := hm
      refine g_cn ⟨w0, M, _, _, φ⟩ (fun _ h => h) Try.call60 rfl rfl (c_pack_Raw p0 x44 (w64 x43) _ hx57) (fun _ _ => ?_)
      refine g_v rfl r_move ?_
      refine g_v rfl (r_extract rfl rfl) ?_
      refine g_v rfl (r_extract rfl rfl) ?_
      refine g_v rfl (r_extract rfl rfl) ?_
      refine g_v rfl r_assign ?_
      refine g_v rfl r_assign ?_
      refine g_v rfl r_assign ?_
      refine g_nil ?_
      refine d_then ?_
      refine c_flat [(0, .string p0), (1, .int .i64 x44), (4, .pointer (some ⟨g1, 0, none⟩)), (7, .pointer (some ⟨g2, 0, none⟩)), (8, .func (.func 56) #[] #[]), (10, .int .i64 x56), (12, .string x54), (13, .int .i64 x55)] ⟨rfl, rfl, rfl, rfl, rfl, rfl, rfl, rfl, trivial⟩ (fun u => ?_)
      refine c_sta ⟨w0, M, (100070, g2, .cells #[.string x3, .int .u16 x14, .int .u16 i27, .int .u32 i36, .string (⟨#[]⟩ : ByteArray)] 27 (0, 0)) :: (100040, g1, .cells #[.string (⟨#[]⟩ : ByteArray), .int .u16 0, .int .u16 0, .int .u32 0, .string (⟨#[]⟩ : ByteArray)] 27 (0, 0)) :: H, R, φ⟩ (fun _ h => h) ?_
      refine c_seq ?_
      refine c_seq ?_
      refine c_region ?_
      refine g_v rfl r_move ?_
      refine g_v rfl (r_neq rfl rfl) ?_
      refine g_nil ?_
      refine d_then ?_
      refine c_cond rfl (fun h59 => ?_) (fun h59 => ?_)
      ·
       replace hm := ite_t hm (of_decide_eq_true h59)
       refine c_seq ?_
       refine c_region ?_
       refine g_v rfl r_move ?_
       refine g_v rfl r_move ?_
       replace hm := bnd hm
       obtain ⟨⟨x60, x61, x62⟩, hx63, hm⟩ := hm
       refine g_cnv ⟨w0, M, _, _, φ⟩ (fun _ h => h) Try.call56 rfl rfl rfl (c_record_Get_c1 x56 _ hx63) (fun _ _ => ?_)
       refine g_v rfl (r_extract rfl rfl) ?_
       refine g_v rfl (r_extract rfl rfl) ?_
       refine g_v rfl (r_extract rfl rfl) ?_
       refine g_storeL (tag := 100040) rfl rfl rfl rfl Try.sizeOf27 rfl rfl ?_
       refine g_v rfl r_assign ?_
       refine g_v rfl r_assign ?_
       refine g_nil ?_
       refine d_then ?_
       refine c_flat [(4, .pointer (some ⟨g1, 0, none⟩)), (5, .int .i64 x61), (6, .int .i64 x62)] ⟨rfl, rfl, rfl, trivial⟩ (fun u => ?_)
       refine c_sta ⟨w0, M, (100070, g2, .cells #[.string x3, .int .u16 x14, .int .u16 i27, .int .u32 i36, .string (⟨#[]⟩ : ByteArray)] 27 (0, 0)) :: (100040, g1, .cells #[.string x60.fName, .int .u16 x60.fType, .int .u16 x60.fClass, .int .u32 x60.fTTL, .string x60.fData] 27 (0, 0)) :: H, R, φ⟩ (fun _ h => h) ?_
       refine c_ret ?_
       refine d_ret_then ?_
       replace hm := Option.some.inj hm
       subst hm
       refine d_retC () Try.results18 ?_ trivial (fun W h => ok_pre (H1 := [_, _]) (R1 := []) h (fun W hφ => hφ)) (.inr rfl)
       refine res_agg (tag := 100040) rfl rfl Try.isAgg27 Try.sizeOf27 ?_
       refine res_tmp ?_
       refine res_tmp ?_
       refine res_nil ?_
       exact rfl
      ·
       replace hm := ite_f hm (of_decide_eq_false h59)
       refine c_skip ?_
       refine d_then ?_
       refine c_seq ?_
       refine c_region ?_
       refine g_v rfl r_move ?_
       refine g_v rfl (r_field (n := 4) Try.underlying27 rfl Try.sizeOf9 rfl rfl) ?_
       refine g_storeL (tag := 100070) rfl rfl rfl rfl Try.sizeOf9 rfl rfl ?_
       refine g_nil ?_
       refine d_then ?_
       refine c_seq ?_
       refine c_region ?_
       refine g_v rfl (r_field (n := 1) Try.underlying27 rfl Try.sizeOf24 rfl rfl) ?_
       refine g_v rfl (r_load (tag := 100070) rfl rfl rfl Try.isAgg24) ?_
       replace hm := bnd hm
       obtain ⟨x65, hx66, hm⟩ := hm
       refine g_cn ⟨w0, M, _, _, φ⟩ (fun _ h => h) Try.call61 rfl rfl (c_record_shapeOf x14 _ hx66) (fun _ _ => ?_)
       refine g_e rfl (e_alloc 100140 Try.zeroValue90) (fun g67 _ => ?_)
       refine g_storeL (tag := 100140) rfl rfl rfl rfl Try.sizeOf90 rfl rfl ?_
       refine g_nil ?_
       refine d_then ?_
       refine c_flat [(0, .string p0), (1, .int .i64 x44), (4, .pointer (some ⟨g1, 0, none⟩)), (7, .pointer (some ⟨g2, 0, none⟩)), (8, .func (.func 56) #[] #[]), (13, .int .i64 x55), (14, .pointer (some ⟨g67, 0, none⟩))] ⟨rfl, rfl, rfl, rfl, rfl, rfl, rfl, trivial⟩ (fun u => ?_)
       refine c_sta ⟨w0, M, (100140, g67, .cells #[.int .i64 x65.fahead, .int .i64 x65.fnames, .int .i64 x65.fbehind] 90 (0, 0)) :: (100070, g2, .cells #[.string x3, .int .u16 x14, .int .u16 i27, .int .u32 i36, .string x54] 27 (0, 0)) :: (100040, g1, .cells #[.string (⟨#[]⟩ : ByteArray), .int .u16 0, .int .u16 0, .int .u32 0, .string (⟨#[]⟩ : ByteArray)] 27 (0, 0)) :: H, R, φ⟩ (fun _ h => h) ?_
       refine c_seq ?_
       refine c_cut (ι := ByteArray) [4, 7, 8, 13] (fun s86 => []) (fun s86 => ⟨w0, M, (100070, g2, .cells #[.string x3, .int .u16 x14, .int .u16 i27, .int .u32 i36, .string s86] 27 (0, 0)) :: (100040, g1, .cells #[.string (⟨#[]⟩ : ByteArray), .int .u16 0, .int .u16 0, .int .u32 0, .string (⟨#[]⟩ : ByteArray)] 27 (0, 0)) :: H, R, φ⟩) (fun s86 => m_record_Get_j3 x3 x14 i27 i36 x55 s86 = some r) ?_ (fun s86 u hm => ?_)
       ·
        refine c_seq ?_
        refine c_region ?_
        refine g_v rfl (r_field (n := 1) Try.underlying90 rfl Try.sizeOf3 rfl rfl) ?_
        refine g_v rfl (r_load (tag := 100140) rfl rfl rfl Try.isAgg3) ?_
        refine g_v rfl (r_gtr rfl rfl) ?_
        refine g_nil ?_
        refine d_then ?_
        refine c_cond rfl (fun h95 => ?_) (fun h95 => ?_)
        ·
         replace hm := ite_t hm (of_decide_eq_true h95)
         refine c_seq ?_
         refine c_region ?_
         refine g_v rfl r_move ?_
         refine g_v rfl r_move ?_
         refine g_v rfl (r_loadA (tag := 100140) rfl rfl Try.isAgg90 Try.sizeOf90 rfl rfl) ?_
         replace hm := bnd hm
         obtain ⟨⟨x96, x97, x98⟩, hx99, hm⟩ := hm
         refine g_cn ⟨w0, M, _, _, φ⟩ (fun _ h => h) Try.call62 rfl rfl (c_record_full p0 x44 x65 _ hx99) (fun _ _ => ?_)
         refine g_v rfl r_move ?_
         refine g_v rfl (r_extract rfl rfl) ?_
         refine g_v rfl (r_extract rfl rfl) ?_
         refine g_v rfl (r_extract rfl rfl) ?_
         refine g_v rfl r_assign ?_
         refine g_v rfl r_assign ?_
         refine g_v rfl r_assign ?_
         refine g_nil ?_
         refine d_then ?_
         refine c_flat [(4, .pointer (some ⟨g1, 0, none⟩)), (7, .pointer (some ⟨g2, 0, none⟩)), (8, .func (.func 56) #[] #[]), (13, .int .i64 x55), (15, .string x96), (16, .int .i64 x97), (17, .int .i64 x98)] ⟨rfl, rfl, rfl, rfl, rfl, rfl, rfl, trivial⟩ (fun u => ?_)
         refine c_sta ⟨w0, M, (100140, g67, .cells #[.int .i64 x65.fahead, .int .i64 x65.fnames, .int .i64 x65.fbehind] 90 (0, 0)) :: (100070, g2, .cells #[.string x3, .int .u16 x14, .int .u16 i27, .int .u32 i36, .string x54] 27 (0, 0)) :: (100040, g1, .cells #[.string (⟨#[]⟩ : ByteArray), .int .u16 0, .int .u16 0, .int .u32 0, .string (⟨#[]⟩ : ByteArray)] 27 (0, 0)) :: H, R, φ⟩ (fun _ h => h) ?_
         refine c_seq ?_
         refine c_block ?_
         refine c_seq ?_
         refine c_region ?_
         refine g_v rfl r_move ?_
         refine g_v rfl (r_neq rfl rfl) ?_
         refine g_v rfl r_assign ?_
         refine g_nil ?_
         refine d_then ?_
         refine c_cond rfl (fun h101 => ?_) (fun h101 => ?_)
         ·
          replace hm := ite_t hm (of_decide_eq_true h101)
          refine c_seq ?_
          refine c_region ?_
          refine g_v rfl r_move ?_
          refine g_v rfl r_move ?_
          replace hm := bnd hm
          obtain ⟨⟨x102, x103, x104⟩, hx105, hm⟩ := hm
          refine g_cnv ⟨w0, M, _, _, φ⟩ (fun _ h => h) Try.call56 rfl rfl rfl (c_record_Get_c1 x98 _ hx105) (fun _ _ => ?_)
          refine g_v rfl (r_extract rfl rfl) ?_
          refine g_v rfl (r_extract rfl rfl) ?_
          refine g_v rfl (r_extract rfl rfl) ?_
          refine g_storeL (tag := 100040) rfl rfl rfl rfl Try.sizeOf27 rfl rfl ?_
          refine g_v rfl r_assign ?_
          refine g_v rfl r_assign ?_
          refine g_nil ?_
          refine d_then ?_
          refine c_flat [(4, .pointer (some ⟨g1, 0, none⟩)), (5, .int .i64 x103), (6, .int .i64 x104)] ⟨rfl, rfl, rfl, trivial⟩ (fun u => ?_)
          refine c_sta ⟨w0, M, (100140, g67, .cells #[.int .i64 x65.fahead, .int .i64 x65.fnames, .int .i64 x65.fbehind] 90 (0, 0)) :: (100070, g2, .cells #[.string x3, .int .u16 x14, .int .u16 i27, .int .u32 i36, .string x54] 27 (0, 0)) :: (100040, g1, .cells #[.string x102.fName, .int .u16 x102.fType, .int .u16 x102.fClass, .int .u32 x102.fTTL, .string x102.fData] 27 (0, 0)) :: H, R, φ⟩ (fun _ h => h) ?_
          refine c_ret ?_
          refine d_ret_block ?_
          refine d_ret_then ?_
          refine d_ret_then ?_
          refine d_ret_then ?_
          replace hm := Option.some.inj hm
          subst hm
          refine d_retC () Try.results18 ?_ trivial (fun W h => ok_pre (H1 := [_, _, _]) (R1 := []) h (fun W hφ => hφ)) (.inr rfl)
          refine res_agg (tag := 100040) rfl rfl Try.isAgg27 Try.sizeOf27 ?_
          refine res_tmp ?_
          refine res_tmp ?_
          refine res_nil ?_
          exact rfl
         ·
          replace hm := ite_f hm (of_decide_eq_false h101)
          refine c_seq ?_
          refine c_region ?_
          refine g_v rfl r_move ?_
          refine g_v rfl r_move ?_
          refine g_v rfl (r_neq rfl rfl) ?_
          refine g_v rfl r_assign ?_
          refine g_nil ?_
          refine d_then ?_
          refine c_cond rfl (fun h107 => ?_) (fun h107 => ?_)
          ·
           replace hm := ite_t hm (of_decide_eq_true h107)
           refine c_seq ?_
           refine c_region ?_
           refine g_v rfl r_move ?_
           replace hm := bnd hm
           obtain ⟨⟨x108, x109, x110⟩, hx111, hm⟩ := hm
           refine g_cnv ⟨w0, M, _, _, φ⟩ (fun _ h => h) Try.call56 rfl rfl rfl (c_record_Get_c1 10 _ hx111) (fun _ _ => ?_)
           refine g_v rfl (r_extract rfl rfl) ?_
           refine g_v rfl (r_extract rfl rfl) ?_
           refine g_v rfl (r_extract rfl rfl) ?_
           refine g_storeL (tag := 100040) rfl rfl rfl rfl Try.sizeOf27 rfl rfl ?_
           refine g_v rfl r_assign ?_
           refine g_v rfl r_assign ?_
           refine g_nil ?_
           refine d_then ?_
           refine c_flat [(4, .pointer (some ⟨g1, 0, none⟩)), (5, .int .i64 x109), (6, .int .i64 x110)] ⟨rfl, rfl, rfl, trivial⟩ (fun u => ?_)
           refine c_sta ⟨w0, M, (100140, g67, .cells #[.int .i64 x65.fahead, .int .i64 x65.fnames, .int .i64 x65.fbehind] 90 (0, 0)) :: (100070, g2, .cells #[.string x3, .int .u16 x14, .int .u16 i27, .int .u32 i36, .string x54] 27 (0, 0)) :: (100040, g1, .cells #[.string x108.fName, .int .u16 x108.fType, .int .u16 x108.fClass, .int .u32 x108.fTTL, .string x108.fData] 27 (0, 0)) :: H, R, φ⟩ (fun _ h => h) ?_
           refine c_ret ?_
           refine d_ret_block ?_
           refine d_ret_then ?_
           refine d_ret_then ?_
           refine d_ret_then ?_
           replace hm := Option.some.inj hm
           subst hm
           refine d_retC () Try.results18 ?_ trivial (fun W h => ok_pre (H1 := [_, _, _]) (R1 := []) h (fun W hφ => hφ)) (.inr rfl)
           refine res_agg (tag := 100040) rfl rfl Try.isAgg27 Try.sizeOf27 ?_
           refine res_tmp ?_
           refine res_tmp ?_
           refine res_nil ?_
           exact rfl
          ·
           replace hm := ite_f hm (of_decide_eq_false h107)
           refine c_skip ?_
           refine d_normal_block ?_
           refine d_then ?_
           refine c_region ?_
           refine g_v rfl r_move ?_
           refine g_v rfl (r_field (n := 4) Try.underlying27 rfl Try.sizeOf9 rfl rfl) ?_
           refine g_storeL (tag := 100070) rfl rfl rfl rfl Try.sizeOf9 rfl rfl ?_
           refine g_nil ?_
           exact d_round x96 hm Nat.zero_lt_one ⟨rfl, rfl, rfl, rfl, trivial⟩ (fun W h => (h.dropH (t := 100140) rfl).phi (fun W hφ => hφ))
        ·
         replace hm := ite_f hm (of_decide_eq_false h95)
         refine c_skip ?_
         exact d_round x54 hm Nat.zero_lt_one ⟨rfl, rfl, rfl, rfl, trivial⟩ (fun W h => (h.dropH (t := 100140) rfl).phi (fun W hφ => hφ))
       ·
        unfold m_record_Get_j3 at hm
        refine d_flat [(4, .pointer (some ⟨g1, 0, none⟩)), (7, .pointer (some ⟨g2, 0, none⟩)), (8, .func (.func 56) #[] #[]), (13, .int .i64 x55)] ⟨rfl, rfl, rfl, rfl, trivial⟩ (fun u => ?_)
        refine d_sta ⟨w0, M, (100070, g2, .cells #[.string x3, .int .u16 x14, .int .u16 i27, .int .u32 i36, .string s86] 27 (0, 0)) :: (100040, g1, .cells #[.string (⟨#[]⟩ : ByteArray), .int .u16 0, .int .u16 0, .int .u32 0, .string (⟨#[]⟩ : ByteArray)] 27 (0, 0)) :: H, R, φ⟩ (fun _ h => h) ?_
        refine d_then ?_
        refine c_seq ?_
        refine c_region ?_
        refine g_v rfl (r_loadA (tag := 100070) rfl rfl Try.isAgg27 Try.sizeOf27 rfl rfl) ?_
        replace hm := bnd hm
        obtain ⟨x87, hx88, hm⟩ := hm
        refine g_cn ⟨w0, M, _, _, φ⟩ (fun _ h => h) Try.call31 rfl rfl (c_record_Check (⟨x3, x14, i27, i36, s86⟩ : GRR) _ hx88) (fun _ _ => ?_)
        refine g_v rfl r_assign ?_
        refine g_nil ?_
        refine d_then ?_
        refine c_seq ?_
        refine c_seq ?_
        refine c_region ?_
        refine g_v rfl r_move ?_
        refine g_v rfl (r_neq rfl rfl) ?_
        refine g_nil ?_
        refine d_then ?_
        refine c_cond rfl (fun h89 => ?_) (fun h89 => ?_)
        ·
         replace hm := ite_t hm (of_decide_eq_true h89)
         refine c_seq ?_
         refine c_region ?_
         refine g_v rfl r_move ?_
         refine g_v rfl r_move ?_
         replace hm := bnd hm
         obtain ⟨⟨x90, x91, x92⟩, hx93, hm⟩ := hm
         refine g_cnv ⟨w0, M, _, _, φ⟩ (fun _ h => h) Try.call56 rfl rfl rfl (c_record_Get_c1 x87 _ hx93) (fun _ _ => ?_)
         refine g_v rfl (r_extract rfl rfl) ?_
         refine g_v rfl (r_extract rfl rfl) ?_
         refine g_v rfl (r_extract rfl rfl) ?_
         refine g_storeL (tag := 100040) rfl rfl rfl rfl Try.sizeOf27 rfl rfl ?_
         refine g_v rfl r_assign ?_
         refine g_v rfl r_assign ?_
         refine g_nil ?_
         refine d_then ?_
         refine c_flat [(4, .pointer (some ⟨g1, 0, none⟩)), (5, .int .i64 x91), (6, .int .i64 x92)] ⟨rfl, rfl, rfl, trivial⟩ (fun u => ?_)
         refine c_sta ⟨w0, M, (100070, g2, .cells #[.string x3, .int .u16 x14, .int .u16 i27, .int .u32 i36, .string s86] 27 (0, 0)) :: (100040, g1, .cells #[.string x90.fName, .int .u16 x90.fType, .int .u16 x90.fClass, .int .u32 x90.fTTL, .string x90.fData] 27 (0, 0)) :: H, R, φ⟩ (fun _ h => h) ?_
         refine c_ret ?_
         refine d_ret_then ?_
         replace hm := Option.some.inj hm
         subst hm
         refine d_retC () Try.results18 ?_ trivial (fun W h => ok_pre (H1 := [_, _]) (R1 := []) h (fun W hφ => hφ)) (.inr rfl)
         refine res_agg (tag := 100040) rfl rfl Try.isAgg27 Try.sizeOf27 ?_
         refine res_tmp ?_
         refine res_tmp ?_
         refine res_nil ?_
         exact rfl
        ·
         replace hm := ite_f hm (of_decide_eq_false h89)
         refine c_skip ?_
         refine d_then ?_
         refine c_seq ?_
         refine c_region ?_
         refine g_v rfl (r_loadA (tag := 100070) rfl rfl Try.isAgg27 Try.sizeOf27 rfl rfl) ?_
         refine g_v rfl r_move ?_
         refine g_storeL (tag := 100040) rfl rfl rfl rfl Try.sizeOf27 rfl rfl ?_
         refine g_v rfl r_assign ?_
         refine g_v rfl r_assign ?_
         refine g_nil ?_
         refine d_then ?_
         refine c_flat [(4, .pointer (some ⟨g1, 0, none⟩)), (5, .int .i64 x55), (6, .int .i64 0)] ⟨rfl, rfl, rfl, trivial⟩ (fun u => ?_)
         refine c_sta ⟨w0, M, (100070, g2, .cells #[.string x3, .int .u16 x14, .int .u16 i27, .int .u32 i36, .string s86] 27 (0, 0)) :: (100040, g1, .cells #[.string x3, .int .u16 x14, .int .u16 i27, .int .u32 i36, .string s86] 27 (0, 0)) :: H, R, φ⟩ (fun _ h => h) ?_
         refine c_ret ?_
         replace hm := Option.some.inj hm
         subst hm
         refine d_retC () Try.results18 ?_ trivial (fun W h => ok_pre (H1 := [_, _]) (R1 := []) h (fun W hφ => hφ)) (.inr rfl)
         refine res_agg (tag := 100040) rfl rfl Try.isAgg27 Try.sizeOf27 ?_
         refine res_tmp ?_
         refine res_tmp ?_
         refine res_nil ?_
         exact rfl

theorem bld27_14 (z0 : ByteArray) (z1 : Int) (z2 : ByteArray) : ∀ W, (Instr.build 27 #[(0, .string z0), (1, .int .u16 z1), (4, .string z2)]).run Try.prog W = .ok (.agg #[.string z0, .int .u16 z1, .int .u16 0, .int .u32 0, .string z2]) W := fun _ => by kernel_rfl
theorem bld27_15 (z0 : ByteArray) (z1 : Int) : ∀ W, (Instr.build 27 #[(0, .string z0), (1, .int .u16 z1)]).run Try.prog W = .ok (.agg #[.string z0, .int .u16 z1, .int .u16 0, .int .u32 0, .string (⟨#[]⟩ : ByteArray)]) W := fun _ => by kernel_rfl
noncomputable def m_record_Life (p0 : Int) : Option Int :=
  if p0 / 2147483648 = 1 then
    some 0
  else
    some p0
theorem c_record_Life {w0 : World} {M : Nat → Prop} {H : List (Nat × Nat × Obj)} {R : List (Nat × Row)} {φ : World → Prop} (p0 : Int) (r : Int) (hm : m_record_Life p0 = some r) :
    Cn Try.prog 33 #[.int .u32 p0] ⟨w0, M, H, R, φ⟩ (fun x : Unit => .int .u32 r) (fun x => True) (fun x => ⟨w0, M, H, R, φ⟩) := by
 unfold m_record_Life at hm
 refine cn_intro (fn := Try.f33) (N := 7) Try.func33 rfl Try.ntmps33 rfl ?_
 refine c_seq ?_
 refine c_region ?_
 refine g_v rfl r_assign ?_
 refine g_nil ?_
 refine d_then ?_
 refine c_seq ?_
 refine c_seq ?_
 refine c_region ?_
 refine g_v rfl r_move ?_
 refine g_v rfl (r_shr (n := 2147483648) rfl rfl (by decide) (by decide) (by decide)) ?_
 refine g_v rfl (r_eql rfl rfl) ?_
 refine g_nil ?_
 refine d_then ?_
 refine c_cond rfl (fun h1 => ?_) (fun h1 => ?_)
 ·
  replace hm := ite_t hm (of_decide_eq_true h1)
  refine c_seq ?_
  refine c_region ?_
  refine g_v rfl r_assign ?_
  refine g_nil ?_
  refine d_then ?_
  refine c_ret ?_
  refine d_ret_then ?_
  replace hm := Option.some.inj hm
  subst hm
  refine d_retC () Try.results33 ?_ trivial (fun W h => ok_pre (H1 := []) (R1 := []) h (fun W hφ => hφ)) (.inr rfl)
  refine res_tmp ?_
  refine res_nil ?_
  exact rfl
 ·
  replace hm := ite_f hm (of_decide_eq_false h1)
  refine c_skip ?_
  refine d_then ?_
  refine c_seq ?_
  refine c_region ?_
  refine g_v rfl r_move ?_
  refine g_v rfl r_assign ?_
  refine g_nil ?_
  refine d_then ?_
  refine c_ret ?_
  replace hm := Option.some.inj hm
  subst hm
  refine d_retC () Try.results33 ?_ trivial (fun W h => ok_pre (H1 := []) (R1 := []) h (fun W hφ => hφ)) (.inr rfl)
  refine res_tmp ?_
  refine res_nil ?_
  exact rfl

noncomputable def m_law05_awake  : Option Bool :=
  (m_pack_New).bind fun x1 =>
  (m_record_Put (⟨(⟨#[3, 119, 119, 119, 1, 97, 0]⟩ : ByteArray), 1, 1, 60, (⟨#[1, 2, 3, 4]⟩ : ByteArray)⟩ : GRR) x1).bind fun (z19 : Int × Gpack_Packer) =>
  (m_pack_Packer_Bytes z19.2).bind fun x20 =>
  (m_record_Get x20 0).bind fun (z26 : GRR × Int × Int) =>
  if z19.1 = 0 then
    if x20 = (⟨#[3, 119, 119, 119, 1, 97, 0, 0, 1, 0, 1, 0, 0, 0, 60, 0, 4, 1, 2, 3, 4]⟩ : ByteArray) then
      if z26.2.2 = 0 then
        if z26.2.1 = (x20.size : Int) then
          if z26.1.fTTL = 60 then
            (m_record_Check (⟨(⟨#[0]⟩ : ByteArray), 1, 0, 0, (⟨#[97, 98, 99]⟩ : ByteArray)⟩ : GRR)).bind fun x33 =>
            if x33 = 10 then
              (m_record_Check (⟨(⟨#[0]⟩ : ByteArray), 16, 0, 0, (⟨#[]⟩ : ByteArray)⟩ : GRR)).bind fun x36 =>
              if x36 = 10 then
                (m_record_Life 2147483648).bind fun x39 =>
                if x39 = 0 then
                  (m_record_Life 2147483647).bind fun x42 =>
                  some (decide (x42 = 2147483647))
                else
                  some false
              else
                some false
            else
              some false
          else
            some false
        else
          some false
      else
        some false
    else
      some false
  else
    some false
theorem c_law05_awake {w0 : World} {M : Nat → Prop} {H : List (Nat × Nat × Obj)} {R : List (Nat × Row)} {φ : World → Prop}  (r : Bool) (hm : m_law05_awake = some r) :
    Cn Try.prog 16 #[] ⟨w0, M, H, R, φ⟩ (fun x : Unit => .bool r) (fun x => True) (fun x => ⟨w0, M, H, R, φ⟩) := by
 unfold m_law05_awake at hm
 refine cn_intro (fn := Try.f16) (N := 60) Try.func16 rfl Try.ntmps16 rfl ?_
 refine c_seq ?_
 refine c_region ?_
 refine g_v rfl r_assign ?_
 refine g_nil ?_
 refine d_then ?_
 refine c_seq ?_
 refine c_region ?_
 replace hm := bnd hm
 obtain ⟨x1, hx2, hm⟩ := hm
 refine g_cn ⟨w0, M, _, _, φ⟩ (fun _ h => h) Try.call20 rfl rfl (c_pack_New  _ hx2) (fun ⟨A3, c4, A6, c7, g9⟩ ⟨hc4, hc7⟩ => ?_)
 refine g_sta _ (fun W h => (ok_frontR (t := 2000) (t' := 100070) (ok_frontR (t := 2001) (t' := 100071) (ok_front (t := 3000) (t' := 100075) h rfl) rfl) rfl)) ?_
 refine g_v rfl r_assign ?_
 refine g_nil ?_
 refine d_then ?_
 refine c_seq ?_
 refine c_seq ?_
 refine c_region ?_
 refine g_v rfl r_move ?_
 refine g_v rfl (r_eqlP1 Try.underlying33 rfl rfl) ?_
 refine g_nil ?_
 refine d_then ?_
 refine c_cond0 rfl rfl ?_
 refine c_skip ?_
 refine d_then ?_
 refine c_seq ?_
 refine c_region ?_
 refine g_v rfl r_move ?_
 refine g_v rfl (r_build _ rfl (bld27_1 _ _ _ _ _)) ?_
 replace hm := bnd hm
 obtain ⟨⟨x10, x11⟩, hx12, hm⟩ := hm
 refine g_cn ⟨w0, M, (1000, g9, .cells #[.slice A3 x1.fb.length c4, mapV A6] 100 (0, 0)) :: H, (1000, ⟨.slice A3 x1.fb.length c4, 5, 1, x1.fb.length, x1.fb.flatMap (fun x : Int => [Value.int .u8 x])⟩) :: (1001, ⟨mapV A6, 98, 2, x1.fplaces.length, x1.fplaces.flatMap (mcell (fun x : ByteArray => Value.string x) (fun x : Int => Value.int .i64 x))⟩) :: R, φ⟩ (fun W h => (ok_front (t := 100075) (t' := 1000) (ok_frontR (t := 100070) (t' := 1000) (ok_frontR (t := 100071) (t' := 1001) h rfl) rfl) rfl)) Try.call23 rfl rfl (c_record_Put (⟨(⟨#[3, 119, 119, 119, 1, 97, 0]⟩ : ByteArray), 1, 1, 60, (⟨#[1, 2, 3, 4]⟩ : ByteArray)⟩ : GRR) g9 x1 A3 c4 hc4 A6 c7 trivial _ hx12) (fun ⟨A13, c14, A16, c17⟩ ⟨hc14, hc17⟩ => ?_)
 refine g_sta _ (fun W h => (ok_frontR (t := 2000) (t' := 100070) (ok_frontR (t := 2001) (t' := 100071) (ok_front (t := 1000) (t' := 100075) h rfl) rfl) rfl)) ?_
 refine g_v rfl r_assign ?_
 refine g_nil ?_
 refine d_then ?_
 refine c_flat [(1, .pointer (some ⟨g9, 0, none⟩)), (2, .int .i64 x10)] ⟨rfl, rfl, trivial⟩ (fun u => ?_)
 refine c_sta ⟨w0, M, (100075, g9, .cells #[.slice A13 x11.fb.length c14, mapV A16] 100 (0, 0)) :: H, (100070, ⟨.slice A13 x11.fb.length c14, 5, 1, x11.fb.length, x11.fb.flatMap (fun x : Int => [Value.int .u8 x])⟩) :: (100071, ⟨mapV A16, 98, 2, x11.fplaces.length, x11.fplaces.flatMap (mcell (fun x : ByteArray => Value.string x) (fun x : Int => Value.int .i64 x))⟩) :: R, φ⟩ (fun _ h => h) ?_
 refine c_seq ?_
 refine c_region ?_
 refine g_v rfl r_move ?_
 replace hm := bnd hm
 obtain ⟨x20, hx21, hm⟩ := hm
 refine g_cn ⟨w0, M, (1000, g9, .cells #[.slice A13 x11.fb.length c14, mapV A16] 100 (0, 0)) :: H, (1000, ⟨.slice A13 x11.fb.length c14, 5, 1, x11.fb.length, x11.fb.flatMap (fun x : Int => [Value.int .u8 x])⟩) :: (1001, ⟨mapV A16, 98, 2, x11.fplaces.length, x11.fplaces.flatMap (mcell (fun x : ByteArray => Value.string x) (fun x : Int => Value.int .i64 x))⟩) :: R, φ⟩ (fun W h => (ok_front (t := 100075) (t' := 1000) (ok_frontR (t := 100070) (t' := 1000) (ok_frontR (t := 100071) (t' := 1001) h rfl) rfl) rfl)) Try.call26 rfl rfl (c_pack_Packer_Bytes g9 x11 A13 c14 hc14 A16 c17 trivial _ hx21) (fun _ _ => ?_)
 refine g_sta _ (fun W h => (ok_frontR (t := 1000) (t' := 100070) (ok_frontR (t := 1001) (t' := 100071) (ok_front (t := 1000) (t' := 100075) h rfl) rfl) rfl)) ?_
 refine g_v rfl r_assign ?_
 refine g_nil ?_
 refine d_then ?_
 refine c_seq ?_
 refine c_region ?_
 refine g_v rfl r_move ?_
 replace hm := bnd hm
 obtain ⟨⟨x22, x23, x24⟩, hx25, hm⟩ := hm
 refine g_cn ⟨w0, M, _, _, φ⟩ (fun _ h => h) Try.call18 rfl rfl (c_record_Get x20 0 _ hx25) (fun _ _ => ?_)
 refine g_v rfl r_move ?_
 refine g_v rfl (r_extract rfl rfl) ?_
 refine g_v rfl (r_extract rfl rfl) ?_
 refine g_v rfl (r_extract rfl rfl) ?_
 refine g_e rfl (e_alloc 100040 Try.zeroValue27) (fun g27 _ => ?_)
 refine g_storeL (tag := 100040) rfl rfl rfl rfl Try.sizeOf27 rfl rfl ?_
 refine g_v rfl r_assign ?_
 refine g_v rfl r_assign ?_
 refine g_nil ?_
 refine d_then ?_
 refine c_flat [(2, .int .i64 x10), (3, .string x20), (4, .pointer (some ⟨g27, 0, none⟩)), (5, .int .i64 x23), (6, .int .i64 x24)] ⟨rfl, rfl, rfl, rfl, rfl, trivial⟩ (fun u => ?_)
 refine c_sta ⟨w0, M, (100040, g27, .cells #[.string x22.fName, .int .u16 x22.fType, .int .u16 x22.fClass, .int .u32 x22.fTTL, .string x22.fData] 27 (0, 0)) :: (100075, g9, .cells #[.slice A13 x11.fb.length c14, mapV A16] 100 (0, 0)) :: H, (100070, ⟨.slice A13 x11.fb.length c14, 5, 1, x11.fb.length, x11.fb.flatMap (fun x : Int => [Value.int .u8 x])⟩) :: (100071, ⟨mapV A16, 98, 2, x11.fplaces.length, x11.fplaces.flatMap (mcell (fun x : ByteArray => Value.string x) (fun x : Int => Value.int .i64 x))⟩) :: R, φ⟩ (fun _ h => h) ?_
 refine c_seq ?_
 refine c_region ?_
 refine g_v rfl r_move ?_
 refine g_v rfl (r_eql rfl rfl) ?_
 refine g_v rfl r_move ?_
 refine g_if rfl rfl rfl rfl rfl (fun h28 => ?_) (fun h28 => ?_)
 ·
  replace hm := ite_t hm (of_decide_eq_true h28)
  refine g_v rfl r_move ?_
  refine g_do rfl rfl rfl rfl rfl h28 ?_
  refine g_v rfl (r_eqlT rfl rfl) ?_
  refine g_v rfl (r_pick1 rfl h28) ?_
  refine g_v rfl r_move ?_
  refine g_if rfl rfl rfl rfl rfl (fun h29 => ?_) (fun h29 => ?_)
  ·
   replace hm := ite_t hm (of_decide_eq_true h29)
   refine g_v rfl r_move ?_
   refine g_do rfl rfl rfl rfl rfl h29 ?_
   refine g_v rfl (r_eql rfl rfl) ?_
   refine g_v rfl (r_pick1 rfl h29) ?_
   refine g_v rfl r_move ?_
   refine g_if rfl rfl rfl rfl rfl (fun h30 => ?_) (fun h30 => ?_)
   ·
    replace hm := ite_t hm (of_decide_eq_true h30)
    refine g_v rfl r_move ?_
    refine g_do rfl rfl rfl rfl rfl h30 ?_
    refine g_v rfl r_move ?_
    refine g_do rfl rfl rfl rfl rfl h30 ?_
    refine g_v rfl (r_len Try.underlying9 rfl) ?_
    refine g_do rfl rfl rfl rfl rfl h30 ?_
    refine g_v rfl (r_eql rfl rfl) ?_
    refine g_v rfl (r_pick1 rfl h30) ?_
    refine g_v rfl r_move ?_
    refine g_if rfl rfl rfl rfl rfl (fun h31 => ?_) (fun h31 => ?_)
    ·
     replace hm := ite_t hm (of_decide_eq_true h31)
     refine g_v rfl (r_field (n := 3) Try.underlying27 rfl Try.sizeOf25 rfl rfl) ?_
     refine g_do rfl rfl rfl rfl rfl h31 ?_
     refine g_v rfl (r_load (tag := 100040) rfl rfl rfl Try.isAgg25) ?_
     refine g_do rfl rfl rfl rfl rfl h31 ?_
     refine g_v rfl (r_eql rfl rfl) ?_
     refine g_v rfl (r_pick1 rfl h31) ?_
     refine g_v rfl r_move ?_
     refine g_if rfl rfl rfl rfl rfl (fun h32 => ?_) (fun h32 => ?_)
     ·
      replace hm := ite_t hm (of_decide_eq_true h32)
      refine g_v rfl (r_build _ rfl (bld27_14 _ _ _)) ?_
      refine g_do rfl rfl rfl rfl rfl h32 ?_
      replace hm := bnd hm
      obtain ⟨x33, hx34, hm⟩ := hm
      refine g_cn ⟨w0, M, _, _, φ⟩ (fun _ h => h) Try.call31 rfl rfl (c_record_Check (⟨(⟨#[0]⟩ : ByteArray), 1, 0, 0, (⟨#[97, 98, 99]⟩ : ByteArray)⟩ : GRR) _ hx34) (fun _ _ => ?_)
      refine g_do rfl rfl rfl rfl rfl h32 ?_
      refine g_v rfl (r_eql rfl rfl) ?_
      refine g_v rfl (r_pick1 rfl h32) ?_
      refine g_v rfl r_move ?_
      refine g_if rfl rfl rfl rfl rfl (fun h35 => ?_) (fun h35 => ?_)
      ·
       replace hm := ite_t hm (of_decide_eq_true h35)
       refine g_v rfl (r_build _ rfl (bld27_15 _ _)) ?_
       refine g_do rfl rfl rfl rfl rfl h35 ?_
       replace hm := bnd hm
       obtain ⟨x36, hx37, hm⟩ := hm
       refine g_cn ⟨w0, M, _, _, φ⟩ (fun _ h => h) Try.call31 rfl rfl (c_record_Check (⟨(⟨#[0]⟩ : ByteArray), 16, 0, 0, (⟨#[]⟩ : ByteArray)⟩ : GRR) _ hx37) (fun _ _ => ?_)
       refine g_do rfl rfl rfl rfl rfl h35 ?_
       refine g_v rfl (r_eql rfl rfl) ?_
       refine g_v rfl (r_pick1 rfl h35) ?_
       refine g_v rfl r_move ?_
       refine g_if rfl rfl rfl rfl rfl (fun h38 => ?_) (fun h38 => ?_)
       ·
        replace hm := ite_t hm (of_decide_eq_true h38)
        replace hm := bnd hm
        obtain ⟨x39, hx40, hm⟩ := hm
        refine g_cn ⟨w0, M, _, _, φ⟩ (fun _ h => h) Try.call33 rfl rfl (c_record_Life 2147483648 _ hx40) (fun _ _ => ?_)
        refine g_do rfl rfl rfl rfl rfl h38 ?_
        refine g_v rfl (r_eql rfl rfl) ?_
        refine g_v rfl (r_pick1 rfl h38) ?_
        refine g_v rfl r_move ?_
        refine g_if rfl rfl rfl rfl rfl (fun h41 => ?_) (fun h41 => ?_)
        ·
         replace hm := ite_t hm (of_decide_eq_true h41)
         replace hm := bnd hm
         obtain ⟨x42, hx43, hm⟩ := hm
         refine g_cn ⟨w0, M, _, _, φ⟩ (fun _ h => h) Try.call33 rfl rfl (c_record_Life 2147483647 _ hx43) (fun _ _ => ?_)
         refine g_do rfl rfl rfl rfl rfl h41 ?_
         refine g_v rfl (r_eql rfl rfl) ?_
         refine g_v rfl (r_pick1 rfl h41) ?_
         refine g_v rfl r_assign ?_
         refine g_nil ?_
         refine d_then ?_
         refine c_flat [(0, .bool (decide (x42 = 2147483647)))] ⟨rfl, trivial⟩ (fun u => ?_)
         refine c_sta ⟨w0, M, (100040, g27, .cells #[.string x22.fName, .int .u16 x22.fType, .int .u16 x22.fClass, .int .u32 x22.fTTL, .string x22.fData] 27 (0, 0)) :: (100075, g9, .cells #[.slice A13 x11.fb.length c14, mapV A16] 100 (0, 0)) :: H, (100070, ⟨.slice A13 x11.fb.length c14, 5, 1, x11.fb.length, x11.fb.flatMap (fun x : Int => [Value.int .u8 x])⟩) :: (100071, ⟨mapV A16, 98, 2, x11.fplaces.length, x11.fplaces.flatMap (mcell (fun x : ByteArray => Value.string x) (fun x : Int => Value.int .i64 x))⟩) :: R, φ⟩ (fun _ h => h) ?_
         refine c_ret ?_
         replace hm := Option.some.inj hm
         subst hm
         refine d_retC () Try.results16 ?_ trivial (fun W h => ok_pre (H1 := [_, _]) (R1 := [_, _]) h (fun W hφ => hφ)) (.inr rfl)
         refine res_tmp ?_
         refine res_nil ?_
         exact rfl
        ·
         replace hm := ite_f hm (of_decide_eq_false h41)
         refine g_no rfl rfl rfl rfl rfl h41 ?_
         refine g_v rfl (r_pick0 rfl h41) ?_
         refine g_v rfl r_assign ?_
         refine g_nil ?_
         refine d_then ?_
         refine c_flat [(0, .bool false)] ⟨rfl, trivial⟩ (fun u => ?_)
         refine c_sta ⟨w0, M, (100040, g27, .cells #[.string x22.fName, .int .u16 x22.fType, .int .u16 x22.fClass, .int .u32 x22.fTTL, .string x22.fData] 27 (0, 0)) :: (100075, g9, .cells #[.slice A13 x11.fb.length c14, mapV A16] 100 (0, 0)) :: H, (100070, ⟨.slice A13 x11.fb.length c14, 5, 1, x11.fb.length, x11.fb.flatMap (fun x : Int => [Value.int .u8 x])⟩) :: (100071, ⟨mapV A16, 98, 2, x11.fplaces.length, x11.fplaces.flatMap (mcell (fun x : ByteArray => Value.string x) (fun x : Int => Value.int .i64 x))⟩) :: R, φ⟩ (fun _ h => h) ?_
         refine c_ret ?_
         replace hm := Option.some.inj hm
         subst hm
         refine d_retC () Try.results16 ?_ trivial (fun W h => ok_pre (H1 := [_, _]) (R1 := [_, _]) h (fun W hφ => hφ)) (.inr rfl)
         refine res_tmp ?_
         refine res_nil ?_
         exact rfl
       ·
        replace hm := ite_f hm (of_decide_eq_false h38)
        refine g_no rfl rfl rfl rfl rfl h38 ?_
        refine g_v rfl (r_pick0 rfl h38) ?_
        refine g_v rfl r_move ?_
        refine g_no rfl rfl rfl rfl rfl rfl ?_
        refine g_no rfl rfl rfl rfl rfl rfl ?_
        refine g_v rfl (r_pick0 rfl rfl) ?_
        refine g_v rfl r_assign ?_
        refine g_nil ?_
        refine d_then ?_
        refine c_flat [(0, .bool false)] ⟨rfl, trivial⟩ (fun u => ?_)
        refine c_sta ⟨w0, M, (100040, g27, .cells #[.string x22.fName, .int .u16 x22.fType, .int .u16 x22.fClass, .int .u32 x22.fTTL, .string x22.fData] 27 (0, 0)) :: (100075, g9, .cells #[.slice A13 x11.fb.length c14, mapV A16] 100 (0, 0)) :: H, (100070, ⟨.slice A13 x11.fb.length c14, 5, 1, x11.fb.length, x11.fb.flatMap (fun x : Int => [Value.int .u8 x])⟩) :: (100071, ⟨mapV A16, 98, 2, x11.fplaces.length, x11.fplaces.flatMap (mcell (fun x : ByteArray => Value.string x) (fun x : Int => Value.int .i64 x))⟩) :: R, φ⟩ (fun _ h => h) ?_
        refine c_ret ?_
        replace hm := Option.some.inj hm
        subst hm
        refine d_retC () Try.results16 ?_ trivial (fun W h => ok_pre (H1 := [_, _]) (R1 := [_, _]) h (fun W hφ => hφ)) (.inr rfl)
        refine res_tmp ?_
        refine res_nil ?_
        exact rfl
      ·
       replace hm := ite_f hm (of_decide_eq_false h35)
       refine g_no rfl rfl rfl rfl rfl h35 ?_
       refine g_no rfl rfl rfl rfl rfl h35 ?_
       refine g_v rfl (r_pick0 rfl h35) ?_
       refine g_v rfl r_move ?_
       refine g_no rfl rfl rfl rfl rfl rfl ?_
       refine g_no rfl rfl rfl rfl rfl rfl ?_
       refine g_v rfl (r_pick0 rfl rfl) ?_
       refine g_v rfl r_move ?_
       refine g_no rfl rfl rfl rfl rfl rfl ?_
       refine g_no rfl rfl rfl rfl rfl rfl ?_
       refine g_v rfl (r_pick0 rfl rfl) ?_
       refine g_v rfl r_assign ?_
       refine g_nil ?_
       refine d_then ?_
       refine c_flat [(0, .bool false)] ⟨rfl, trivial⟩ (fun u => ?_)
       refine c_sta ⟨w0, M, (100040, g27, .cells #[.string x22.fName, .int .u16 x22.fType, .int .u16 x22.fClass, .int .u32 x22.fTTL, .string x22.fData] 27 (0, 0)) :: (100075, g9, .cells #[.slice A13 x11.fb.length c14, mapV A16] 100 (0, 0)) :: H, (100070, ⟨.slice A13 x11.fb.length c14, 5, 1, x11.fb.length, x11.fb.flatMap (fun x : Int => [Value.int .u8 x])⟩) :: (100071, ⟨mapV A16, 98, 2, x11.fplaces.length, x11.fplaces.flatMap (mcell (fun x : ByteArray => Value.string x) (fun x : Int => Value.int .i64 x))⟩) :: R, φ⟩ (fun _ h => h) ?_
       refine c_ret ?_
       replace hm := Option.some.inj hm
       subst hm
       refine d_retC () Try.results16 ?_ trivial (fun W h => ok_pre (H1 := [_, _]) (R1 := [_, _]) h (fun W hφ => hφ)) (.inr rfl)
       refine res_tmp ?_
       refine res_nil ?_
       exact rfl
     ·
      replace hm := ite_f hm (of_decide_eq_false h32)
      refine g_no rfl rfl rfl rfl rfl h32 ?_
      refine g_no rfl rfl rfl rfl rfl h32 ?_
      refine g_v rfl (r_pick0 rfl h32) ?_
      refine g_v rfl r_move ?_
      refine g_no rfl rfl rfl rfl rfl rfl ?_
      refine g_no rfl rfl rfl rfl rfl rfl ?_
      refine g_no rfl rfl rfl rfl rfl rfl ?_
      refine g_v rfl (r_pick0 rfl rfl) ?_
      refine g_v rfl r_move ?_
      refine g_no rfl rfl rfl rfl rfl rfl ?_
      refine g_no rfl rfl rfl rfl rfl rfl ?_
      refine g_v rfl (r_pick0 rfl rfl) ?_
      refine g_v rfl r_move ?_
      refine g_no rfl rfl rfl rfl rfl rfl ?_
      refine g_no rfl rfl rfl rfl rfl rfl ?_
      refine g_v rfl (r_pick0 rfl rfl) ?_
      refine g_v rfl r_assign ?_
      refine g_nil ?_
      refine d_then ?_
      refine c_flat [(0, .bool false)] ⟨rfl, trivial⟩ (fun u => ?_)
      refine c_sta ⟨w0, M, (100040, g27, .cells #[.string x22.fName, .int .u16 x22.fType, .int .u16 x22.fClass, .int .u32 x22.fTTL, .string x22.fData] 27 (0, 0)) :: (100075, g9, .cells #[.slice A13 x11.fb.length c14, mapV A16] 100 (0, 0)) :: H, (100070, ⟨.slice A13 x11.fb.length c14, 5, 1, x11.fb.length, x11.fb.flatMap (fun x : Int => [Value.int .u8 x])⟩) :: (100071, ⟨mapV A16, 98, 2, x11.fplaces.length, x11.fplaces.flatMap (mcell (fun x : ByteArray => Value.string x) (fun x : Int => Value.int .i64 x))⟩) :: R, φ⟩ (fun _ h => h) ?_
      refine c_ret ?_
      replace hm := Option.some.inj hm
      subst hm
      refine d_retC () Try.results16 ?_ trivial (fun W h => ok_pre (H1 := [_, _]) (R1 := [_, _]) h (fun W hφ => hφ)) (.inr rfl)
      refine res_tmp ?_
      refine res_nil ?_
      exact rfl
    ·
     replace hm := ite_f hm (of_decide_eq_false h31)
     refine g_no rfl rfl rfl rfl rfl h31 ?_
     refine g_no rfl rfl rfl rfl rfl h31 ?_
     refine g_v rfl (r_pick0 rfl h31) ?_
     refine g_v rfl r_move ?_
     refine g_no rfl rfl rfl rfl rfl rfl ?_
     refine g_no rfl rfl rfl rfl rfl rfl ?_
     refine g_no rfl rfl rfl rfl rfl rfl ?_
     refine g_v rfl (r_pick0 rfl rfl) ?_
     refine g_v rfl r_move ?_
     refine g_no rfl rfl rfl rfl rfl rfl ?_
     refine g_no rfl rfl rfl rfl rfl rfl ?_
     refine g_no rfl rfl rfl rfl rfl rfl ?_
     refine g_v rfl (r_pick0 rfl rfl) ?_
     refine g_v rfl r_move ?_
     refine g_no rfl rfl rfl rfl rfl rfl ?_
     refine g_no rfl rfl rfl rfl rfl rfl ?_
     refine g_v rfl (r_pick0 rfl rfl) ?_
     refine g_v rfl r_move ?_
     refine g_no rfl rfl rfl rfl rfl rfl ?_
     refine g_no rfl rfl rfl rfl rfl rfl ?_
     refine g_v rfl (r_pick0 rfl rfl) ?_
     refine g_v rfl r_assign ?_
     refine g_nil ?_
     refine d_then ?_
     refine c_flat [(0, .bool false)] ⟨rfl, trivial⟩ (fun u => ?_)
     refine c_sta ⟨w0, M, (100040, g27, .cells #[.string x22.fName, .int .u16 x22.fType, .int .u16 x22.fClass, .int .u32 x22.fTTL, .string x22.fData] 27 (0, 0)) :: (100075, g9, .cells #[.slice A13 x11.fb.length c14, mapV A16] 100 (0, 0)) :: H, (100070, ⟨.slice A13 x11.fb.length c14, 5, 1, x11.fb.length, x11.fb.flatMap (fun x : Int => [Value.int .u8 x])⟩) :: (100071, ⟨mapV A16, 98, 2, x11.fplaces.length, x11.fplaces.flatMap (mcell (fun x : ByteArray => Value.string x) (fun x : Int => Value.int .i64 x))⟩) :: R, φ⟩ (fun _ h => h) ?_
     refine c_ret ?_
     replace hm := Option.some.inj hm
     subst hm
     refine d_retC () Try.results16 ?_ trivial (fun W h => ok_pre (H1 := [_, _]) (R1 := [_, _]) h (fun W hφ => hφ)) (.inr rfl)
     refine res_tmp ?_
     refine res_nil ?_
     exact rfl
   ·
    replace hm := ite_f hm (of_decide_eq_false h30)
    refine g_no rfl rfl rfl rfl rfl h30 ?_
    refine g_no rfl rfl rfl rfl rfl h30 ?_
    refine g_no rfl rfl rfl rfl rfl h30 ?_
    refine g_v rfl (r_pick0 rfl h30) ?_
    refine g_v rfl r_move ?_
    refine g_no rfl rfl rfl rfl rfl rfl ?_
    refine g_no rfl rfl rfl rfl rfl rfl ?_
    refine g_no rfl rfl rfl rfl rfl rfl ?_
    refine g_v rfl (r_pick0 rfl rfl) ?_
    refine g_v rfl r_move ?_
    refine g_no rfl rfl rfl rfl rfl rfl ?_
    refine g_no rfl rfl rfl rfl rfl rfl ?_
    refine g_no rfl rfl rfl rfl rfl rfl ?_
    refine g_v rfl (r_pick0 rfl rfl) ?_
    refine g_v rfl r_move ?_
    refine g_no rfl rfl rfl rfl rfl rfl ?_
    refine g_no rfl rfl rfl rfl rfl rfl ?_
    refine g_no rfl rfl rfl rfl rfl rfl ?_
    refine g_v rfl (r_pick0 rfl rfl) ?_
    refine g_v rfl r_move ?_
    refine g_no rfl rfl rfl rfl rfl rfl ?_
    refine g_no rfl rfl rfl rfl rfl rfl ?_
    refine g_v rfl (r_pick0 rfl rfl) ?_
    refine g_v rfl r_move ?_
    refine g_no rfl rfl rfl rfl rfl rfl ?_
    refine g_no rfl rfl rfl rfl rfl rfl ?_
    refine g_v rfl (r_pick0 rfl rfl) ?_
    refine g_v rfl r_assign ?_
    refine g_nil ?_
    refine d_then ?_
    refine c_flat [(0, .bool false)] ⟨rfl, trivial⟩ (fun u => ?_)
    refine c_sta ⟨w0, M, (100040, g27, .cells #[.string x22.fName, .int .u16 x22.fType, .int .u16 x22.fClass, .int .u32 x22.fTTL, .string x22.fData] 27 (0, 0)) :: (100075, g9, .cells #[.slice A13 x11.fb.length c14, mapV A16] 100 (0, 0)) :: H, (100070, ⟨.slice A13 x11.fb.length c14, 5, 1, x11.fb.length, x11.fb.flatMap (fun x : Int => [Value.int .u8 x])⟩) :: (100071, ⟨mapV A16, 98, 2, x11.fplaces.length, x11.fplaces.flatMap (mcell (fun x : ByteArray => Value.string x) (fun x : Int => Value.int .i64 x))⟩) :: R, φ⟩ (fun _ h => h) ?_
    refine c_ret ?_
    replace hm := Option.some.inj hm
    subst hm
    refine d_retC () Try.results16 ?_ trivial (fun W h => ok_pre (H1 := [_, _]) (R1 := [_, _]) h (fun W hφ => hφ)) (.inr rfl)
    refine res_tmp ?_
    refine res_nil ?_
    exact rfl
  ·
   replace hm := ite_f hm (of_decide_eq_false h29)
   refine g_no rfl rfl rfl rfl rfl h29 ?_
   refine g_v rfl (r_pick0 rfl h29) ?_
   refine g_v rfl r_move ?_
   refine g_no rfl rfl rfl rfl rfl rfl ?_
   refine g_no rfl rfl rfl rfl rfl rfl ?_
   refine g_no rfl rfl rfl rfl rfl rfl ?_
   refine g_no rfl rfl rfl rfl rfl rfl ?_
   refine g_v rfl (r_pick0 rfl rfl) ?_
   refine g_v rfl r_move ?_
   refine g_no rfl rfl rfl rfl rfl rfl ?_
   refine g_no rfl rfl rfl rfl rfl rfl ?_
   refine g_no rfl rfl rfl rfl rfl rfl ?_
   refine g_v rfl (r_pick0 rfl rfl) ?_
   refine g_v rfl r_move ?_
   refine g_no rfl rfl rfl rfl rfl rfl ?_
   refine g_no rfl rfl rfl rfl rfl rfl ?_
   refine g_no rfl rfl rfl rfl rfl rfl ?_
   refine g_v rfl (r_pick0 rfl rfl) ?_
   refine g_v rfl r_move ?_
   refine g_no rfl rfl rfl rfl rfl rfl ?_
   refine g_no rfl rfl rfl rfl rfl rfl ?_
   refine g_no rfl rfl rfl rfl rfl rfl ?_
   refine g_v rfl (r_pick0 rfl rfl) ?_
   refine g_v rfl r_move ?_
   refine g_no rfl rfl rfl rfl rfl rfl ?_
   refine g_no rfl rfl rfl rfl rfl rfl ?_
   refine g_v rfl (r_pick0 rfl rfl) ?_
   refine g_v rfl r_move ?_
   refine g_no rfl rfl rfl rfl rfl rfl ?_
   refine g_no rfl rfl rfl rfl rfl rfl ?_
   refine g_v rfl (r_pick0 rfl rfl) ?_
   refine g_v rfl r_assign ?_
   refine g_nil ?_
   refine d_then ?_
   refine c_flat [(0, .bool false)] ⟨rfl, trivial⟩ (fun u => ?_)
   refine c_sta ⟨w0, M, (100040, g27, .cells #[.string x22.fName, .int .u16 x22.fType, .int .u16 x22.fClass, .int .u32 x22.fTTL, .string x22.fData] 27 (0, 0)) :: (100075, g9, .cells #[.slice A13 x11.fb.length c14, mapV A16] 100 (0, 0)) :: H, (100070, ⟨.slice A13 x11.fb.length c14, 5, 1, x11.fb.length, x11.fb.flatMap (fun x : Int => [Value.int .u8 x])⟩) :: (100071, ⟨mapV A16, 98, 2, x11.fplaces.length, x11.fplaces.flatMap (mcell (fun x : ByteArray => Value.string x) (fun x : Int => Value.int .i64 x))⟩) :: R, φ⟩ (fun _ h => h) ?_
   refine c_ret ?_
   replace hm := Option.some.inj hm
   subst hm
   refine d_retC () Try.results16 ?_ trivial (fun W h => ok_pre (H1 := [_, _]) (R1 := [_, _]) h (fun W hφ => hφ)) (.inr rfl)
   refine res_tmp ?_
   refine res_nil ?_
   exact rfl
 ·
  replace hm := ite_f hm (of_decide_eq_false h28)
  refine g_no rfl rfl rfl rfl rfl h28 ?_
  refine g_v rfl (r_pick0 rfl h28) ?_
  refine g_v rfl r_move ?_
  refine g_no rfl rfl rfl rfl rfl rfl ?_
  refine g_no rfl rfl rfl rfl rfl rfl ?_
  refine g_v rfl (r_pick0 rfl rfl) ?_
  refine g_v rfl r_move ?_
  refine g_no rfl rfl rfl rfl rfl rfl ?_
  refine g_no rfl rfl rfl rfl rfl rfl ?_
  refine g_no rfl rfl rfl rfl rfl rfl ?_
  refine g_no rfl rfl rfl rfl rfl rfl ?_
  refine g_v rfl (r_pick0 rfl rfl) ?_
  refine g_v rfl r_move ?_
  refine g_no rfl rfl rfl rfl rfl rfl ?_
  refine g_no rfl rfl rfl rfl rfl rfl ?_
  refine g_no rfl rfl rfl rfl rfl rfl ?_
  refine g_v rfl (r_pick0 rfl rfl) ?_
  refine g_v rfl r_move ?_
  refine g_no rfl rfl rfl rfl rfl rfl ?_
  refine g_no rfl rfl rfl rfl rfl rfl ?_
  refine g_no rfl rfl rfl rfl rfl rfl ?_
  refine g_v rfl (r_pick0 rfl rfl) ?_
  refine g_v rfl r_move ?_
  refine g_no rfl rfl rfl rfl rfl rfl ?_
  refine g_no rfl rfl rfl rfl rfl rfl ?_
  refine g_no rfl rfl rfl rfl rfl rfl ?_
  refine g_v rfl (r_pick0 rfl rfl) ?_
  refine g_v rfl r_move ?_
  refine g_no rfl rfl rfl rfl rfl rfl ?_
  refine g_no rfl rfl rfl rfl rfl rfl ?_
  refine g_v rfl (r_pick0 rfl rfl) ?_
  refine g_v rfl r_move ?_
  refine g_no rfl rfl rfl rfl rfl rfl ?_
  refine g_no rfl rfl rfl rfl rfl rfl ?_
  refine g_v rfl (r_pick0 rfl rfl) ?_
  refine g_v rfl r_assign ?_
  refine g_nil ?_
  refine d_then ?_
  refine c_flat [(0, .bool false)] ⟨rfl, trivial⟩ (fun u => ?_)
  refine c_sta ⟨w0, M, (100040, g27, .cells #[.string x22.fName, .int .u16 x22.fType, .int .u16 x22.fClass, .int .u32 x22.fTTL, .string x22.fData] 27 (0, 0)) :: (100075, g9, .cells #[.slice A13 x11.fb.length c14, mapV A16] 100 (0, 0)) :: H, (100070, ⟨.slice A13 x11.fb.length c14, 5, 1, x11.fb.length, x11.fb.flatMap (fun x : Int => [Value.int .u8 x])⟩) :: (100071, ⟨mapV A16, 98, 2, x11.fplaces.length, x11.fplaces.flatMap (mcell (fun x : ByteArray => Value.string x) (fun x : Int => Value.int .i64 x))⟩) :: R, φ⟩ (fun _ h => h) ?_
  refine c_ret ?_
  replace hm := Option.some.inj hm
  subst hm
  refine d_retC () Try.results16 ?_ trivial (fun W h => ok_pre (H1 := [_, _]) (R1 := [_, _]) h (fun W hφ => hφ)) (.inr rfl)
  refine res_tmp ?_
  refine res_nil ?_
  exact rfl

noncomputable def m_law05_short (p0 : ByteArray) (p1 : Int) : Option ByteArray :=
  if p1 < (p0.size : Int) then
    (scutHi p0 p1).bind fun s2 =>
    some s2
  else
    some p0
theorem c_law05_short {w0 : World} {M : Nat → Prop} {H : List (Nat × Nat × Obj)} {R : List (Nat × Row)} {φ : World → Prop} (p0 : ByteArray) (p1 : Int) (r : ByteArray) (hm : m_law05_short p0 p1 = some r) :
    Cn Try.prog 17 #[.string p0, .int .i64 p1] ⟨w0, M, H, R, φ⟩ (fun x : Unit => .string r) (fun x => True) (fun x => ⟨w0, M, H, R, φ⟩) := by
 unfold m_law05_short at hm
 refine cn_intro (fn := Try.f17) (N := 13) Try.func17 rfl Try.ntmps17 rfl ?_
 refine c_seq ?_
 refine c_region ?_
 refine g_v rfl r_assign ?_
 refine g_nil ?_
 refine d_then ?_
 refine c_seq ?_
 refine c_seq ?_
 refine c_region ?_
 refine g_v rfl r_move ?_
 refine g_v rfl (r_len Try.underlying9 rfl) ?_
 refine g_v rfl r_move ?_
 refine g_v rfl (r_gtr rfl rfl) ?_
 refine g_nil ?_
 refine d_then ?_
 refine c_cond rfl (fun h1 => ?_) (fun h1 => ?_)
 ·
  replace hm := ite_t hm (of_decide_eq_true h1)
  refine c_seq ?_
  refine c_region ?_
  refine g_v rfl r_move ?_
  refine g_v rfl r_move ?_
  replace hm := bnd hm
  obtain ⟨s2, hs2, hm⟩ := hm
  refine g_v rfl (r_scutHi Try.underlying9 rfl rfl hs2) ?_
  refine g_v rfl r_assign ?_
  refine g_nil ?_
  refine d_then ?_
  refine c_flat [(4, .string s2)] ⟨rfl, trivial⟩ (fun u => ?_)
  refine c_sta ⟨w0, M, H, R, φ⟩ (fun _ h => h) ?_
  refine c_ret ?_
  refine d_ret_then ?_
  replace hm := Option.some.inj hm
  subst hm
  refine d_retC () Try.results17 ?_ trivial (fun W h => ok_pre (H1 := []) (R1 := []) h (fun W hφ => hφ)) (.inr rfl)
  refine res_tmp ?_
  refine res_nil ?_
  exact rfl
 ·
  replace hm := ite_f hm (of_decide_eq_false h1)
  refine c_skip ?_
  refine d_then ?_
  refine c_seq ?_
  refine c_region ?_
  refine g_v rfl r_move ?_
  refine g_v rfl r_assign ?_
  refine g_nil ?_
  refine d_then ?_
  refine c_ret ?_
  replace hm := Option.some.inj hm
  subst hm
  refine d_retC () Try.results17 ?_ trivial (fun W h => ok_pre (H1 := []) (R1 := []) h (fun W hφ => hφ)) (.inr rfl)
  refine res_tmp ?_
  refine res_nil ?_
  exact rfl

noncomputable def m_law05_small (p0 : GRR) : Option GRR :=
  (m_law05_short p0.fName 300).bind fun x3 =>
  (m_law05_short p0.fData 2100).bind fun x5 =>
  some (⟨x3, p0.fType, p0.fClass, p0.fTTL, x5⟩ : GRR)
theorem c_law05_small {w0 : World} {M : Nat → Prop} {H : List (Nat × Nat × Obj)} {R : List (Nat × Row)} {φ : World → Prop} (p0 : GRR) (r : GRR) (hm : m_law05_small p0 = some r) :
    Cn Try.prog 22 #[.agg #[.string p0.fName, .int .u16 p0.fType, .int .u16 p0.fClass, .int .u32 p0.fTTL, .string p0.fData]] ⟨w0, M, H, R, φ⟩ (fun x : Unit => .agg #[.string r.fName, .int .u16 r.fType, .int .u16 r.fClass, .int .u32 r.fTTL, .string r.fData]) (fun x => True) (fun x => ⟨w0, M, H, R, φ⟩) := by
 unfold m_law05_small at hm
 refine cn_intro (fn := Try.f22) (N := 12) Try.func22 rfl Try.ntmps22 rfl ?_
 refine c_seq ?_
 refine c_region ?_
 refine g_e rfl (e_box 100010 rfl) (fun g1 _ => ?_)
 refine g_e rfl (e_alloc 100020 Try.zeroValue27) (fun g2 _ => ?_)
 refine g_nil ?_
 refine d_then ?_
 refine c_seq ?_
 refine c_region ?_
 refine g_v rfl (r_field (n := 0) Try.underlying27 rfl Try.sizeOf9 rfl rfl) ?_
 refine g_v rfl (r_load (tag := 100010) rfl rfl rfl Try.isAgg9) ?_
 replace hm := bnd hm
 obtain ⟨x3, hx4, hm⟩ := hm
 refine g_cn ⟨w0, M, _, _, φ⟩ (fun _ h => h) Try.call17 rfl rfl (c_law05_short p0.fName 300 _ hx4) (fun _ _ => ?_)
 refine g_v rfl (r_field (n := 0) Try.underlying27 rfl Try.sizeOf9 rfl rfl) ?_
 refine g_storeL (tag := 100010) rfl rfl rfl rfl Try.sizeOf9 rfl rfl ?_
 refine g_nil ?_
 refine d_then ?_
 refine c_seq ?_
 refine c_region ?_
 refine g_v rfl (r_field (n := 4) Try.underlying27 rfl Try.sizeOf9 rfl rfl) ?_
 refine g_v rfl (r_load (tag := 100010) rfl rfl rfl Try.isAgg9) ?_
 replace hm := bnd hm
 obtain ⟨x5, hx6, hm⟩ := hm
 refine g_cn ⟨w0, M, _, _, φ⟩ (fun _ h => h) Try.call17 rfl rfl (c_law05_short p0.fData 2100 _ hx6) (fun _ _ => ?_)
 refine g_v rfl (r_field (n := 4) Try.underlying27 rfl Try.sizeOf9 rfl rfl) ?_
 refine g_storeL (tag := 100010) rfl rfl rfl rfl Try.sizeOf9 rfl rfl ?_
 refine g_nil ?_
 refine d_then ?_
 refine c_flat [(1, .pointer (some ⟨g1, 0, none⟩)), (2, .pointer (some ⟨g2, 0, none⟩))] ⟨rfl, rfl, trivial⟩ (fun u => ?_)
 refine c_sta ⟨w0, M, (100020, g2, .cells #[.string (⟨#[]⟩ : ByteArray), .int .u16 0, .int .u16 0, .int .u32 0, .string (⟨#[]⟩ : ByteArray)] 27 (0, 0)) :: (100010, g1, .cells #[.string x3, .int .u16 p0.fType, .int .u16 p0.fClass, .int .u32 p0.fTTL, .string x5] 27 (0, 0)) :: H, R, φ⟩ (fun _ h => h) ?_
 refine c_seq ?_
 refine c_region ?_
 refine g_v rfl (r_loadA (tag := 100010) rfl rfl Try.isAgg27 Try.sizeOf27 rfl rfl) ?_
 refine g_storeL (tag := 100020) rfl rfl rfl rfl Try.sizeOf27 rfl rfl ?_
 refine g_nil ?_
 refine d_then ?_
 refine c_ret ?_
 replace hm := Option.some.inj hm
 subst hm
 refine d_retC () Try.results22 ?_ trivial (fun W h => ok_pre (H1 := [_, _]) (R1 := []) h (fun W hφ => hφ)) (.inr rfl)
 refine res_agg (tag := 100020) rfl rfl Try.isAgg27 Try.sizeOf27 ?_
 refine res_nil ?_
 exact rfl

theorem lit27_16 (z0 : ByteArray) (z1 : Int) (z2 : Int) (z3 : Int) (z4 : ByteArray) : Try.prog.builtSlice 27 1 [(0, .agg #[.string z0, .int .u16 z1, .int .u16 z2, .int .u32 z3, .string z4])] = some #[.string z0, .int .u16 z1, .int .u16 z2, .int .u32 z3, .string z4] := by kernel_rfl
theorem inf27_17  : (Try.prog.info? 27).map (fun i => (i.zero, i.size, i.bytes)) = some (some (.agg #[.string (⟨#[]⟩ : ByteArray), .int .u16 0, .int .u16 0, .int .u32 0, .string (⟨#[]⟩ : ByteArray)]), 5, 40) := by kernel_rfl
theorem eqq27 (a b : GRR) : ∀ d W, (Op.equalIn (d + 5) 27 (.agg #[.string a.fName, .int .u16 a.fType, .int .u16 a.fClass, .int .u32 a.fTTL, .string a.fData]) (.agg #[.string b.fName, .int .u16 b.fType, .int .u16 b.fClass, .int .u32 b.fTTL, .string b.fData])).run Try.prog W = .ok (decide (a = b)) W := by
  intro d W
  have h := eqs_of (d := d + 4) (xs := #[.string a.fName, .int .u16 a.fType, .int .u16 a.fClass, .int .u32 a.fTTL, .string a.fData]) (ys := #[.string b.fName, .int .u16 b.fType, .int .u16 b.fClass, .int .u32 b.fTTL, .string b.fData]) (w := W) Try.underlying27 (by kernel_rfl) (eqs_cons (a := .string a.fName) (b := .string b.fName) rfl (by kernel_rfl) (by kernel_rfl) (eqs_str Try.underlying9) (eqs_cons (a := .int .u16 a.fType) (b := .int .u16 b.fType) rfl (by kernel_rfl) (by kernel_rfl) (eqs_int Try.underlying24) (eqs_cons (a := .int .u16 a.fClass) (b := .int .u16 b.fClass) rfl (by kernel_rfl) (by kernel_rfl) (eqs_int Try.underlying24) (eqs_cons (a := .int .u32 a.fTTL) (b := .int .u32 b.fTTL) rfl (by kernel_rfl) (by kernel_rfl) (eqs_int Try.underlying25) (eqs_cons (a := .string a.fData) (b := .string b.fData) rfl (by kernel_rfl) (by kernel_rfl) (eqs_str Try.underlying9) eqs_nil)))))
  refine h.trans ?_
  congr 1
  cases a; cases b
  simp only [GRR.mk.injEq, Bool.and_true]
  simp only [Bool.decide_and]
theorem eqg27 : Try.prog.eqGuardType Try.prog.depth 27 = false := by kernel_rfl
noncomputable def m_law05_RecordBack_j2 (x1 : Bool) (x222 : ByteArray) (i277 : Int) : Option Bool :=
  if x1 = true then
    some (decide (i277 = (x222.size : Int)))
  else
    some false
noncomputable def m_law05_RecordBack_s3 (l213 : List GRR) (x222 : ByteArray) (i304 : Int) (i305 : Int) : Option ((Int × Int) ⊕ (Int ⊕ Bool)) :=
  if i305 < (l213.length : Int) then
    (m_record_Get x222 i304).bind fun (z337 : GRR × Int × Int) =>
    if z337.2.2 ≠ 0 then
      some (.inr (.inr false))
    else
      (at_ l213 i305).bind fun x350 =>
      if z337.1 = x350 then
        some (.inl (z337.2.1, w64 (i305 + 1)))
      else
        some (.inr (.inr false))
  else
    some (.inr (.inl i304))
noncomputable def m_law05_RecordBack_j1 (x3 : ByteArray) (x1 : Bool) (l213 : List GRR) (l216 : List Int) (l219 : List (ByteArray × Int)) : Option Bool :=
  (m_pack_Packer_Bytes (⟨l216, l219⟩ : Gpack_Packer)).bind fun x222 =>
  (loop (fun s => m_law05_RecordBack_s3 l213 x222 s.1 s.2) ((x3.size : Int), 0)).bind fun e => Sum.elim (fun e => m_law05_RecordBack_j2 x1 x222 e) (fun x => some x) e
noncomputable def m_law05_RecordBack_s4 (p1 : List GRR) (l389 : List GRR) (l392 : List Int) (l395 : List (ByteArray × Int)) (i398 : Int) : Option (((List GRR) × (List Int) × (List (ByteArray × Int)) × Int) ⊕ ((List GRR) × (List Int) × (List (ByteArray × Int)))) :=
  if i398 < (p1.length : Int) then
    if i398 < 20 then
      (at_ p1 i398).bind fun x436 =>
      (m_law05_small x436).bind fun x440 =>
      (m_record_Put x440 (⟨l392, l395⟩ : Gpack_Packer)).bind fun (z452 : Int × Gpack_Packer) =>
      if z452.1 = 0 then
        (app 40 l389 [x440]).bind fun l455 =>
        some (.inl (l455, z452.2.fb, z452.2.fplaces, w64 (i398 + 1)))
      else
        some (.inl (l389, z452.2.fb, z452.2.fplaces, w64 (i398 + 1)))
    else
      some (.inr (l389, l392, l395))
  else
    some (.inr (l389, l392, l395))
noncomputable def m_law05_RecordBack (p0 : ByteArray) (p1 : List GRR) : Option Bool :=
  (m_law05_awake).bind fun x1 =>
  (m_law05_short p0 50).bind fun x3 =>
  (m_pack_New).bind fun x5 =>
  (m_pack_Packer_Raw x3 x5).bind fun x14 =>
  (loop (fun s => m_law05_RecordBack_s4 p1 s.1 s.2.1 s.2.2.1 s.2.2.2) (([] : List GRR), x14.fb, x14.fplaces, 0)).bind fun e => m_law05_RecordBack_j1 x3 x1 e.1 e.2.1 e.2.2
theorem c_law05_RecordBack {w0 : World} {M : Nat → Prop} {H : List (Nat × Nat × Obj)} {R : List (Nat × Row)} {φ : World → Prop} (p0 : ByteArray) (p1 : List GRR) (Ap1_0 : Option Addr) (cp1_0 : Nat) (hcp1_0 : p1.length ≤ cp1_0) (fp1_0 : ∀ W, (Sta.mk w0 M H R φ).ok W → Cl W Ap1_0 (p1.flatMap GRR.enc)) (r : Bool) (hm : m_law05_RecordBack p0 p1 = some r) :
    Cn Try.prog 5 #[.string p0, .slice Ap1_0 p1.length cp1_0] ⟨w0, M, H, R, φ⟩ (fun x : Unit => .bool r) (fun x => True) (fun x => ⟨w0, M, H, R, φ⟩) := by
 unfold m_law05_RecordBack at hm
 refine cn_intro (fn := Try.f5) (N := 83) Try.func5 rfl Try.ntmps5 rfl ?_
 refine c_seq ?_
 refine c_region ?_
 refine g_v rfl r_assign ?_
 refine g_nil ?_
 refine d_then ?_
 refine c_seq ?_
 refine c_region ?_
 replace hm := bnd hm
 obtain ⟨x1, hx2, hm⟩ := hm
 refine g_cn ⟨w0, M, _, _, φ⟩ (fun _ h => h) Try.call16 rfl rfl (c_law05_awake  _ hx2) (fun _ _ => ?_)
 refine g_v rfl r_assign ?_
 refine g_nil ?_
 refine d_then ?_
 refine c_seq ?_
 refine c_region ?_
 refine g_v rfl r_move ?_
 replace hm := bnd hm
 obtain ⟨x3, hx4, hm⟩ := hm
 refine g_cn ⟨w0, M, _, _, φ⟩ (fun _ h => h) Try.call17 rfl rfl (c_law05_short p0 50 _ hx4) (fun _ _ => ?_)
 refine g_v rfl r_assign ?_
 refine g_nil ?_
 refine d_then ?_
 refine c_seq ?_
 refine c_region ?_
 replace hm := bnd hm
 obtain ⟨x5, hx6, hm⟩ := hm
 refine g_cn ⟨w0, M, _, _, φ⟩ (fun _ h => h) Try.call20 rfl rfl (c_pack_New  _ hx6) (fun ⟨A7, c8, A10, c11, g13⟩ ⟨hc8, hc11⟩ => ?_)
 refine g_sta _ (fun W h => (ok_frontR (t := 2000) (t' := 100190) (ok_frontR (t := 2001) (t' := 100191) (ok_front (t := 3000) (t' := 100195) h rfl) rfl) rfl)) ?_
 refine g_v rfl r_assign ?_
 refine g_nil ?_
 refine d_then ?_
 refine c_seq ?_
 refine c_seq ?_
 refine c_region ?_
 refine g_v rfl r_move ?_
 refine g_v rfl (r_eqlP1 Try.underlying33 rfl rfl) ?_
 refine g_nil ?_
 refine d_then ?_
 refine c_flat [(0, .string x3), (1, .slice Ap1_0 p1.length cp1_0), (5, .bool x1), (6, .pointer (some ⟨g13, 0, none⟩)), (21, .bool false)] ⟨rfl, rfl, rfl, rfl, rfl, trivial⟩ (fun u => ?_)
 refine c_sta ⟨w0, M, (100195, g13, .cells #[.slice A7 x5.fb.length c8, mapV A10] 100 (0, 0)) :: H, (100190, ⟨.slice A7 x5.fb.length c8, 5, 1, x5.fb.length, x5.fb.flatMap (fun x : Int => [Value.int .u8 x])⟩) :: (100191, ⟨mapV A10, 98, 2, x5.fplaces.length, x5.fplaces.flatMap (mcell (fun x : ByteArray => Value.string x) (fun x : Int => Value.int .i64 x))⟩) :: R, φ⟩ (fun _ h => h) ?_
 refine c_cond0 rfl rfl ?_
 refine c_skip ?_
 refine d_then ?_
 refine c_seq ?_
 refine c_region ?_
 refine g_v rfl r_move ?_
 refine g_v rfl r_move ?_
 replace hm := bnd hm
 obtain ⟨x14, hx15, hm⟩ := hm
 refine g_cn ⟨w0, M, (1000, g13, .cells #[.slice A7 x5.fb.length c8, mapV A10] 100 (0, 0)) :: H, (1000, ⟨.slice A7 x5.fb.length c8, 5, 1, x5.fb.length, x5.fb.flatMap (fun x : Int => [Value.int .u8 x])⟩) :: (1001, ⟨mapV A10, 98, 2, x5.fplaces.length, x5.fplaces.flatMap (mcell (fun x : ByteArray => Value.string x) (fun x : Int => Value.int .i64 x))⟩) :: R, φ⟩ (fun W h => (ok_front (t := 100195) (t' := 1000) (ok_frontR (t := 100190) (t' := 1000) (ok_frontR (t := 100191) (t' := 1001) h rfl) rfl) rfl)) Try.call21 rfl rfl (c_pack_Packer_Raw x3 g13 x5 A7 c8 hc8 A10 c11 trivial _ hx15) (fun ⟨A16, c17, A19, c20⟩ ⟨hc17, hc20⟩ => ?_)
 refine g_sta _ (fun W h => (ok_frontR (t := 2000) (t' := 100190) (ok_frontR (t := 2001) (t' := 100191) (ok_front (t := 1000) (t' := 100195) h rfl) rfl) rfl)) ?_
 refine g_nil ?_
 refine d_then ?_
 refine c_seq ?_
 refine c_region ?_
 refine g_v rfl r_assign ?_
 refine g_nil ?_
 refine d_then ?_
 refine c_seq ?_
 refine c_sta _ (fun W h => nilR h 13 27 5) ?_
 refine c_cut (ι := (List GRR) × (List Int) × (List (ByteArray × Int)) × Option Addr × Nat × Option Addr × Nat × Option Addr × Nat) [0, 5, 6, 7] (fun ⟨l213, l216, l219, A214, c215, A217, c218, A220, c221⟩ => [(7, .slice A214 l213.length c215)]) (fun ⟨l213, l216, l219, A214, c215, A217, c218, A220, c221⟩ => ⟨w0, M, (100195, g13, .cells #[.slice A217 l216.length c218, mapV A220] 100 (0, 0)) :: H, (13, ⟨.slice A214 l213.length c215, 27, 5, l213.length, l213.flatMap GRR.enc⟩) :: (100190, ⟨.slice A217 l216.length c218, 5, 1, l216.length, l216.flatMap (fun x : Int => [Value.int .u8 x])⟩) :: (100191, ⟨mapV A220, 98, 2, l219.length, l219.flatMap (mcell (fun x : ByteArray => Value.string x) (fun x : Int => Value.int .i64 x))⟩) :: R, φ⟩) (fun ⟨l213, l216, l219, A214, c215, A217, c218, A220, c221⟩ => m_law05_RecordBack_j1 x3 x1 l213 l216 l219 = some r ∧ l213.length ≤ c215 ∧ l216.length ≤ c218 ∧ True) ?_ (fun ⟨l213, l216, l219, A214, c215, A217, c218, A220, c221⟩ u ⟨hm, hc215, hc218, hc221⟩ => ?_)
 ·
  refine c_seq ?_
  refine c_region ?_
  refine g_v rfl r_assign ?_
  refine g_nil ?_
  refine d_then ?_
  refine c_block ?_
  replace hm := bnd hm
  obtain ⟨out4, hl4, hr4⟩ := hm
  obtain ⟨n433', hl4⟩ := loop_lp hl4
  refine c_loopU (ι := Nat × (List GRR) × (List Int) × (List (ByteArray × Int)) × Int × Option Addr × Nat × Option Addr × Nat × Option Addr × Nat) [0, 1, 5, 6, 7, 8] (fun ⟨n433, l389, l392, l395, i398, A390, c391, A393, c394, A396, c397⟩ => [(7, .slice A390 l389.length c391), (8, .int .i64 i398)]) (fun ⟨n433, l389, l392, l395, i398, A390, c391, A393, c394, A396, c397⟩ => ⟨w0, M, (100195, g13, .cells #[.slice A393 l392.length c394, mapV A396] 100 (0, 0)) :: H, (13, ⟨.slice A390 l389.length c391, 27, 5, l389.length, l389.flatMap GRR.enc⟩) :: (100190, ⟨.slice A393 l392.length c394, 5, 1, l392.length, l392.flatMap (fun x : Int => [Value.int .u8 x])⟩) :: (100191, ⟨mapV A396, 98, 2, l395.length, l395.flatMap (mcell (fun x : ByteArray => Value.string x) (fun x : Int => Value.int .i64 x))⟩) :: R, φ⟩) (fun ⟨n433, l389, l392, l395, i398, A390, c391, A393, c394, A396, c397⟩ => Lp (fun s => m_law05_RecordBack_s4 p1 s.1 s.2.1 s.2.2.1 s.2.2.2) n433 (l389, l392, l395, i398) out4 ∧ l389.length ≤ c391 ∧ l392.length ≤ c394 ∧ True) (fun ⟨n433, l389, l392, l395, i398, A390, c391, A393, c394, A396, c397⟩ => n433) (n433', ([] : List GRR), x14.fb, x14.fplaces, 0, none, 0, A16, c17, A19, c20) ⟨hl4, (Nat.le_refl 0), hc17, trivial⟩ ⟨rfl, rfl, rfl, rfl, rfl, rfl, trivial⟩ (fun W h => h.phi (fun W hφ => hφ)) (fun ⟨n433, l389, l392, l395, i398, A390, c391, A393, c394, A396, c397⟩ u ⟨hlp, hc391, hc394, hc397⟩ => ?_)
  obtain ⟨o4, hm, hnx4⟩ := lp_step hlp
  clear hlp
  replace hm : m_law05_RecordBack_s4 p1 l389 l392 l395 i398 = some o4 := hm
  unfold m_law05_RecordBack_s4 at hm
  refine c_flat [(0, .string x3), (1, .slice Ap1_0 p1.length cp1_0), (5, .bool x1), (6, .pointer (some ⟨g13, 0, none⟩)), (7, .slice A390 l389.length c391), (8, .int .i64 i398)] ⟨rfl, rfl, rfl, rfl, rfl, rfl, trivial⟩ (fun u => ?_)
  refine c_sta ⟨w0, M, (100195, g13, .cells #[.slice A393 l392.length c394, mapV A396] 100 (0, 0)) :: H, (13, ⟨.slice A390 l389.length c391, 27, 5, l389.length, l389.flatMap GRR.enc⟩) :: (100190, ⟨.slice A393 l392.length c394, 5, 1, l392.length, l392.flatMap (fun x : Int => [Value.int .u8 x])⟩) :: (100191, ⟨mapV A396, 98, 2, l395.length, l395.flatMap (mcell (fun x : ByteArray => Value.string x) (fun x : Int => Value.int .i64 x))⟩) :: R, φ⟩ (fun _ h => h) ?_
  refine c_seq ?_
  refine c_seq ?_
  refine c_region ?_
  refine g_v rfl r_move ?_
  refine g_v rfl r_move ?_
  refine g_v rfl (r_lenL Try.underlying32 rfl) ?_
  refine g_v rfl (r_lss rfl rfl) ?_
  refine g_v rfl r_move ?_
  refine g_if rfl rfl rfl rfl rfl (fun h434 => ?_) (fun h434 => ?_)
  ·
   replace hm := ite_t hm (of_decide_eq_true h434)
   refine g_v rfl r_move ?_
   refine g_do rfl rfl rfl rfl rfl h434 ?_
   refine g_v rfl (r_lss rfl rfl) ?_
   refine g_v rfl (r_pick1 rfl h434) ?_
   refine g_nil ?_
   refine d_then ?_
   refine c_cond rfl (fun h435 => ?_) (fun h435 => ?_)
   ·
    replace hm := ite_t hm (of_decide_eq_true h435)
    refine c_skip ?_
    refine d_then ?_
    refine c_seq ?_
    refine c_block ?_
    refine c_seq ?_
    refine c_region ?_
    refine g_v rfl r_move ?_
    refine g_v rfl r_move ?_
    replace hm := bnd hm
    obtain ⟨x436, hx436, hm⟩ := hm
    refine g_know _ (fun W hS => cl_at (p := (Sta.mk w0 M H R φ).ok) (sz := 5) (fun _ => rfl) (by decide) (ok_pre (H1 := [_]) (R1 := [_, _, _]) hS (fun W h => h)) fp1_0 hx436) ?_
    rintro ⟨ad437, hA439, f438⟩
    refine g_v rfl (r_ix Try.underlying32 Try.sizeOf27 rfl hA439 rfl hx436) ?_
    refine g_v rfl (r_ldA rfl Try.isAgg27 Try.sizeOf27 (fun W hS => (f438 W (ok_pre (H1 := [_]) (R1 := [_, _, _]) hS (fun W h => h))).take 5) rfl) ?_
    replace hm := bnd hm
    obtain ⟨x440, hx441, hm⟩ := hm
    refine g_cn ⟨w0, M, _, _, φ⟩ (fun _ h => h) Try.call22 rfl rfl (c_law05_small x436 _ hx441) (fun _ _ => ?_)
    refine g_e rfl (e_alloc 100090 Try.zeroValue27) (fun g442 _ => ?_)
    refine g_storeL (tag := 100090) rfl rfl rfl rfl Try.sizeOf27 rfl rfl ?_
    refine g_nil ?_
    refine d_then ?_
    refine c_flat [(0, .string x3), (1, .slice Ap1_0 p1.length cp1_0), (5, .bool x1), (6, .pointer (some ⟨g13, 0, none⟩)), (7, .slice A390 l389.length c391), (8, .int .i64 i398), (9, .pointer (some ⟨g442, 0, none⟩))] ⟨rfl, rfl, rfl, rfl, rfl, rfl, rfl, trivial⟩ (fun u => ?_)
    refine c_sta ⟨w0, M, (100090, g442, .cells #[.string x440.fName, .int .u16 x440.fType, .int .u16 x440.fClass, .int .u32 x440.fTTL, .string x440.fData] 27 (0, 0)) :: (100195, g13, .cells #[.slice A393 l392.length c394, mapV A396] 100 (0, 0)) :: H, (13, ⟨.slice A390 l389.length c391, 27, 5, l389.length, l389.flatMap GRR.enc⟩) :: (100190, ⟨.slice A393 l392.length c394, 5, 1, l392.length, l392.flatMap (fun x : Int => [Value.int .u8 x])⟩) :: (100191, ⟨mapV A396, 98, 2, l395.length, l395.flatMap (mcell (fun x : ByteArray => Value.string x) (fun x : Int => Value.int .i64 x))⟩) :: R, φ⟩ (fun _ h => h) ?_
    refine c_seq ?_
    refine c_region ?_
    refine g_v rfl r_move ?_
    refine g_v rfl (r_loadA (tag := 100090) rfl rfl Try.isAgg27 Try.sizeOf27 rfl rfl) ?_
    replace hm := bnd hm
    obtain ⟨⟨x443, x444⟩, hx445, hm⟩ := hm
    refine g_cn ⟨w0, M, (1000, g13, .cells #[.slice A393 l392.length c394, mapV A396] 100 (0, 0)) :: (100090, g442, .cells #[.string x440.fName, .int .u16 x440.fType, .int .u16 x440.fClass, .int .u32 x440.fTTL, .string x440.fData] 27 (0, 0)) :: H, (1000, ⟨.slice A393 l392.length c394, 5, 1, l392.length, l392.flatMap (fun x : Int => [Value.int .u8 x])⟩) :: (1001, ⟨mapV A396, 98, 2, l395.length, l395.flatMap (mcell (fun x : ByteArray => Value.string x) (fun x : Int => Value.int .i64 x))⟩) :: (13, ⟨.slice A390 l389.length c391, 27, 5, l389.length, l389.flatMap GRR.enc⟩) :: R, φ⟩ (fun W h => (ok_front (t := 100195) (t' := 1000) (ok_frontR (t := 100190) (t' := 1000) (ok_frontR (t := 100191) (t' := 1001) h rfl) rfl) rfl)) Try.call23 rfl rfl (c_record_Put x440 g13 (⟨l392, l395⟩ : Gpack_Packer) A393 c394 hc394 A396 c397 trivial _ hx445) (fun ⟨A446, c447, A449, c450⟩ ⟨hc447, hc450⟩ => ?_)
    refine g_sta _ (fun W h => (ok_frontR (t := 2000) (t' := 100190) (ok_frontR (t := 2001) (t' := 100191) (ok_front (t := 1000) (t' := 100195) h rfl) rfl) rfl)) ?_
    refine g_v rfl (r_eql rfl rfl) ?_
    refine g_nil ?_
    refine d_then ?_
    refine c_cond rfl (fun h453 => ?_) (fun h453 => ?_)
    ·
     replace hm := ite_t hm (of_decide_eq_true h453)
     refine c_region ?_
     refine g_v rfl r_move ?_
     refine g_v rfl (r_loadA (tag := 100090) rfl rfl Try.isAgg27 Try.sizeOf27 rfl rfl) ?_
     refine g_e rfl (e_lit (tag := 100460) (l := [x440]) (enc := GRR.enc) (sz := 5) rfl Try.underlying32 (lit27_16 _ _ _ _ _) rfl rfl (fun _ => rfl)) (fun g454 _ => ?_)
     replace hm := bnd hm
     obtain ⟨l455, hl455, hm⟩ := hm
     refine g_e rfl (e_appR (enc := GRR.enc) (l := l389) (l1 := [x440]) (l2 := l455) (tag := 13) Try.underlying32 inf27_17 rfl (by decide) (by decide) (fun _ => rfl) (fun _ => rfl) rfl hc391 rfl rfl (fun W hS => rowCl (tag := 100460) rfl W hS) hl455) (fun ⟨A456, c457⟩ hc457 => ?_)
     refine g_v rfl r_assign ?_
     refine g_nil ?_
     refine d_normal_block ?_
     refine d_then ?_
     refine c_flat [(0, .string x3), (1, .slice Ap1_0 p1.length cp1_0), (5, .bool x1), (6, .pointer (some ⟨g13, 0, none⟩)), (7, .slice A456 l455.length c457), (8, .int .i64 i398)] ⟨rfl, rfl, rfl, rfl, rfl, rfl, trivial⟩ (fun u => ?_)
     refine c_sta ⟨w0, M, (100195, g13, .cells #[.slice A446 x444.fb.length c447, mapV A449] 100 (0, 0)) :: (100090, g442, .cells #[.string x440.fName, .int .u16 x440.fType, .int .u16 x440.fClass, .int .u32 x440.fTTL, .string x440.fData] 27 (0, 0)) :: H, (100460, ⟨.slice (some ⟨g454, 0, none⟩) [x440].length 1, 27, 5, [x440].length, [x440].flatMap GRR.enc⟩) :: (100190, ⟨.slice A446 x444.fb.length c447, 5, 1, x444.fb.length, x444.fb.flatMap (fun x : Int => [Value.int .u8 x])⟩) :: (100191, ⟨mapV A449, 98, 2, x444.fplaces.length, x444.fplaces.flatMap (mcell (fun x : ByteArray => Value.string x) (fun x : Int => Value.int .i64 x))⟩) :: (13, ⟨.slice A456 l455.length c457, 27, 5, l455.length, l455.flatMap GRR.enc⟩) :: R, φ⟩ (fun _ h => h) ?_
     refine c_region ?_
     refine g_v rfl r_move ?_
     refine g_v rfl (r_add rfl rfl rfl) ?_
     refine g_v rfl r_assign ?_
     refine g_nil ?_
     obtain ⟨n458, hn458, hlp⟩ := nx_inl hm hnx4
     exact d_round (n458, l455, x444.fb, x444.fplaces, w64 (i398 + 1), A456, c457, A446, c447, A449, c450) ⟨hlp, hc457, hc447, trivial⟩ hn458 ⟨rfl, rfl, rfl, rfl, rfl, rfl, trivial⟩ (fun W h => (ok_frontR (t := 13) (t' := 13) (ok_frontR (t := 100190) (t' := 100190) (ok_frontR (t := 100191) (t' := 100191) ((h.dropR (t := 100460) rfl).dropH (t := 100090) rfl) rfl) rfl) rfl).phi (fun W hφ => hφ))
    ·
     replace hm := ite_f hm (of_decide_eq_false h453)
     refine c_skip ?_
     refine d_normal_block ?_
     refine d_then ?_
     refine c_region ?_
     refine g_v rfl r_move ?_
     refine g_v rfl (r_add rfl rfl rfl) ?_
     refine g_v rfl r_assign ?_
     refine g_nil ?_
     obtain ⟨n459, hn459, hlp⟩ := nx_inl hm hnx4
     exact d_round (n459, l389, x444.fb, x444.fplaces, w64 (i398 + 1), A390, c391, A446, c447, A449, c450) ⟨hlp, hc391, hc447, trivial⟩ hn459 ⟨rfl, rfl, rfl, rfl, rfl, rfl, trivial⟩ (fun W h => (ok_frontR (t := 13) (t' := 13) (ok_frontR (t := 100190) (t' := 100190) (ok_frontR (t := 100191) (t' := 100191) (h.dropH (t := 100090) rfl) rfl) rfl) rfl).phi (fun W hφ => hφ))
   ·
    replace hm := ite_f hm (of_decide_eq_false h435)
    refine c_exit ?_
    refine d_exit_then ?_
    refine d_exit_then ?_
    refine d_exit_block ?_
    replace hm := nx_out (C := (fun e => m_law05_RecordBack_j1 x3 x1 e.1 e.2.1 e.2.2 = some r)) hm hnx4 hr4
    exact d_round (l389, l392, l395, A390, c391, A393, c394, A396, c397) ⟨hm, hc391, hc394, trivial⟩ Nat.zero_lt_one ⟨rfl, rfl, rfl, rfl, trivial⟩ (fun W h => h.phi (fun W hφ => hφ))
  ·
   replace hm := ite_f hm (of_decide_eq_false h434)
   refine g_no rfl rfl rfl rfl rfl h434 ?_
   refine g_v rfl (r_pick0 rfl h434) ?_
   refine g_nil ?_
   refine d_then ?_
   refine c_cond0 rfl rfl ?_
   refine c_exit ?_
   refine d_exit_then ?_
   refine d_exit_then ?_
   refine d_exit_block ?_
   replace hm := nx_out (C := (fun e => m_law05_RecordBack_j1 x3 x1 e.1 e.2.1 e.2.2 = some r)) hm hnx4 hr4
   exact d_round (l389, l392, l395, A390, c391, A393, c394, A396, c397) ⟨hm, hc391, hc394, trivial⟩ Nat.zero_lt_one ⟨rfl, rfl, rfl, rfl, trivial⟩ (fun W h => h.phi (fun W hφ => hφ))
 ·
  unfold m_law05_RecordBack_j1 at hm
  refine d_flat [(0, .string x3), (5, .bool x1), (6, .pointer (some ⟨g13, 0, none⟩)), (7, .slice A214 l213.length c215)] ⟨rfl, rfl, rfl, rfl, trivial⟩ (fun u => ?_)
  refine d_sta ⟨w0, M, (100195, g13, .cells #[.slice A217 l216.length c218, mapV A220] 100 (0, 0)) :: H, (13, ⟨.slice A214 l213.length c215, 27, 5, l213.length, l213.flatMap GRR.enc⟩) :: (100190, ⟨.slice A217 l216.length c218, 5, 1, l216.length, l216.flatMap (fun x : Int => [Value.int .u8 x])⟩) :: (100191, ⟨mapV A220, 98, 2, l219.length, l219.flatMap (mcell (fun x : ByteArray => Value.string x) (fun x : Int => Value.int .i64 x))⟩) :: R, φ⟩ (fun _ h => h) ?_
  refine d_then ?_
  refine c_seq ?_
  refine c_region ?_
  refine g_v rfl r_move ?_
  replace hm := bnd hm
  obtain ⟨x222, hx223, hm⟩ := hm
  refine g_cn ⟨w0, M, (1000, g13, .cells #[.slice A217 l216.length c218, mapV A220] 100 (0, 0)) :: H, (1000, ⟨.slice A217 l216.length c218, 5, 1, l216.length, l216.flatMap (fun x : Int => [Value.int .u8 x])⟩) :: (1001, ⟨mapV A220, 98, 2, l219.length, l219.flatMap (mcell (fun x : ByteArray => Value.string x) (fun x : Int => Value.int .i64 x))⟩) :: (13, ⟨.slice A214 l213.length c215, 27, 5, l213.length, l213.flatMap GRR.enc⟩) :: R, φ⟩ (fun W h => (ok_front (t := 100195) (t' := 1000) (ok_frontR (t := 100190) (t' := 1000) (ok_frontR (t := 100191) (t' := 1001) h rfl) rfl) rfl)) Try.call26 rfl rfl (c_pack_Packer_Bytes g13 (⟨l216, l219⟩ : Gpack_Packer) A217 c218 hc218 A220 c221 trivial _ hx223) (fun _ _ => ?_)
  refine g_sta _ (fun W h => (ok_frontR (t := 1000) (t' := 100190) (ok_frontR (t := 1001) (t' := 100191) (ok_front (t := 1000) (t' := 100195) h rfl) rfl) rfl)) ?_
  refine g_v rfl r_assign ?_
  refine g_nil ?_
  refine d_then ?_
  refine c_seq ?_
  refine c_region ?_
  refine g_v rfl r_move ?_
  refine g_v rfl (r_len Try.underlying9 rfl) ?_
  refine g_v rfl r_assign ?_
  refine g_nil ?_
  refine d_then ?_
  refine c_seq ?_
  refine c_seq ?_
  refine c_region ?_
  refine g_v rfl r_assign ?_
  refine g_nil ?_
  refine d_then ?_
  refine c_cut (ι := Int) [5, 10, 11] (fun i277 => [(11, .int .i64 i277)]) (fun i277 => ⟨w0, M, H, R, φ⟩) (fun i277 => m_law05_RecordBack_j2 x1 x222 i277 = some r) ?_ (fun i277 u hm => ?_)
  ·
   refine c_block ?_
   replace hm := bnd hm
   obtain ⟨out3, hl3, hr3⟩ := hm
   obtain ⟨n331', hl3⟩ := loop_lp hl3
   refine c_loopU (ι := Nat × Int × Int) [5, 7, 10, 11, 12] (fun ⟨n331, i304, i305⟩ => [(11, .int .i64 i304), (12, .int .i64 i305)]) (fun ⟨n331, i304, i305⟩ => ⟨w0, M, H, (13, ⟨.slice A214 l213.length c215, 27, 5, l213.length, l213.flatMap GRR.enc⟩) :: R, φ⟩) (fun ⟨n331, i304, i305⟩ => Lp (fun s => m_law05_RecordBack_s3 l213 x222 s.1 s.2) n331 (i304, i305) out3) (fun ⟨n331, i304, i305⟩ => n331) (n331', (x3.size : Int), 0) hl3 ⟨rfl, rfl, rfl, rfl, rfl, trivial⟩ (fun W h => (((h.dropR (t := 100190) rfl).dropR (t := 100191) rfl).dropH (t := 100195) rfl).phi (fun W hφ => hφ)) (fun ⟨n331, i304, i305⟩ u hlp => ?_)
   obtain ⟨o3, hm, hnx3⟩ := lp_step hlp
   clear hlp
   replace hm : m_law05_RecordBack_s3 l213 x222 i304 i305 = some o3 := hm
   unfold m_law05_RecordBack_s3 at hm
   refine c_flat [(5, .bool x1), (7, .slice A214 l213.length c215), (10, .string x222), (11, .int .i64 i304), (12, .int .i64 i305)] ⟨rfl, rfl, rfl, rfl, rfl, trivial⟩ (fun u => ?_)
   refine c_sta ⟨w0, M, H, (13, ⟨.slice A214 l213.length c215, 27, 5, l213.length, l213.flatMap GRR.enc⟩) :: R, φ⟩ (fun _ h => h) ?_
   refine c_seq ?_
   refine c_seq ?_
   refine c_region ?_
   refine g_v rfl r_move ?_
   refine g_v rfl r_move ?_
   refine g_v rfl (r_lenL Try.underlying32 rfl) ?_
   refine g_v rfl (r_lss rfl rfl) ?_
   refine g_nil ?_
   refine d_then ?_
   refine c_cond rfl (fun h332 => ?_) (fun h332 => ?_)
   ·
    replace hm := ite_t hm (of_decide_eq_true h332)
    refine c_skip ?_
    refine d_then ?_
    refine c_seq ?_
    refine c_block ?_
    refine c_seq ?_
    refine c_region ?_
    refine g_v rfl r_move ?_
    refine g_v rfl r_move ?_
    replace hm := bnd hm
    obtain ⟨⟨x333, x334, x335⟩, hx336, hm⟩ := hm
    refine g_cn ⟨w0, M, _, _, φ⟩ (fun _ h => h) Try.call18 rfl rfl (c_record_Get x222 i304 _ hx336) (fun _ _ => ?_)
    refine g_v rfl r_move ?_
    refine g_v rfl (r_extract rfl rfl) ?_
    refine g_v rfl (r_extract rfl rfl) ?_
    refine g_v rfl (r_extract rfl rfl) ?_
    refine g_e rfl (e_alloc 100130 Try.zeroValue27) (fun g338 _ => ?_)
    refine g_storeL (tag := 100130) rfl rfl rfl rfl Try.sizeOf27 rfl rfl ?_
    refine g_v rfl r_assign ?_
    refine g_v rfl r_assign ?_
    refine g_nil ?_
    refine d_then ?_
    refine c_flat [(5, .bool x1), (7, .slice A214 l213.length c215), (10, .string x222), (12, .int .i64 i305), (13, .pointer (some ⟨g338, 0, none⟩)), (14, .int .i64 x334), (15, .int .i64 x335)] ⟨rfl, rfl, rfl, rfl, rfl, rfl, rfl, trivial⟩ (fun u => ?_)
    refine c_sta ⟨w0, M, (100130, g338, .cells #[.string x333.fName, .int .u16 x333.fType, .int .u16 x333.fClass, .int .u32 x333.fTTL, .string x333.fData] 27 (0, 0)) :: H, (13, ⟨.slice A214 l213.length c215, 27, 5, l213.length, l213.flatMap GRR.enc⟩) :: R, φ⟩ (fun _ h => h) ?_
    refine c_seq ?_
    refine c_seq ?_
    refine ga_start (n := 10) ⟨w0, M, (100130, g338, .cells #[.string x333.fName, .int .u16 x333.fType, .int .u16 x333.fClass, .int .u32 x333.fTTL, .string x333.fData] 27 (0, 0)) :: H, (13, ⟨.slice A214 l213.length c215, 27, 5, l213.length, l213.flatMap GRR.enc⟩) :: R, φ⟩ [] #[false, false, false, false, false, false, false, false, false, false] (fun W h => h.phi (fun W hφ => hφ)) mixed rfl rfl ?_
    refine ga_r (i := 0) #[true, false, false, false, false, false, false, false, false, false] rfl (by kernel_rfl) (by decide) rfl (r_move) ?_
    refine ga_r (i := 1) #[true, true, false, false, false, false, false, false, false, false] rfl (by kernel_rfl) (by decide) rfl (r_neq rfl rfl) ?_
    refine ga_r (i := 2) #[true, true, true, false, false, false, false, false, false, false] rfl (by kernel_rfl) (by decide) rfl (r_move) ?_
    refine ga_if (t := 67) rfl (fun h349 => ?_) (fun h349 => ?_)
    ·
     replace hm := ite_t hm (of_decide_eq_true h349)
     refine ga_no (i := 3) #[true, true, true, true, false, false, false, false, false, false] rfl (by kernel_rfl) (fun _ _ _ _ h => h) rfl rfl rfl rfl rfl h349 ?_
     refine ga_no (i := 4) #[true, true, true, true, true, false, false, false, false, false] rfl (by kernel_rfl) (fun _ _ _ _ h => h) rfl rfl rfl rfl rfl h349 ?_
     refine ga_no (i := 5) #[true, true, true, true, true, true, false, false, false, false] rfl (by kernel_rfl) (fun _ _ _ _ h => h) rfl rfl rfl rfl rfl h349 ?_
     refine ga_no (i := 6) #[true, true, true, true, true, true, true, false, false, false] rfl (by kernel_rfl) (fun _ _ _ _ h => h) rfl rfl rfl rfl rfl h349 ?_
     refine ga_no (i := 7) #[true, true, true, true, true, true, true, true, false, false] rfl (by kernel_rfl) (fun _ _ _ _ h => h) rfl rfl rfl rfl rfl h349 ?_
     refine ga_no (i := 8) #[true, true, true, true, true, true, true, true, true, false] rfl (by kernel_rfl) (fun _ _ _ _ h => h) rfl rfl rfl rfl rfl h349 ?_
     refine ga_r (i := 9) #[true, true, true, true, true, true, true, true, true, true] rfl (by kernel_rfl) (by decide) rfl (r_pick1 rfl h349) ?_
     refine ga_done (by kernel_rfl) ?_
     refine d_then ?_
     refine c_cond1 rfl rfl ?_
     refine c_seq ?_
     refine c_region ?_
     refine g_v rfl r_assign ?_
     refine g_nil ?_
     refine d_then ?_
     refine c_ret ?_
     refine d_ret_then ?_
     refine d_ret_block ?_
     refine d_ret_then ?_
     refine d_ret_then ?_
     refine d_ret_block ?_
     refine d_ret_then ?_
     refine d_ret_then ?_
     replace hm := nx_out (C := (fun e => Sum.elim (fun e => m_law05_RecordBack_j2 x1 x222 e) (fun x => some x) e = some r)) hm hnx3 hr3
     replace hm : some false = some r := hm
     replace hm := Option.some.inj hm
     subst hm
     refine d_retC () Try.results5 ?_ trivial (fun W h => ok_pre (H1 := [_]) (R1 := [_]) h (fun W hφ => hφ)) (.inr rfl)
     refine res_tmp ?_
     refine res_nil ?_
     exact rfl
    ·
     replace hm := ite_f hm (of_decide_eq_false h349)
     refine ga_do (i := 3) #[true, true, true, true, false, false, false, false, false, false] rfl (by kernel_rfl) (fun _ _ _ _ h => h) rfl rfl rfl rfl rfl h349 (r_loadA (tag := 100130) rfl rfl Try.isAgg27 Try.sizeOf27 rfl rfl) ?_
     refine ga_do (i := 4) #[true, true, true, true, true, false, false, false, false, false] rfl (by kernel_rfl) (fun _ _ _ _ h => h) rfl rfl rfl rfl rfl h349 (r_move) ?_
     refine ga_rG (i := 5) #[true, true, true, true, true, true, false, false, false, false] rfl (by kernel_rfl) (by decide) rfl rfl rfl rfl rfl h349 (r_move) ?_
     replace hm := bnd hm
     obtain ⟨x350, hx350, hm⟩ := hm
     refine ga_know _ (fun W hS => cl_at (p := (Sta.ok ⟨w0, M, (100130, g338, .cells #[.string x333.fName, .int .u16 x333.fType, .int .u16 x333.fClass, .int .u32 x333.fTTL, .string x333.fData] 27 (0, 0)) :: H, (13, ⟨.slice A214 l213.length c215, 27, 5, l213.length, l213.flatMap GRR.enc⟩) :: R, φ⟩)) (sz := 5) (fun _ => rfl) (by decide) hS (fun W hS => rowCl (S := ⟨w0, M, (100130, g338, .cells #[.string x333.fName, .int .u16 x333.fType, .int .u16 x333.fClass, .int .u32 x333.fTTL, .string x333.fData] 27 (0, 0)) :: H, (13, ⟨.slice A214 l213.length c215, 27, 5, l213.length, l213.flatMap GRR.enc⟩) :: R, φ⟩) (tag := 13) rfl W hS) hx350) ?_
     rintro ⟨ad351, hA353, f352⟩
     refine ga_rG (i := 6) #[true, true, true, true, true, true, true, false, false, false] rfl (by kernel_rfl) (by decide) rfl rfl rfl rfl rfl h349 (r_ix Try.underlying32 Try.sizeOf27 rfl hA353 rfl hx350) ?_
     refine ga_rG (i := 7) #[true, true, true, true, true, true, true, true, false, false] rfl (by kernel_rfl) (by decide) rfl rfl rfl rfl rfl h349 (r_ldA rfl Try.isAgg27 Try.sizeOf27 (fun W hS => (f352 W hS).take 5) rfl) ?_
     refine ga_rG (i := 8) #[true, true, true, true, true, true, true, true, true, false] rfl (by kernel_rfl) (by decide) rfl rfl rfl rfl rfl h349 (r_neqA rfl rfl eqg27 (eqq27 x333 x350)) ?_
     refine ga_r (i := 9) #[true, true, true, true, true, true, true, true, true, true] rfl (by kernel_rfl) (by decide) rfl (r_pick0 rfl h349) ?_
     refine ga_done (by kernel_rfl) ?_
     refine d_then ?_
     refine c_flat [(5, .bool x1), (7, .slice A214 l213.length c215), (10, .string x222), (12, .int .i64 i305), (14, .int .i64 x334), (74, .bool (!(decide (x333 = x350))))] ⟨rfl, rfl, rfl, rfl, rfl, rfl, trivial⟩ (fun u => ?_)
     refine c_sta ⟨w0, M, (100130, g338, .cells #[.string x333.fName, .int .u16 x333.fType, .int .u16 x333.fClass, .int .u32 x333.fTTL, .string x333.fData] 27 (0, 0)) :: H, (13, ⟨.slice A214 l213.length c215, 27, 5, l213.length, l213.flatMap GRR.enc⟩) :: R, φ⟩ (fun _ h => h) ?_
     refine c_cond rfl (fun h354 => ?_) (fun h354 => ?_)
     ·
      have h354' : (decide (x333 = x350)) = false := by revert h354; cases (decide (x333 = x350)) <;> simp
      replace hm := ite_f hm (of_decide_eq_false h354')
      refine c_seq ?_
      refine c_region ?_
      refine g_v rfl r_assign ?_
      refine g_nil ?_
      refine d_then ?_
      refine c_ret ?_
      refine d_ret_then ?_
      refine d_ret_block ?_
      refine d_ret_then ?_
      refine d_ret_then ?_
      refine d_ret_block ?_
      refine d_ret_then ?_
      refine d_ret_then ?_
      replace hm := nx_out (C := (fun e => Sum.elim (fun e => m_law05_RecordBack_j2 x1 x222 e) (fun x => some x) e = some r)) hm hnx3 hr3
      replace hm : some false = some r := hm
      replace hm := Option.some.inj hm
      subst hm
      refine d_retC () Try.results5 ?_ trivial (fun W h => ok_pre (H1 := [_]) (R1 := [_]) h (fun W hφ => hφ)) (.inr rfl)
      refine res_tmp ?_
      refine res_nil ?_
      exact rfl
     ·
      have h354' : (decide (x333 = x350)) = true := by revert h354; cases (decide (x333 = x350)) <;> simp
      replace hm := ite_t hm (of_decide_eq_true h354')
      refine c_skip ?_
      refine d_then ?_
      refine c_region ?_
      refine g_v rfl r_move ?_
      refine g_v rfl r_assign ?_
      refine g_nil ?_
      refine d_normal_block ?_
      refine d_then ?_
      refine c_region ?_
      refine g_v rfl r_move ?_
      refine g_v rfl (r_add rfl rfl rfl) ?_
      refine g_v rfl r_assign ?_
      refine g_nil ?_
      obtain ⟨n355, hn355, hlp⟩ := nx_inl hm hnx3
      exact d_round (n355, x334, w64 (i305 + 1)) hlp hn355 ⟨rfl, rfl, rfl, rfl, rfl, trivial⟩ (fun W h => (h.dropH (t := 100130) rfl).phi (fun W hφ => hφ))
   ·
    replace hm := ite_f hm (of_decide_eq_false h332)
    refine c_exit ?_
    refine d_exit_then ?_
    refine d_exit_then ?_
    refine d_exit_block ?_
    replace hm := nx_out (C := (fun e => Sum.elim (fun e => m_law05_RecordBack_j2 x1 x222 e) (fun x => some x) e = some r)) hm hnx3 hr3
    exact d_round i304 hm Nat.zero_lt_one ⟨rfl, rfl, rfl, trivial⟩ (fun W h => (h.dropR (t := 13) rfl).phi (fun W hφ => hφ))
  ·
   unfold m_law05_RecordBack_j2 at hm
   refine d_flat [(5, .bool x1), (10, .string x222), (11, .int .i64 i277)] ⟨rfl, rfl, rfl, trivial⟩ (fun u => ?_)
   refine d_sta ⟨w0, M, H, R, φ⟩ (fun _ h => h) ?_
   refine d_then ?_
   refine c_seq ?_
   refine c_region ?_
   refine g_v rfl r_move ?_
   refine g_v rfl r_move ?_
   refine g_if rfl rfl rfl rfl rfl (fun h278 => ?_) (fun h278 => ?_)
   ·
    replace hm := ite_t hm h278
    refine g_v rfl r_move ?_
    refine g_do rfl rfl rfl rfl rfl h278 ?_
    refine g_v rfl r_move ?_
    refine g_do rfl rfl rfl rfl rfl h278 ?_
    refine g_v rfl (r_len Try.underlying9 rfl) ?_
    refine g_do rfl rfl rfl rfl rfl h278 ?_
    refine g_v rfl (r_eql rfl rfl) ?_
    refine g_v rfl (r_pick1 rfl h278) ?_
    refine g_v rfl r_assign ?_
    refine g_nil ?_
    refine d_then ?_
    refine c_ret ?_
    replace hm := Option.some.inj hm
    subst hm
    refine d_retC () Try.results5 ?_ trivial (fun W h => ok_pre (H1 := []) (R1 := []) h (fun W hφ => hφ)) (.inr rfl)
    refine res_tmp ?_
    refine res_nil ?_
    exact rfl
   ·
    replace hm := ite_f hm (bool_nt h278)
    refine g_no rfl rfl rfl rfl rfl h278 ?_
    refine g_no rfl rfl rfl rfl rfl h278 ?_
    refine g_no rfl rfl rfl rfl rfl h278 ?_
    refine g_v rfl (r_pick0 rfl h278) ?_
    refine g_v rfl r_assign ?_
    refine g_nil ?_
    refine d_then ?_
    refine c_ret ?_
    replace hm := Option.some.inj hm
    subst hm
    refine d_retC () Try.results5 ?_ trivial (fun W h => ok_pre (H1 := []) (R1 := []) h (fun W hφ => hφ)) (.inr rfl)
    refine res_tmp ?_
    refine res_nil ?_
    exact rfl

end Go.Proofs.Ytpdhdpefdgndeaa
