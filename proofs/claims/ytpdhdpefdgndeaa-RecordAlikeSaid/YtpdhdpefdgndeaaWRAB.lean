import Derived.Test.YtpdhdpefdgndeaaWRAA
set_option maxRecDepth 100000
set_option maxHeartbeats 4000000
set_option linter.unusedVariables false
set_option linter.unusedSimpArgs false
namespace Go.Proofs.Ytpdhdpefdgndeaa
open Go.RowKit Go.Proofs.YtpdhdpefdgndeaaW.PrintLast
noncomputable def m_record_Get_j3 (x3 : ByteArray) (x14 : Int) (i27 : Int) (i36 : Int) (x55 : Int) (s86 : ByteArray) : Option (GRR × Int × Int) :=
  (m_record_Check (⟨x3, x14, i27, i36, s86⟩ : GRR)).bind fun x87 =>
  if x87 ≠ 0 then
    (m_record_Get_c1 x87).bind fun (z94 : GRR × Int × Int) =>
    some (z94.1, z94.2.1, z94.2.2)
  else
    some ((⟨x3, x14, i27, i36, s86⟩ : GRR), x55, 0)
noncomputable def m_record_Get_j2 (p0 : ByteArray) (x14 : Int) (x3 : ByteArray) (i27 : Int) (i34 : Int) (i35 : Int) (i36 : Int) : Option (GRR × Int × Int) :=
  if i35 ≠ 0 then
    (m_record_Get_c1 i35).bind fun (z42 : GRR × Int × Int) =>
    some (z42.1, z42.2.1, z42.2.2)
  else
    (m_pack_Word p0 i34).bind fun (z47 : Int × Int × Int) =>
    if z47.2.2 ≠ 0 then
      (m_record_Get_c1 z47.2.2).bind fun (z53 : GRR × Int × Int) =>
      some (z53.1, z53.2.1, z53.2.2)
    else
      (m_pack_Raw p0 z47.2.1 (w64 z47.1)).bind fun (z58 : ByteArray × Int × Int) =>
      if z58.2.2 ≠ 0 then
        (m_record_Get_c1 z58.2.2).bind fun (z64 : GRR × Int × Int) =>
        some (z64.1, z64.2.1, z64.2.2)
      else
        (m_record_shapeOf x14).bind fun x65 =>
        if 0 < x65.fnames then
          (m_record_full p0 z47.2.1 x65).bind fun (z100 : ByteArray × Int × Int) =>
          if z100.2.2 ≠ 0 then
            (m_record_Get_c1 z100.2.2).bind fun (z106 : GRR × Int × Int) =>
            some (z106.1, z106.2.1, z106.2.2)
          else
            if z100.2.1 ≠ z58.2.1 then
              (m_record_Get_c1 10).bind fun (z112 : GRR × Int × Int) =>
              some (z112.1, z112.2.1, z112.2.2)
            else
              m_record_Get_j3 x3 x14 i27 i36 z58.2.1 z100.1
        else
          m_record_Get_j3 x3 x14 i27 i36 z58.2.1 z58.1
noncomputable def m_record_Get_j1 (p0 : ByteArray) (x14 : Int) (x3 : ByteArray) (i25 : Int) (i26 : Int) (i27 : Int) : Option (GRR × Int × Int) :=
  if i26 = 0 then
    (m_pack_Long p0 i25).bind fun (z118 : Int × Int × Int) =>
    m_record_Get_j2 p0 x14 x3 i27 z118.2.1 z118.2.2 z118.1
  else
    m_record_Get_j2 p0 x14 x3 i27 i25 i26 0
noncomputable def m_record_Get (p0 : ByteArray) (p1 : Int) : Option (GRR × Int × Int) :=
  (m_pack_Name p0 p1).bind fun (z7 : ByteArray × Int × Int) =>
  if z7.2.2 ≠ 0 then
    (m_record_Get_c1 z7.2.2).bind fun (z13 : GRR × Int × Int) =>
    some (z13.1, z13.2.1, z13.2.2)
  else
    (m_pack_Word p0 z7.2.1).bind fun (z18 : Int × Int × Int) =>
    if z18.2.2 = 0 then
      (m_pack_Word p0 z18.2.1).bind fun (z124 : Int × Int × Int) =>
      m_record_Get_j1 p0 z18.1 z7.1 z124.2.1 z124.2.2 z124.1
    else
      m_record_Get_j1 p0 z18.1 z7.1 z18.2.1 z18.2.2 0
theorem c_record_Get {w0 : World} {M : Nat → Prop} {H : List (Nat × Nat × Obj)} {R : List (Nat × Row)} {φ : World → Prop} (p0 : ByteArray) (p1 : Int) (r : GRR × Int × Int) (hm : m_record_Get p0 p1 = some r) :
    Cn Try.prog 18 #[.string p0, .int .i64 p1] ⟨w0, M, H, R, φ⟩ (fun x : Unit => .tuple #[.agg #[.string r.1.fName, .int .u16 r.1.fType, .int .u16 r.1.fClass, .int .u32 r.1.fTTL, .string r.1.fData], .int .i64 r.2.1, .int .i64 r.2.2]) (fun x => True) (fun x => ⟨w0, M, H, R, φ⟩) := by
 unfold m_record_Get at hm
 refine cn_intro (fn := Try.f18) (N := 151) Try.func18 rfl Try.ntmps18 rfl ?_
 refine c_seq ?_
 refine c_region ?_
 refine g_e rfl (e_alloc 100040 Try.zeroValue27) (fun g1 _ => ?_)
 refine g_v rfl r_assign ?_
 refine g_v rfl r_assign ?_
 refine g_nil ?_
 refine d_then ?_
 refine c_seq ?_
 refine c_region ?_
 refine g_e rfl (e_alloc 100070 Try.zeroValue27) (fun g2 _ => ?_)
 refine g_nil ?_
 refine d_then ?_
 refine c_seq ?_
 refine c_region ?_
 refine g_v rfl r_assign ?_
 refine g_nil ?_
 refine d_then ?_
 refine c_seq ?_
 refine c_region ?_
 refine g_v rfl r_move ?_
 refine g_v rfl r_move ?_
 replace hm := bnd hm
 obtain ⟨⟨x3, x4, x5⟩, hx6, hm⟩ := hm
 refine g_cn ⟨w0, M, _, _, φ⟩ (fun _ h => h) Try.call57 rfl rfl (c_pack_Name p0 p1 _ hx6) (fun _ _ => ?_)
 refine g_v rfl r_move ?_
 refine g_v rfl (r_extract rfl rfl) ?_
 refine g_v rfl (r_extract rfl rfl) ?_
 refine g_v rfl (r_extract rfl rfl) ?_
 refine g_v rfl r_assign ?_
 refine g_v rfl r_assign ?_
 refine g_v rfl r_assign ?_
 refine g_nil ?_
 refine d_then ?_
 refine c_flat [(0, .string p0), (1, .int .i64 x4), (4, .pointer (some ⟨g1, 0, none⟩)), (7, .pointer (some ⟨g2, 0, none⟩)), (8, .func (.func 56) #[] #[]), (9, .string x3), (10, .int .i64 x5)] ⟨rfl, rfl, rfl, rfl, rfl, rfl, rfl, trivial⟩ (fun u => ?_)
 refine c_sta ⟨w0, M, (100070, g2, .cells #[.string (⟨#[]⟩ : ByteArray), .int .u16 0, .int .u16 0, .int .u32 0, .string (⟨#[]⟩ : ByteArray)] 27 (0, 0)) :: (100040, g1, .cells #[.string (⟨#[]⟩ : ByteArray), .int .u16 0, .int .u16 0, .int .u32 0, .string (⟨#[]⟩ : ByteArray)] 27 (0, 0)) :: H, R, φ⟩ (fun _ h => h) ?_
 refine c_seq ?_
 refine c_seq ?_
 refine c_region ?_
 refine g_v rfl r_move ?_
 refine g_v rfl (r_neq rfl rfl) ?_
 refine g_nil ?_
 refine d_then ?_
 refine c_cond rfl (fun h8 => ?_) (fun h8 => ?_)
 ·
  replace hm := ite_t hm (of_decide_eq_true h8)
  refine c_seq ?_
  refine c_region ?_
  refine g_v rfl r_move ?_
  refine g_v rfl r_move ?_
  replace hm := bnd hm
  obtain ⟨⟨x9, x10, x11⟩, hx12, hm⟩ := hm
  refine g_cnv ⟨w0, M, _, _, φ⟩ (fun _ h => h) Try.call56 rfl rfl rfl (c_record_Get_c1 x5 _ hx12) (fun _ _ => ?_)
  refine g_v rfl (r_extract rfl rfl) ?_
  refine g_v rfl (r_extract rfl rfl) ?_
  refine g_v rfl (r_extract rfl rfl) ?_
  refine g_storeL (tag := 100040) rfl rfl rfl rfl Try.sizeOf27 rfl rfl ?_
  refine g_v rfl r_assign ?_
  refine g_v rfl r_assign ?_
  refine g_nil ?_
  refine d_then ?_
  refine c_flat [(4, .pointer (some ⟨g1, 0, none⟩)), (5, .int .i64 x10), (6, .int .i64 x11)] ⟨rfl, rfl, rfl, trivial⟩ (fun u => ?_)
  refine c_sta ⟨w0, M, (100070, g2, .cells #[.string (⟨#[]⟩ : ByteArray), .int .u16 0, .int .u16 0, .int .u32 0, .string (⟨#[]⟩ : ByteArray)] 27 (0, 0)) :: (100040, g1, .cells #[.string x9.fName, .int .u16 x9.fType, .int .u16 x9.fClass, .int .u32 x9.fTTL, .string x9.fData] 27 (0, 0)) :: H, R, φ⟩ (fun _ h => h) ?_
  refine c_ret ?_
  refine d_ret_then ?_
  replace hm := Option.some.inj hm
  subst hm
  refine d_retC () Try.results18 ?_ trivial (fun W h => ok_pre (H1 := [_, _]) (R1 := []) h (fun W hφ => hφ)) (.inr rfl)
  refine res_agg (tag := 100040) rfl rfl Try.isAgg27 Try.sizeOf27 ?_
  refine res_tmp ?_
  refine res_tmp ?_
  refine res_nil ?_
  exact rfl
 ·
  replace hm := ite_f hm (of_decide_eq_false h8)
  refine c_skip ?_
  refine d_then ?_
  refine c_seq ?_
  refine c_region ?_
  refine g_v rfl r_move ?_
  refine g_v rfl (r_field (n := 0) Try.underlying27 rfl Try.sizeOf9 rfl rfl) ?_
  refine g_storeL (tag := 100070) rfl rfl rfl rfl Try.sizeOf9 rfl rfl ?_
  refine g_nil ?_
  refine d_then ?_
  refine c_seq ?_
  refine c_region ?_
  refine g_v rfl r_move ?_
  refine g_v rfl r_move ?_
  replace hm := bnd hm
  obtain ⟨⟨x14, x15, x16⟩, hx17, hm⟩ := hm
  refine g_cn ⟨w0, M, _, _, φ⟩ (fun _ h => h) Try.call58 rfl rfl (c_pack_Word p0 x4 _ hx17) (fun _ _ => ?_)
  refine g_v rfl r_move ?_
  refine g_v rfl (r_extract rfl rfl) ?_
  refine g_v rfl (r_extract rfl rfl) ?_
  refine g_v rfl (r_extract rfl rfl) ?_
  refine g_v rfl (r_field (n := 1) Try.underlying27 rfl Try.sizeOf24 rfl rfl) ?_
  refine g_storeL (tag := 100070) rfl rfl rfl rfl Try.sizeOf24 rfl rfl ?_
  refine g_v rfl r_assign ?_
  refine g_v rfl r_assign ?_
  refine g_nil ?_
  refine d_then ?_
  refine c_flat [(0, .string p0), (1, .int .i64 x15), (4, .pointer (some ⟨g1, 0, none⟩)), (7, .pointer (some ⟨g2, 0, none⟩)), (8, .func (.func 56) #[] #[]), (10, .int .i64 x16)] ⟨rfl, rfl, rfl, rfl, rfl, rfl, trivial⟩ (fun u => ?_)
  refine c_sta ⟨w0, M, (100070, g2, .cells #[.string x3, .int .u16 x14, .int .u16 0, .int .u32 0, .string (⟨#[]⟩ : ByteArray)] 27 (0, 0)) :: (100040, g1, .cells #[.string (⟨#[]⟩ : ByteArray), .int .u16 0, .int .u16 0, .int .u32 0, .string (⟨#[]⟩ : ByteArray)] 27 (0, 0)) :: H, R, φ⟩ (fun _ h => h) ?_
  refine c_seq ?_
  refine c_cut (ι := Int × Int × Int) [0, 1, 4, 7, 8, 10] (fun ⟨i25, i26, i27⟩ => [(1, .int .i64 i25), (10, .int .i64 i26)]) (fun ⟨i25, i26, i27⟩ => ⟨w0, M, (100070, g2, .cells #[.string x3, .int .u16 x14, .int .u16 i27, .int .u32 0, .string (⟨#[]⟩ : ByteArray)] 27 (0, 0)) :: (100040, g1, .cells #[.string (⟨#[]⟩ : ByteArray), .int .u16 0, .int .u16 0, .int .u32 0, .string (⟨#[]⟩ : ByteArray)] 27 (0, 0)) :: H, R, φ⟩) (fun ⟨i25, i26, i27⟩ => m_record_Get_j1 p0 x14 x3 i25 i26 i27 = some r) ?_ (fun ⟨i25, i26, i27⟩ u hm => ?_)
  ·
   refine c_seq ?_
   refine c_region ?_
   refine g_v rfl r_move ?_
   refine g_v rfl (r_eql rfl rfl) ?_
   refine g_nil ?_
   refine d_then ?_
   refine c_cond rfl (fun h119 => ?_) (fun h119 => ?_)
   ·
    replace hm := ite_t hm (of_decide_eq_true h119)
    refine c_region ?_
    refine g_v rfl r_move ?_
    refine g_v rfl r_move ?_
    replace hm := bnd hm
    obtain ⟨⟨x120, x121, x122⟩, hx123, hm⟩ := hm
    refine g_cn ⟨w0, M, _, _, φ⟩ (fun _ h => h) Try.call58 rfl rfl (c_pack_Word p0 x15 _ hx123) (fun _ _ => ?_)
    refine g_v rfl r_move ?_
    refine g_v rfl (r_extract rfl rfl) ?_
    refine g_v rfl (r_extract rfl rfl) ?_
    refine g_v rfl (r_extract rfl rfl) ?_
    refine g_v rfl (r_field (n := 2) Try.underlying27 rfl Try.sizeOf24 rfl rfl) ?_
    refine g_storeL (tag := 100070) rfl rfl rfl rfl Try.sizeOf24 rfl rfl ?_
    refine g_v rfl r_assign ?_
    refine g_v rfl r_assign ?_
    refine g_nil ?_
    exact d_round (x121, x122, x120) hm Nat.zero_lt_one ⟨rfl, rfl, rfl, rfl, rfl, rfl, trivial⟩ (fun W h => h.phi (fun W hφ => hφ))
   ·
    replace hm := ite_f hm (of_decide_eq_false h119)
    refine c_skip ?_
    exact d_round (x15, x16, 0) hm Nat.zero_lt_one ⟨rfl, rfl, rfl, rfl, rfl, rfl, trivial⟩ (fun W h => h.phi (fun W hφ => hφ))
  ·
   unfold m_record_Get_j1 at hm
   refine d_flat [(0, .string p0), (1, .int .i64 i25), (4, .pointer (some ⟨g1, 0, none⟩)), (7, .pointer (some ⟨g2, 0, none⟩)), (8, .func (.func 56) #[] #[]), (10, .int .i64 i26)] ⟨rfl, rfl, rfl, rfl, rfl, rfl, trivial⟩ (fun u => ?_)
   refine d_sta ⟨w0, M, (100070, g2, .cells #[.string x3, .int .u16 x14, .int .u16 i27, .int .u32 0, .string (⟨#[]⟩ : ByteArray)] 27 (0, 0)) :: (100040, g1, .cells #[.string (⟨#[]⟩ : ByteArray), .int .u16 0, .int .u16 0, .int .u32 0, .string (⟨#[]⟩ : ByteArray)] 27 (0, 0)) :: H, R, φ⟩ (fun _ h => h) ?_
   refine d_then ?_
   refine c_seq ?_
   refine c_cut (ι := Int × Int × Int) [0, 1, 4, 7, 8, 10] (fun ⟨i34, i35, i36⟩ => [(1, .int .i64 i34), (10, .int .i64 i35)]) (fun ⟨i34, i35, i36⟩ => ⟨w0, M, (100070, g2, .cells #[.string x3, .int .u16 x14, .int .u16 i27, .int .u32 i36, .string (⟨#[]⟩ : ByteArray)] 27 (0, 0)) :: (100040, g1, .cells #[.string (⟨#[]⟩ : ByteArray), .int .u16 0, .int .u16 0, .int .u32 0, .string (⟨#[]⟩ : ByteArray)] 27 (0, 0)) :: H, R, φ⟩) (fun ⟨i34, i35, i36⟩ => m_record_Get_j2 p0 x14 x3 i27 i34 i35 i36 = some r) ?_ (fun ⟨i34, i35, i36⟩ u hm => ?_)
   ·
    refine c_seq ?_
    refine c_region ?_
    refine g_v rfl r_move ?_
    refine g_v rfl (r_eql rfl rfl) ?_
    refine g_nil ?_
    refine d_then ?_
    refine c_cond rfl (fun h113 => ?_) (fun h113 => ?_)
    ·
     replace hm := ite_t hm (of_decide_eq_true h113)
     refine c_region ?_
     refine g_v rfl r_move ?_
     refine g_v rfl r_move ?_
     replace hm := bnd hm
     obtain ⟨⟨x114, x115, x116⟩, hx117, hm⟩ := hm
     refine g_cn ⟨w0, M, _, _, φ⟩ (fun _ h => h) Try.call59 rfl rfl (c_pack_Long p0 i25 _ hx117) (fun _ _ => ?_)
     refine g_v rfl r_move ?_
     refine g_v rfl (r_extract rfl rfl) ?_
     refine g_v rfl (r_extract rfl rfl) ?_
     refine g_v rfl (r_extract rfl rfl) ?_
     refine g_v rfl (r_field (n := 3) Try.underlying27 rfl Try.sizeOf25 rfl rfl) ?_
     refine g_storeL (tag := 100070) rfl rfl rfl rfl Try.sizeOf25 rfl rfl ?_
     refine g_v rfl r_assign ?_
     refine g_v rfl r_assign ?_
     refine g_nil ?_
     exact d_round (x115, x116, x114) hm Nat.zero_lt_one ⟨rfl, rfl, rfl, rfl, rfl, rfl, trivial⟩ (fun W h => h.phi (fun W hφ => hφ))
    ·
     replace hm := ite_f hm (of_decide_eq_false h113)
     refine c_skip ?_
     exact d_round (i25, i26, 0) hm Nat.zero_lt_one ⟨rfl, rfl, rfl, rfl, rfl, rfl, trivial⟩ (fun W h => h.phi (fun W hφ => hφ))
   ·
    unfold m_record_Get_j2 at hm
    refine d_flat [(0, .string p0), (1, .int .i64 i34), (4, .pointer (some ⟨g1, 0, none⟩)), (7, .pointer (some ⟨g2, 0, none⟩)), (8, .func (.func 56) #[] #[]), (10, .int .i64 i35)] ⟨rfl, rfl, rfl, rfl, rfl, rfl, trivial⟩ (fun u => ?_)
    refine d_sta ⟨w0, M, (100070, g2, .cells #[.string x3, .int .u16 x14, .int .u16 i27, .int .u32 i36, .string (⟨#[]⟩ : ByteArray)] 27 (0, 0)) :: (100040, g1, .cells #[.string (⟨#[]⟩ : ByteArray), .int .u16 0, .int .u16 0, .int .u32 0, .string (⟨#[]⟩ : ByteArray)] 27 (0, 0)) :: H, R, φ⟩ (fun _ h => h) ?_
    refine d_then ?_
    refine c_seq ?_
    refine c_seq ?_
    refine c_region ?_
    refine g_v rfl r_move ?_
    refine g_v rfl (r_neq rfl rfl) ?_
    refine g_nil ?_
    refine d_then ?_
    refine c_cond rfl (fun h37 => ?_) (fun h37 => ?_)
    ·
     replace hm := ite_t hm (of_decide_eq_true h37)
     refine c_seq ?_
     refine c_region ?_
     refine g_v rfl r_move ?_
     refine g_v rfl r_move ?_
     replace hm := bnd hm
     obtain ⟨⟨x38, x39, x40⟩, hx41, hm⟩ := hm
     refine g_cnv ⟨w0, M, _, _, φ⟩ (fun _ h => h) Try.call56 rfl rfl rfl (c_record_Get_c1 i35 _ hx41) (fun _ _ => ?_)
     refine g_v rfl (r_extract rfl rfl) ?_
     refine g_v rfl (r_extract rfl rfl) ?_
     refine g_v rfl (r_extract rfl rfl) ?_
     refine g_storeL (tag := 100040) rfl rfl rfl rfl Try.sizeOf27 rfl rfl ?_
     refine g_v rfl r_assign ?_
     refine g_v rfl r_assign ?_
     refine g_nil ?_
     refine d_then ?_
     refine c_flat [(4, .pointer (some ⟨g1, 0, none⟩)), (5, .int .i64 x39), (6, .int .i64 x40)] ⟨rfl, rfl, rfl, trivial⟩ (fun u => ?_)
     refine c_sta ⟨w0, M, (100070, g2, .cells #[.string x3, .int .u16 x14, .int .u16 i27, .int .u32 i36, .string (⟨#[]⟩ : ByteArray)] 27 (0, 0)) :: (100040, g1, .cells #[.string x38.fName, .int .u16 x38.fType, .int .u16 x38.fClass, .int .u32 x38.fTTL, .string x38.fData] 27 (0, 0)) :: H, R, φ⟩ (fun _ h => h) ?_
     refine c_ret ?_
     refine d_ret_then ?_
     replace hm := Option.some.inj hm
     subst hm
     refine d_retC () Try.results18 ?_ trivial (fun W h => ok_pre (H1 := [_, _]) (R1 := []) h (fun W hφ => hφ)) (.inr rfl)
     refine res_agg (tag := 100040) rfl rfl Try.isAgg27 Try.sizeOf27 ?_
     refine res_tmp ?_
     refine res_tmp ?_
     refine res_nil ?_
     exact rfl
    ·
     replace hm := ite_f hm (of_decide_eq_false h37)
     refine c_skip ?_
     refine d_then ?_
     refine c_seq ?_
     refine c_region ?_
     refine g_v rfl r_move ?_
     refine g_v rfl r_move ?_
     replace hm := bnd hm
     obtain ⟨⟨x43, x44, x45⟩, hx46, hm⟩ := hm
     refine g_cn ⟨w0, M, _, _, φ⟩ (fun _ h => h) Try.call58 rfl rfl (c_pack_Word p0 i34 _ hx46) (fun _ _ => ?_)
     refine g_v rfl r_move ?_
     refine g_v rfl (r_extract rfl rfl) ?_
     refine g_v rfl (r_extract rfl rfl) ?_
     refine g_v rfl (r_extract rfl rfl) ?_
     refine g_v rfl r_assign ?_
     refine g_v rfl r_assign ?_
     refine g_v rfl r_assign ?_
     refine g_nil ?_
     refine d_then ?_
     refine c_flat [(0, .string p0), (1, .int .i64 x44), (4, .pointer (some ⟨g1, 0, none⟩)), (7, .pointer (some ⟨g2, 0, none⟩)), (8, .func (.func 56) #[] #[]), (10, .int .i64 x45), (11, .int .u16 x43)] ⟨rfl, rfl, rfl, rfl, rfl, rfl, rfl, trivial⟩ (fun u => ?_)
     refine c_sta ⟨w0, M, (100070, g2, .cells #[.string x3, .int .u16 x14, .int .u16 i27, .int .u32 i36, .string (⟨#[]⟩ : ByteArray)] 27 (0, 0)) :: (100040, g1, .cells #[.string (⟨#[]⟩ : ByteArray), .int .u16 0, .int .u16 0, .int .u32 0, .string (⟨#[]⟩ : ByteArray)] 27 (0, 0)) :: H, R, φ⟩ (fun _ h => h) ?_
     refine c_seq ?_
     refine c_seq ?_
     refine c_region ?_
     refine g_v rfl r_move ?_
     refine g_v rfl (r_neq rfl rfl) ?_
     refine g_nil ?_
     refine d_then ?_
     refine c_cond rfl (fun h48 => ?_) (fun h48 => ?_)
     ·
      replace hm := ite_t hm (of_decide_eq_true h48)
      refine c_seq ?_
      refine c_region ?_
      refine g_v rfl r_move ?_
      refine g_v rfl r_move ?_
      replace hm := bnd hm
      obtain ⟨⟨x49, x50, x51⟩, hx52, hm⟩ := hm
      refine g_cnv ⟨w0, M, _, _, φ⟩ (fun _ h => h) Try.call56 rfl rfl rfl (c_record_Get_c1 x45 _ hx52) (fun _ _ => ?_)
      refine g_v rfl (r_extract rfl rfl) ?_
      refine g_v rfl (r_extract rfl rfl) ?_
      refine g_v rfl (r_extract rfl rfl) ?_
      refine g_storeL (tag := 100040) rfl rfl rfl rfl Try.sizeOf27 rfl rfl ?_
      refine g_v rfl r_assign ?_
      refine g_v rfl r_assign ?_
      refine g_nil ?_
      refine d_then ?_
      refine c_flat [(4, .pointer (some ⟨g1, 0, none⟩)), (5, .int .i64 x50), (6, .int .i64 x51)] ⟨rfl, rfl, rfl, trivial⟩ (fun u => ?_)
      refine c_sta ⟨w0, M, (100070, g2, .cells #[.string x3, .int .u16 x14, .int .u16 i27, .int .u32 i36, .string (⟨#[]⟩ : ByteArray)] 27 (0, 0)) :: (100040, g1, .cells #[.string x49.fName, .int .u16 x49.fType, .int .u16 x49.fClass, .int .u32 x49.fTTL, .string x49.fData] 27 (0, 0)) :: H, R, φ⟩ (fun _ h => h) ?_
      refine c_ret ?_
      refine d_ret_then ?_
      replace hm := Option.some.inj hm
      subst hm
      refine d_retC () Try.results18 ?_ trivial (fun W h => ok_pre (H1 := [_, _]) (R1 := []) h (fun W hφ => hφ)) (.inr rfl)
      refine res_agg (tag := 100040) rfl rfl Try.isAgg27 Try.sizeOf27 ?_
      refine res_tmp ?_
      refine res_tmp ?_
      refine res_nil ?_
      exact rfl
     ·
      replace hm := ite_f hm (of_decide_eq_false h48)
      refine c_skip ?_
      refine d_then ?_
      refine c_seq ?_
      refine c_region ?_
      refine g_v rfl r_move ?_
      refine g_v rfl r_move ?_
      refine g_v rfl r_move ?_
      refine g_v rfl (r_conv Try.underlying24 Try.underlying3 rfl rfl) ?_
      replace hm := bnd hm
      obtain ⟨⟨x54, x55, x56⟩, hx57, hm⟩ := hm
      refine g_cn ⟨w0, M, _, _, φ⟩ (fun _ h => h) Try.call60 rfl rfl (c_pack_Raw p0 x44 (w64 x43) _ hx57) (fun _ _ => ?_)
      refine g_v rfl r_move ?_
      refine g_v rfl (r_extract rfl rfl) ?_
      refine g_v rfl (r_extract rfl rfl) ?_
      refine g_v rfl (r_extract rfl rfl) ?_
      refine g_v rfl r_assign ?_
      refine g_v rfl r_assign ?_
      refine g_v rfl r_assign ?_
      refine g_nil ?_
      refine d_then ?_
      refine c_flat [(0, .string p0), (1, .int .i64 x44), (4, .pointer (some ⟨g1, 0, none⟩)), (7, .pointer (some ⟨g2, 0, none⟩)), (8, .func (.func 56) #[] #[]), (10, .int .i64 x56), (12, .string x54), (13, .int .i64 x55)] ⟨rfl, rfl, rfl, rfl, rfl, rfl, rfl, rfl, trivial⟩ (fun u => ?_)
      refine c_sta ⟨w0, M, (100070, g2, .cells #[.string x3, .int .u16 x14, .int .u16 i27, .int .u32 i36, .string (⟨#[]⟩ : ByteArray)] 27 (0, 0)) :: (100040, g1, .cells #[.string (⟨#[]⟩ : ByteArray), .int .u16 0, .int .u16 0, .int .u32 0, .string (⟨#[]⟩ : ByteArray)] 27 (0, 0)) :: H, R, φ⟩ (fun _ h => h) ?_
      refine c_seq ?_
      refine c_seq ?_
      refine c_region ?_
      refine g_v rfl r_move ?_
      refine g_v rfl (r_neq rfl rfl) ?_
      refine g_nil ?_
      refine d_then ?_
      refine c_cond rfl (fun h59 => ?_) (fun h59 => ?_)
      ·
       replace hm := ite_t hm (of_decide_eq_true h59)
       refine c_seq ?_
       refine c_region ?_
       refine g_v rfl r_move ?_
       refine g_v rfl r_move ?_
       replace hm := bnd hm
       obtain ⟨⟨x60, x61, x62⟩, hx63, hm⟩ := hm
       refine g_cnv ⟨w0, M, _, _, φ⟩ (fun _ h => h) Try.call56 rfl rfl rfl (c_record_Get_c1 x56 _ hx63) (fun _ _ => ?_)
       refine g_v rfl (r_extract rfl rfl) ?_
       refine g_v rfl (r_extract rfl rfl) ?_
       refine g_v rfl (r_extract rfl rfl) ?_
       refine g_storeL (tag := 100040) rfl rfl rfl rfl Try.sizeOf27 rfl rfl ?_
       refine g_v rfl r_assign ?_
       refine g_v rfl r_assign ?_
       refine g_nil ?_
       refine d_then ?_
       refine c_flat [(4, .pointer (some ⟨g1, 0, none⟩)), (5, .int .i64 x61), (6, .int .i64 x62)] ⟨rfl, rfl, rfl, trivial⟩ (fun u => ?_)
       refine c_sta ⟨w0, M, (100070, g2, .cells #[.string x3, .int .u16 x14, .int .u16 i27, .int .u32 i36, .string (⟨#[]⟩ : ByteArray)] 27 (0, 0)) :: (100040, g1, .cells #[.string x60.fName, .int .u16 x60.fType, .int .u16 x60.fClass, .int .u32 x60.fTTL, .string x60.fData] 27 (0, 0)) :: H, R, φ⟩ (fun _ h => h) ?_
       refine c_ret ?_
       refine d_ret_then ?_
       replace hm := Option.some.inj hm
       subst hm
       refine d_retC () Try.results18 ?_ trivial (fun W h => ok_pre (H1 := [_, _]) (R1 := []) h (fun W hφ => hφ)) (.inr rfl)
       refine res_agg (tag := 100040) rfl rfl Try.isAgg27 Try.sizeOf27 ?_
       refine res_tmp ?_
       refine res_tmp ?_
       refine res_nil ?_
       exact rfl
      ·
       replace hm := ite_f hm (of_decide_eq_false h59)
       refine c_skip ?_
       refine d_then ?_
       refine c_seq ?_
       refine c_region ?_
       refine g_v rfl r_move ?_
       refine g_v rfl (r_field (n := 4) Try.underlying27 rfl Try.sizeOf9 rfl rfl) ?_
       refine g_storeL (tag := 100070) rfl rfl rfl rfl Try.sizeOf9 rfl rfl ?_
       refine g_nil ?_
       refine d_then ?_
       refine c_seq ?_
       refine c_region ?_
       refine g_v rfl (r_field (n := 1) Try.underlying27 rfl Try.sizeOf24 rfl rfl) ?_
       refine g_v rfl (r_load (tag := 100070) rfl rfl rfl Try.isAgg24) ?_
       replace hm := bnd hm
       obtain ⟨x65, hx66, hm⟩ := hm
       refine g_cn ⟨w0, M, _, _, φ⟩ (fun _ h => h) Try.call61 rfl rfl (c_record_shapeOf x14 _ hx66) (fun _ _ => ?_)
       refine g_e rfl (e_alloc 100140 Try.zeroValue90) (fun g67 _ => ?_)
       refine g_storeL (tag := 100140) rfl rfl rfl rfl Try.sizeOf90 rfl rfl ?_
       refine g_nil ?_
       refine d_then ?_
       refine c_flat [(0, .string p0), (1, .int .i64 x44), (4, .pointer (some ⟨g1, 0, none⟩)), (7, .pointer (some ⟨g2, 0, none⟩)), (8, .func (.func 56) #[] #[]), (13, .int .i64 x55), (14, .pointer (some ⟨g67, 0, none⟩))] ⟨rfl, rfl, rfl, rfl, rfl, rfl, rfl, trivial⟩ (fun u => ?_)
       refine c_sta ⟨w0, M, (100140, g67, .cells #[.int .i64 x65.fahead, .int .i64 x65.fnames, .int .i64 x65.fbehind] 90 (0, 0)) :: (100070, g2, .cells #[.string x3, .int .u16 x14, .int .u16 i27, .int .u32 i36, .string x54] 27 (0, 0)) :: (100040, g1, .cells #[.string (⟨#[]⟩ : ByteArray), .int .u16 0, .int .u16 0, .int .u32 0, .string (⟨#[]⟩ : ByteArray)] 27 (0, 0)) :: H, R, φ⟩ (fun _ h => h) ?_
       refine c_seq ?_
       refine c_cut (ι := ByteArray) [4, 7, 8, 13] (fun s86 => []) (fun s86 => ⟨w0, M, (100070, g2, .cells #[.string x3, .int .u16 x14, .int .u16 i27, .int .u32 i36, .string s86] 27 (0, 0)) :: (100040, g1, .cells #[.string (⟨#[]⟩ : ByteArray), .int .u16 0, .int .u16 0, .int .u32 0, .string (⟨#[]⟩ : ByteArray)] 27 (0, 0)) :: H, R, φ⟩) (fun s86 => m_record_Get_j3 x3 x14 i27 i36 x55 s86 = some r) ?_ (fun s86 u hm => ?_)
       ·
        refine c_seq ?_
        refine c_region ?_
        refine g_v rfl (r_field (n := 1) Try.underlying90 rfl Try.sizeOf3 rfl rfl) ?_
        refine g_v rfl (r_load (tag := 100140) rfl rfl rfl Try.isAgg3) ?_
        refine g_v rfl (r_gtr rfl rfl) ?_
        refine g_nil ?_
        refine d_then ?_
        refine c_cond rfl (fun h95 => ?_) (fun h95 => ?_)
        ·
         replace hm := ite_t hm (of_decide_eq_true h95)
         refine c_seq ?_
         refine c_region ?_
         refine g_v rfl r_move ?_
         refine g_v rfl r_move ?_
         refine g_v rfl (r_loadA (tag := 100140) rfl rfl Try.isAgg90 Try.sizeOf90 rfl rfl) ?_
         replace hm := bnd hm
         obtain ⟨⟨x96, x97, x98⟩, hx99, hm⟩ := hm
         refine g_cn ⟨w0, M, _, _, φ⟩ (fun _ h => h) Try.call62 rfl rfl (c_record_full p0 x44 x65 _ hx99) (fun _ _ => ?_)
         refine g_v rfl r_move ?_
         refine g_v rfl (r_extract rfl rfl) ?_
         refine g_v rfl (r_extract rfl rfl) ?_
         refine g_v rfl (r_extract rfl rfl) ?_
         refine g_v rfl r_assign ?_
         refine g_v rfl r_assign ?_
         refine g_v rfl r_assign ?_
         refine g_nil ?_
         refine d_then ?_
         refine c_flat [(4, .pointer (some ⟨g1, 0, none⟩)), (7, .pointer (some ⟨g2, 0, none⟩)), (8, .func (.func 56) #[] #[]), (13, .int .i64 x55), (15, .string x96), (16, .int .i64 x97), (17, .int .i64 x98)] ⟨rfl, rfl, rfl, rfl, rfl, rfl, rfl, trivial⟩ (fun u => ?_)
         refine c_sta ⟨w0, M, (100140, g67, .cells #[.int .i64 x65.fahead, .int .i64 x65.fnames, .int .i64 x65.fbehind] 90 (0, 0)) :: (100070, g2, .cells #[.string x3, .int .u16 x14, .int .u16 i27, .int .u32 i36, .string x54] 27 (0, 0)) :: (100040, g1, .cells #[.string (⟨#[]⟩ : ByteArray), .int .u16 0, .int .u16 0, .int .u32 0, .string (⟨#[]⟩ : ByteArray)] 27 (0, 0)) :: H, R, φ⟩ (fun _ h => h) ?_
         refine c_seq ?_
         refine c_block ?_
         refine c_seq ?_
         refine c_region ?_
         refine g_v rfl r_move ?_
         refine g_v rfl (r_neq rfl rfl) ?_
         refine g_v rfl r_assign ?_
         refine g_nil ?_
         refine d_then ?_
         refine c_cond rfl (fun h101 => ?_) (fun h101 => ?_)
         ·
          replace hm := ite_t hm (of_decide_eq_true h101)
          refine c_seq ?_
          refine c_region ?_
          refine g_v rfl r_move ?_
          refine g_v rfl r_move ?_
          replace hm := bnd hm
          obtain ⟨⟨x102, x103, x104⟩, hx105, hm⟩ := hm
          refine g_cnv ⟨w0, M, _, _, φ⟩ (fun _ h => h) Try.call56 rfl rfl rfl (c_record_Get_c1 x98 _ hx105) (fun _ _ => ?_)
          refine g_v rfl (r_extract rfl rfl) ?_
          refine g_v rfl (r_extract rfl rfl) ?_
          refine g_v rfl (r_extract rfl rfl) ?_
          refine g_storeL (tag := 100040) rfl rfl rfl rfl Try.sizeOf27 rfl rfl ?_
          refine g_v rfl r_assign ?_
          refine g_v rfl r_assign ?_
          refine g_nil ?_
          refine d_then ?_
          refine c_flat [(4, .pointer (some ⟨g1, 0, none⟩)), (5, .int .i64 x103), (6, .int .i64 x104)] ⟨rfl, rfl, rfl, trivial⟩ (fun u => ?_)
          refine c_sta ⟨w0, M, (100140, g67, .cells #[.int .i64 x65.fahead, .int .i64 x65.fnames, .int .i64 x65.fbehind] 90 (0, 0)) :: (100070, g2, .cells #[.string x3, .int .u16 x14, .int .u16 i27, .int .u32 i36, .string x54] 27 (0, 0)) :: (100040, g1, .cells #[.string x102.fName, .int .u16 x102.fType, .int .u16 x102.fClass, .int .u32 x102.fTTL, .string x102.fData] 27 (0, 0)) :: H, R, φ⟩ (fun _ h => h) ?_
          refine c_ret ?_
          refine d_ret_block ?_
          refine d_ret_then ?_
          refine d_ret_then ?_
          refine d_ret_then ?_
          replace hm := Option.some.inj hm
          subst hm
          refine d_retC () Try.results18 ?_ trivial (fun W h => ok_pre (H1 := [_, _, _]) (R1 := []) h (fun W hφ => hφ)) (.inr rfl)
          refine res_agg (tag := 100040) rfl rfl Try.isAgg27 Try.sizeOf27 ?_
          refine res_tmp ?_
          refine res_tmp ?_
          refine res_nil ?_
          exact rfl
         ·
          replace hm := ite_f hm (of_decide_eq_false h101)
          refine c_seq ?_
          refine c_region ?_
          refine g_v rfl r_move ?_
          refine g_v rfl r_move ?_
          refine g_v rfl (r_neq rfl rfl) ?_
          refine g_v rfl r_assign ?_
          refine g_nil ?_
          refine d_then ?_
          refine c_cond rfl (fun h107 => ?_) (fun h107 => ?_)
          ·
           replace hm := ite_t hm (of_decide_eq_true h107)
           refine c_seq ?_
           refine c_region ?_
           refine g_v rfl r_move ?_
           replace hm := bnd hm
           obtain ⟨⟨x108, x109, x110⟩, hx111, hm⟩ := hm
           refine g_cnv ⟨w0, M, _, _, φ⟩ (fun _ h => h) Try.call56 rfl rfl rfl (c_record_Get_c1 10 _ hx111) (fun _ _ => ?_)
           refine g_v rfl (r_extract rfl rfl) ?_
           refine g_v rfl (r_extract rfl rfl) ?_
           refine g_v rfl (r_extract rfl rfl) ?_
           refine g_storeL (tag := 100040) rfl rfl rfl rfl Try.sizeOf27 rfl rfl ?_
           refine g_v rfl r_assign ?_
           refine g_v rfl r_assign ?_
           refine g_nil ?_
           refine d_then ?_
           refine c_flat [(4, .pointer (some ⟨g1, 0, none⟩)), (5, .int .i64 x109), (6, .int .i64 x110)] ⟨rfl, rfl, rfl, trivial⟩ (fun u => ?_)
           refine c_sta ⟨w0, M, (100140, g67, .cells #[.int .i64 x65.fahead, .int .i64 x65.fnames, .int .i64 x65.fbehind] 90 (0, 0)) :: (100070, g2, .cells #[.string x3, .int .u16 x14, .int .u16 i27, .int .u32 i36, .string x54] 27 (0, 0)) :: (100040, g1, .cells #[.string x108.fName, .int .u16 x108.fType, .int .u16 x108.fClass, .int .u32 x108.fTTL, .string x108.fData] 27 (0, 0)) :: H, R, φ⟩ (fun _ h => h) ?_
           refine c_ret ?_
           refine d_ret_block ?_
           refine d_ret_then ?_
           refine d_ret_then ?_
           refine d_ret_then ?_
           replace hm := Option.some.inj hm
           subst hm
           refine d_retC () Try.results18 ?_ trivial (fun W h => ok_pre (H1 := [_, _, _]) (R1 := []) h (fun W hφ => hφ)) (.inr rfl)
           refine res_agg (tag := 100040) rfl rfl Try.isAgg27 Try.sizeOf27 ?_
           refine res_tmp ?_
           refine res_tmp ?_
           refine res_nil ?_
           exact rfl
          ·
           replace hm := ite_f hm (of_decide_eq_false h107)
           refine c_skip ?_
           refine d_normal_block ?_
           refine d_then ?_
           refine c_region ?_
           refine g_v rfl r_move ?_
           refine g_v rfl (r_field (n := 4) Try.underlying27 rfl Try.sizeOf9 rfl rfl) ?_
           refine g_storeL (tag := 100070) rfl rfl rfl rfl Try.sizeOf9 rfl rfl ?_
           refine g_nil ?_
           exact d_round x96 hm Nat.zero_lt_one ⟨rfl, rfl, rfl, rfl, trivial⟩ (fun W h => (h.dropH (t := 100140) rfl).phi (fun W hφ => hφ))
        ·
         replace hm := ite_f hm (of_decide_eq_false h95)
         refine c_skip ?_
         exact d_round x54 hm Nat.zero_lt_one ⟨rfl, rfl, rfl, rfl, trivial⟩ (fun W h => (h.dropH (t := 100140) rfl).phi (fun W hφ => hφ))
       ·
        unfold m_record_Get_j3 at hm
        refine d_flat [(4, .pointer (some ⟨g1, 0, none⟩)), (7, .pointer (some ⟨g2, 0, none⟩)), (8, .func (.func 56) #[] #[]), (13, .int .i64 x55)] ⟨rfl, rfl, rfl, rfl, trivial⟩ (fun u => ?_)
        refine d_sta ⟨w0, M, (100070, g2, .cells #[.string x3, .int .u16 x14, .int .u16 i27, .int .u32 i36, .string s86] 27 (0, 0)) :: (100040, g1, .cells #[.string (⟨#[]⟩ : ByteArray), .int .u16 0, .int .u16 0, .int .u32 0, .string (⟨#[]⟩ : ByteArray)] 27 (0, 0)) :: H, R, φ⟩ (fun _ h => h) ?_
        refine d_then ?_
        refine c_seq ?_
        refine c_region ?_
        refine g_v rfl (r_loadA (tag := 100070) rfl rfl Try.isAgg27 Try.sizeOf27 rfl rfl) ?_
        replace hm := bnd hm
        obtain ⟨x87, hx88, hm⟩ := hm
        refine g_cn ⟨w0, M, _, _, φ⟩ (fun _ h => h) Try.call31 rfl rfl (c_record_Check (⟨x3, x14, i27, i36, s86⟩ : GRR) _ hx88) (fun _ _ => ?_)
        refine g_v rfl r_assign ?_
        refine g_nil ?_
        refine d_then ?_
        refine c_seq ?_
        refine c_seq ?_
        refine c_region ?_
        refine g_v rfl r_move ?_
        refine g_v rfl (r_neq rfl rfl) ?_
        refine g_nil ?_
        refine d_then ?_
        refine c_cond rfl (fun h89 => ?_) (fun h89 => ?_)
        ·
         replace hm := ite_t hm (of_decide_eq_true h89)
         refine c_seq ?_
         refine c_region ?_
         refine g_v rfl r_move ?_
         refine g_v rfl r_move ?_
         replace hm := bnd hm
         obtain ⟨⟨x90, x91, x92⟩, hx93, hm⟩ := hm
         refine g_cnv ⟨w0, M, _, _, φ⟩ (fun _ h => h) Try.call56 rfl rfl rfl (c_record_Get_c1 x87 _ hx93) (fun _ _ => ?_)
         refine g_v rfl (r_extract rfl rfl) ?_
         refine g_v rfl (r_extract rfl rfl) ?_
         refine g_v rfl (r_extract rfl rfl) ?_
         refine g_storeL (tag := 100040) rfl rfl rfl rfl Try.sizeOf27 rfl rfl ?_
         refine g_v rfl r_assign ?_
         refine g_v rfl r_assign ?_
         refine g_nil ?_
         refine d_then ?_
         refine c_flat [(4, .pointer (some ⟨g1, 0, none⟩)), (5, .int .i64 x91), (6, .int .i64 x92)] ⟨rfl, rfl, rfl, trivial⟩ (fun u => ?_)
         refine c_sta ⟨w0, M, (100070, g2, .cells #[.string x3, .int .u16 x14, .int .u16 i27, .int .u32 i36, .string s86] 27 (0, 0)) :: (100040, g1, .cells #[.string x90.fName, .int .u16 x90.fType, .int .u16 x90.fClass, .int .u32 x90.fTTL, .string x90.fData] 27 (0, 0)) :: H, R, φ⟩ (fun _ h => h) ?_
         refine c_ret ?_
         refine d_ret_then ?_
         replace hm := Option.some.inj hm
         subst hm
         refine d_retC () Try.results18 ?_ trivial (fun W h => ok_pre (H1 := [_, _]) (R1 := []) h (fun W hφ => hφ)) (.inr rfl)
         refine res_agg (tag := 100040) rfl rfl Try.isAgg27 Try.sizeOf27 ?_
         refine res_tmp ?_
         refine res_tmp ?_
         refine res_nil ?_
         exact rfl
        ·
         replace hm := ite_f hm (of_decide_eq_false h89)
         refine c_skip ?_
         refine d_then ?_
         refine c_seq ?_
         refine c_region ?_
         refine g_v rfl (r_loadA (tag := 100070) rfl rfl Try.isAgg27 Try.sizeOf27 rfl rfl) ?_
         refine g_v rfl r_move ?_
         refine g_storeL (tag := 100040) rfl rfl rfl rfl Try.sizeOf27 rfl rfl ?_
         refine g_v rfl r_assign ?_
         refine g_v rfl r_assign ?_
         refine g_nil ?_
         refine d_then ?_
         refine c_flat [(4, .pointer (some ⟨g1, 0, none⟩)), (5, .int .i64 x55), (6, .int .i64 0)] ⟨rfl, rfl, rfl, trivial⟩ (fun u => ?_)
         refine c_sta ⟨w0, M, (100070, g2, .cells #[.string x3, .int .u16 x14, .int .u16 i27, .int .u32 i36, .string s86] 27 (0, 0)) :: (100040, g1, .cells #[.string x3, .int .u16 x14, .int .u16 i27, .int .u32 i36, .string s86] 27 (0, 0)) :: H, R, φ⟩ (fun _ h => h) ?_
         refine c_ret ?_
         replace hm := Option.some.inj hm
         subst hm
         refine d_retC () Try.results18 ?_ trivial (fun W h => ok_pre (H1 := [_, _]) (R1 := []) h (fun W hφ => hφ)) (.inr rfl)
         refine res_agg (tag := 100040) rfl rfl Try.isAgg27 Try.sizeOf27 ?_
         refine res_tmp ?_
         refine res_tmp ?_
         refine res_nil ?_
         exact rfl

theorem bld27_14 (z0 : ByteArray) (z1 : Int) (z2 : ByteArray) : ∀ W, (Instr.build 27 #[(0, .string z0), (1, .int .u16 z1), (4, .string z2)]).run Try.prog W = .ok (.agg #[.string z0, .int .u16 z1, .int .u16 0, .int .u32 0, .string z2]) W := fun _ => by kernel_rfl
theorem bld27_15 (z0 : ByteArray) (z1 : Int) : ∀ W, (Instr.build 27 #[(0, .string z0), (1, .int .u16 z1)]).run Try.prog W = .ok (.agg #[.string z0, .int .u16 z1, .int .u16 0, .int .u32 0, .string (⟨#[]⟩ : ByteArray)]) W := fun _ => by kernel_rfl
noncomputable def m_record_Life (p0 : Int) : Option Int :=
  if p0 / 2147483648 = 1 then
    some 0
  else
    some p0
theorem c_record_Life {w0 : World} {M : Nat → Prop} {H : List (Nat × Nat × Obj)} {R : List (Nat × Row)} {φ : World → Prop} (p0 : Int) (r : Int) (hm : m_record_Life p0 = some r) :
    Cn Try.prog 33 #[.int .u32 p0] ⟨w0, M, H, R, φ⟩ (fun x : Unit => .int .u32 r) (fun x => True) (fun x => ⟨w0, M, H, R, φ⟩) := by
 unfold m_record_Life at hm
 refine cn_intro (fn := Try.f33) (N := 7) Try.func33 rfl Try.ntmps33 rfl ?_
 refine c_seq ?_
 refine c_region ?_
 refine g_v rfl r_assign ?_
 refine g_nil ?_
 refine d_then ?_
 refine c_seq ?_
 refine c_seq ?_
 refine c_region ?_
 refine g_v rfl r_move ?_
 refine g_v rfl (r_shr (n := 2147483648) rfl rfl (by decide) (by decide) (by decide)) ?_
 refine g_v rfl (r_eql rfl rfl) ?_
 refine g_nil ?_
 refine d_then ?_
 refine c_cond rfl (fun h1 => ?_) (fun h1 => ?_)
 ·
  replace hm := ite_t hm (of_decide_eq_true h1)
  refine c_seq ?_
  refine c_region ?_
  refine g_v rfl r_assign ?_
  refine g_nil ?_
  refine d_then ?_
  refine c_ret ?_
  refine d_ret_then ?_
  replace hm := Option.some.inj hm
  subst hm
  refine d_retC () Try.results33 ?_ trivial (fun W h => ok_pre (H1 := []) (R1 := []) h (fun W hφ => hφ)) (.inr rfl)
  refine res_tmp ?_
  refine res_nil ?_
  exact rfl
 ·
  replace hm := ite_f hm (of_decide_eq_false h1)
  refine c_skip ?_
  refine d_then ?_
  refine c_seq ?_
  refine c_region ?_
  refine g_v rfl r_move ?_
  refine g_v rfl r_assign ?_
  refine g_nil ?_
  refine d_then ?_
  refine c_ret ?_
  replace hm := Option.some.inj hm
  subst hm
  refine d_retC () Try.results33 ?_ trivial (fun W h => ok_pre (H1 := []) (R1 := []) h (fun W hφ => hφ)) (.inr rfl)
  refine res_tmp ?_
  refine res_nil ?_
  exact rfl

noncomputable def m_law05_awake  : Option Bool :=
  (m_pack_New).bind fun x1 =>
  (m_record_Put (⟨(⟨#[3, 119, 119, 119, 1, 97, 0]⟩ : ByteArray), 1, 1, 60, (⟨#[1, 2, 3, 4]⟩ : ByteArray)⟩ : GRR) x1).bind fun (z19 : Int × Gpack_Packer) =>
  (m_pack_Packer_Bytes z19.2).bind fun x20 =>
  (m_record_Get x20 0).bind fun (z26 : GRR × Int × Int) =>
  if z19.1 = 0 then
    if x20 = (⟨#[3, 119, 119, 119, 1, 97, 0, 0, 1, 0, 1, 0, 0, 0, 60, 0, 4, 1, 2, 3, 4]⟩ : ByteArray) then
      if z26.2.2 = 0 then
        if z26.2.1 = (x20.size : Int) then
          if z26.1.fTTL = 60 then
            (m_record_Check (⟨(⟨#[0]⟩ : ByteArray), 1, 0, 0, (⟨#[97, 98, 99]⟩ : ByteArray)⟩ : GRR)).bind fun x33 =>
            if x33 = 10 then
              (m_record_Check (⟨(⟨#[0]⟩ : ByteArray), 16, 0, 0, (⟨#[]⟩ : ByteArray)⟩ : GRR)).bind fun x36 =>
              if x36 = 10 then
                (m_record_Life 2147483648).bind fun x39 =>
                if x39 = 0 then
                  (m_record_Life 2147483647).bind fun x42 =>
                  some (decide (x42 = 2147483647))
                else
                  some false
              else
                some false
            else
              some false
          else
            some false
        else
          some false
      else
        some false
    else
      some false
  else
    some false
theorem c_law05_awake {w0 : World} {M : Nat → Prop} {H : List (Nat × Nat × Obj)} {R : List (Nat × Row)} {φ : World → Prop}  (r : Bool) (hm : m_law05_awake = some r) :
    Cn Try.prog 16 #[] ⟨w0, M, H, R, φ⟩ (fun x : Unit => .bool r) (fun x => True) (fun x => ⟨w0, M, H, R, φ⟩) := by
 unfold m_law05_awake at hm
 refine cn_intro (fn := Try.f16) (N := 60) Try.func16 rfl Try.ntmps16 rfl ?_
 refine c_seq ?_
 refine c_region ?_
 refine g_v rfl r_assign ?_
 refine g_nil ?_
 refine d_then ?_
 refine c_seq ?_
 refine c_region ?_
 replace hm := bnd hm
 obtain ⟨x1, hx2, hm⟩ := hm
 refine g_cn ⟨w0, M, _, _, φ⟩ (fun _ h => h) Try.call20 rfl rfl (c_pack_New  _ hx2) (fun ⟨A3, c4, A6, c7, g9⟩ ⟨hc4, hc7⟩ => ?_)
 refine g_sta _ (fun W h => (ok_frontR (t := 2000) (t' := 100070) (ok_frontR (t := 2001) (t' := 100071) (ok_front (t := 3000) (t' := 100075) h rfl) rfl) rfl)) ?_
 refine g_v rfl r_assign ?_
 refine g_nil ?_
 refine d_then ?_
 refine c_seq ?_
 refine c_seq ?_
 refine c_region ?_
 refine g_v rfl r_move ?_
 refine g_v rfl (r_eqlP1 Try.underlying33 rfl rfl) ?_
 refine g_nil ?_
 refine d_then ?_
 refine c_cond0 rfl rfl ?_
 refine c_skip ?_
 refine d_then ?_
 refine c_seq ?_
 refine c_region ?_
 refine g_v rfl r_move ?_
 refine g_v rfl (r_build _ rfl (bld27_1 _ _ _ _ _)) ?_
 replace hm := bnd hm
 obtain ⟨⟨x10, x11⟩, hx12, hm⟩ := hm
 refine g_cn ⟨w0, M, (1000, g9, .cells #[.slice A3 x1.fb.length c4, mapV A6] 100 (0, 0)) :: H, (1000, ⟨.slice A3 x1.fb.length c4, 5, 1, x1.fb.length, x1.fb.flatMap (fun x : Int => [Value.int .u8 x])⟩) :: (1001, ⟨mapV A6, 98, 2, x1.fplaces.length, x1.fplaces.flatMap (mcell (fun x : ByteArray => Value.string x) (fun x : Int => Value.int .i64 x))⟩) :: R, φ⟩ (fun W h => (ok_front (t := 100075) (t' := 1000) (ok_frontR (t := 100070) (t' := 1000) (ok_frontR (t := 100071) (t' := 1001) h rfl) rfl) rfl)) Try.call23 rfl rfl (c_record_Put (⟨(⟨#[3, 119, 119, 119, 1, 97, 0]⟩ : ByteArray), 1, 1, 60, (⟨#[1, 2, 3, 4]⟩ : ByteArray)⟩ : GRR) g9 x1 A3 c4 hc4 A6 c7 trivial _ hx12) (fun ⟨A13, c14, A16, c17⟩ ⟨hc14, hc17⟩ => ?_)
 refine g_sta _ (fun W h => (ok_frontR (t := 2000) (t' := 100070) (ok_frontR (t := 2001) (t' := 100071) (ok_front (t := 1000) (t' := 100075) h rfl) rfl) rfl)) ?_
 refine g_v rfl r_assign ?_
 refine g_nil ?_
 refine d_then ?_
 refine c_flat [(1, .pointer (some ⟨g9, 0, none⟩)), (2, .int .i64 x10)] ⟨rfl, rfl, trivial⟩ (fun u => ?_)
 refine c_sta ⟨w0, M, (100075, g9, .cells #[.slice A13 x11.fb.length c14, mapV A16] 100 (0, 0)) :: H, (100070, ⟨.slice A13 x11.fb.length c14, 5, 1, x11.fb.length, x11.fb.flatMap (fun x : Int => [Value.int .u8 x])⟩) :: (100071, ⟨mapV A16, 98, 2, x11.fplaces.length, x11.fplaces.flatMap (mcell (fun x : ByteArray => Value.string x) (fun x : Int => Value.int .i64 x))⟩) :: R, φ⟩ (fun _ h => h) ?_
 refine c_seq ?_
 refine c_region ?_
 refine g_v rfl r_move ?_
 replace hm := bnd hm
 obtain ⟨x20, hx21, hm⟩ := hm
 refine g_cn ⟨w0, M, (1000, g9, .cells #[.slice A13 x11.fb.length c14, mapV A16] 100 (0, 0)) :: H, (1000, ⟨.slice A13 x11.fb.length c14, 5, 1, x11.fb.length, x11.fb.flatMap (fun x : Int => [Value.int .u8 x])⟩) :: (1001, ⟨mapV A16, 98, 2, x11.fplaces.length, x11.fplaces.flatMap (mcell (fun x : ByteArray => Value.string x) (fun x : Int => Value.int .i64 x))⟩) :: R, φ⟩ (fun W h => (ok_front (t := 100075) (t' := 1000) (ok_frontR (t := 100070) (t' := 1000) (ok_frontR (t := 100071) (t' := 1001) h rfl) rfl) rfl)) Try.call26 rfl rfl (c_pack_Packer_Bytes g9 x11 A13 c14 hc14 A16 c17 trivial _ hx21) (fun _ _ => ?_)
 refine g_sta _ (fun W h => (ok_frontR (t := 1000) (t' := 100070) (ok_frontR (t := 1001) (t' := 100071) (ok_front (t := 1000) (t' := 100075) h rfl) rfl) rfl)) ?_
 refine g_v rfl r_assign ?_
 refine g_nil ?_
 refine d_then ?_
 refine c_seq ?_
 refine c_region ?_
 refine g_v rfl r_move ?_
 replace hm := bnd hm
 obtain ⟨⟨x22, x23, x24⟩, hx25, hm⟩ := hm
 refine g_cn ⟨w0, M, _, _, φ⟩ (fun _ h => h) Try.call18 rfl rfl (c_record_Get x20 0 _ hx25) (fun _ _ => ?_)
 refine g_v rfl r_move ?_
 refine g_v rfl (r_extract rfl rfl) ?_
 refine g_v rfl (r_extract rfl rfl) ?_
 refine g_v rfl (r_extract rfl rfl) ?_
 refine g_e rfl (e_alloc 100040 Try.zeroValue27) (fun g27 _ => ?_)
 refine g_storeL (tag := 100040) rfl rfl rfl rfl Try.sizeOf27 rfl rfl ?_
 refine g_v rfl r_assign ?_
 refine g_v rfl r_assign ?_
 refine g_nil ?_
 refine d_then ?_
 refine c_flat [(2, .int .i64 x10), (3, .string x20), (4, .pointer (some ⟨g27, 0, none⟩)), (5, .int .i64 x23), (6, .int .i64 x24)] ⟨rfl, rfl, rfl, rfl, rfl, trivial⟩ (fun u => ?_)
 refine c_sta ⟨w0, M, (100040, g27, .cells #[.string x22.fName, .int .u16 x22.fType, .int .u16 x22.fClass, .int .u32 x22.fTTL, .string x22.fData] 27 (0, 0)) :: (100075, g9, .cells #[.slice A13 x11.fb.length c14, mapV A16] 100 (0, 0)) :: H, (100070, ⟨.slice A13 x11.fb.length c14, 5, 1, x11.fb.length, x11.fb.flatMap (fun x : Int => [Value.int .u8 x])⟩) :: (100071, ⟨mapV A16, 98, 2, x11.fplaces.length, x11.fplaces.flatMap (mcell (fun x : ByteArray => Value.string x) (fun x : Int => Value.int .i64 x))⟩) :: R, φ⟩ (fun _ h => h) ?_
 refine c_seq ?_
 refine c_region ?_
 refine g_v rfl r_move ?_
 refine g_v rfl (r_eql rfl rfl) ?_
 refine g_v rfl r_move ?_
 refine g_if rfl rfl rfl rfl rfl (fun h28 => ?_) (fun h28 => ?_)
 ·
  replace hm := ite_t hm (of_decide_eq_true h28)
  refine g_v rfl r_move ?_
  refine g_do rfl rfl rfl rfl rfl h28 ?_
  refine g_v rfl (r_eqlT rfl rfl) ?_
  refine g_v rfl (r_pick1 rfl h28) ?_
  refine g_v rfl r_move ?_
  refine g_if rfl rfl rfl rfl rfl (fun h29 => ?_) (fun h29 => ?_)
  ·
   replace hm := ite_t hm (of_decide_eq_true h29)
   refine g_v rfl r_move ?_
   refine g_do rfl rfl rfl rfl rfl h29 ?_
   refine g_v rfl (r_eql rfl rfl) ?_
   refine g_v rfl (r_pick1 rfl h29) ?_
   refine g_v rfl r_move ?_
   refine g_if rfl rfl rfl rfl rfl (fun h30 => ?_) (fun h30 => ?_)
   ·
    replace hm := ite_t hm (of_decide_eq_true h30)
    refine g_v rfl r_move ?_
    refine g_do rfl rfl rfl rfl rfl h30 ?_
    refine g_v rfl r_move ?_
    refine g_do rfl rfl rfl rfl rfl h30 ?_
    refine g_v rfl (r_len Try.underlying9 rfl) ?_
    refine g_do rfl rfl rfl rfl rfl h30 ?_
    refine g_v rfl (r_eql rfl rfl) ?_
    refine g_v rfl (r_pick1 rfl h30) ?_
    refine g_v rfl r_move ?_
    refine g_if rfl rfl rfl rfl rfl (fun h31 => ?_) (fun h31 => ?_)
    ·
     replace hm := ite_t hm (of_decide_eq_true h31)
     refine g_v rfl (r_field (n := 3) Try.underlying27 rfl Try.sizeOf25 rfl rfl) ?_
     refine g_do rfl rfl rfl rfl rfl h31 ?_
     refine g_v rfl (r_load (tag := 100040) rfl rfl rfl Try.isAgg25) ?_
     refine g_do rfl rfl rfl rfl rfl h31 ?_
     refine g_v rfl (r_eql rfl rfl) ?_
     refine g_v rfl (r_pick1 rfl h31) ?_
     refine g_v rfl r_move ?_
     refine g_if rfl rfl rfl rfl rfl (fun h32 => ?_) (fun h32 => ?_)
     ·
      replace hm := ite_t hm (of_decide_eq_true h32)
      refine g_v rfl (r_build _ rfl (bld27_14 _ _ _)) ?_
      refine g_do rfl rfl rfl rfl rfl h32 ?_
      replace hm := bnd hm
      obtain ⟨x33, hx34, hm⟩ := hm
      refine g_cn ⟨w0, M, _, _, φ⟩ (fun _ h => h) Try.call31 rfl rfl (c_record_Check (⟨(⟨#[0]⟩ : ByteArray), 1, 0, 0, (⟨#[97, 98, 99]⟩ : ByteArray)⟩ : GRR) _ hx34) (fun _ _ => ?_)
      refine g_do rfl rfl rfl rfl rfl h32 ?_
      refine g_v rfl (r_eql rfl rfl) ?_
      refine g_v rfl (r_pick1 rfl h32) ?_
      refine g_v rfl r_move ?_
      refine g_if rfl rfl rfl rfl rfl (fun h35 => ?_) (fun h35 => ?_)
      ·
       replace hm := ite_t hm (of_decide_eq_true h35)
       refine g_v rfl (r_build _ rfl (bld27_15 _ _)) ?_
       refine g_do rfl rfl rfl rfl rfl h35 ?_
       replace hm := bnd hm
       obtain ⟨x36, hx37, hm⟩ := hm
       refine g_cn ⟨w0, M, _, _, φ⟩ (fun _ h => h) Try.call31 rfl rfl (c_record_Check (⟨(⟨#[0]⟩ : ByteArray), 16, 0, 0, (⟨#[]⟩ : ByteArray)⟩ : GRR) _ hx37) (fun _ _ => ?_)
       refine g_do rfl rfl rfl rfl rfl h35 ?_
       refine g_v rfl (r_eql rfl rfl) ?_
       refine g_v rfl (r_pick1 rfl h35) ?_
       refine g_v rfl r_move ?_
       refine g_if rfl rfl rfl rfl rfl (fun h38 => ?_) (fun h38 => ?_)
       ·
        replace hm := ite_t hm (of_decide_eq_true h38)
        replace hm := bnd hm
        obtain ⟨x39, hx40, hm⟩ := hm
        refine g_cn ⟨w0, M, _, _, φ⟩ (fun _ h => h) Try.call33 rfl rfl (c_record_Life 2147483648 _ hx40) (fun _ _ => ?_)
        refine g_do rfl rfl rfl rfl rfl h38 ?_
        refine g_v rfl (r_eql rfl rfl) ?_
        refine g_v rfl (r_pick1 rfl h38) ?_
        refine g_v rfl r_move ?_
        refine g_if rfl rfl rfl rfl rfl (fun h41 => ?_) (fun h41 => ?_)
        ·
         replace hm := ite_t hm (of_decide_eq_true h41)
         replace hm := bnd hm
         obtain ⟨x42, hx43, hm⟩ := hm
         refine g_cn ⟨w0, M, _, _, φ⟩ (fun _ h => h) Try.call33 rfl rfl (c_record_Life 2147483647 _ hx43) (fun _ _ => ?_)
         refine g_do rfl rfl rfl rfl rfl h41 ?_
         refine g_v rfl (r_eql rfl rfl) ?_
         refine g_v rfl (r_pick1 rfl h41) ?_
         refine g_v rfl r_assign ?_
         refine g_nil ?_
         refine d_then ?_
         refine c_flat [(0, .bool (decide (x42 = 2147483647)))] ⟨rfl, trivial⟩ (fun u => ?_)
         refine c_sta ⟨w0, M, (100040, g27, .cells #[.string x22.fName, .int .u16 x22.fType, .int .u16 x22.fClass, .int .u32 x22.fTTL, .string x22.fData] 27 (0, 0)) :: (100075, g9, .cells #[.slice A13 x11.fb.length c14, mapV A16] 100 (0, 0)) :: H, (100070, ⟨.slice A13 x11.fb.length c14, 5, 1, x11.fb.length, x11.fb.flatMap (fun x : Int => [Value.int .u8 x])⟩) :: (100071, ⟨mapV A16, 98, 2, x11.fplaces.length, x11.fplaces.flatMap (mcell (fun x : ByteArray => Value.string x) (fun x : Int => Value.int .i64 x))⟩) :: R, φ⟩ (fun _ h => h) ?_
         refine c_ret ?_
         replace hm := Option.some.inj hm
         subst hm
         refine d_retC () Try.results16 ?_ trivial (fun W h => ok_pre (H1 := [_, _]) (R1 := [_, _]) h (fun W hφ => hφ)) (.inr rfl)
         refine res_tmp ?_
         refine res_nil ?_
         exact rfl
        ·
         replace hm := ite_f hm (of_decide_eq_false h41)
         refine g_no rfl rfl rfl rfl rfl h41 ?_
         refine g_v rfl (r_pick0 rfl h41) ?_
         refine g_v rfl r_assign ?_
         refine g_nil ?_
         refine d_then ?_
         refine c_flat [(0, .bool false)] ⟨rfl, trivial⟩ (fun u => ?_)
         refine c_sta ⟨w0, M, (100040, g27, .cells #[.string x22.fName, .int .u16 x22.fType, .int .u16 x22.fClass, .int .u32 x22.fTTL, .string x22.fData] 27 (0, 0)) :: (100075, g9, .cells #[.slice A13 x11.fb.length c14, mapV A16] 100 (0, 0)) :: H, (100070, ⟨.slice A13 x11.fb.length c14, 5, 1, x11.fb.length, x11.fb.flatMap (fun x : Int => [Value.int .u8 x])⟩) :: (100071, ⟨mapV A16, 98, 2, x11.fplaces.length, x11.fplaces.flatMap (mcell (fun x : ByteArray => Value.string x) (fun x : Int => Value.int .i64 x))⟩) :: R, φ⟩ (fun _ h => h) ?_
         refine c_ret ?_
         replace hm := Option.some.inj hm
         subst hm
         refine d_retC () Try.results16 ?_ trivial (fun W h => ok_pre (H1 := [_, _]) (R1 := [_, _]) h (fun W hφ => hφ)) (.inr rfl)
         refine res_tmp ?_
         refine res_nil ?_
         exact rfl
       ·
        replace hm := ite_f hm (of_decide_eq_false h38)
        refine g_no rfl rfl rfl rfl rfl h38 ?_
        refine g_v rfl (r_pick0 rfl h38) ?_
        refine g_v rfl r_move ?_
        refine g_no rfl rfl rfl rfl rfl rfl ?_
        refine g_no rfl rfl rfl rfl rfl rfl ?_
        refine g_v rfl (r_pick0 rfl rfl) ?_
        refine g_v rfl r_assign ?_
        refine g_nil ?_
        refine d_then ?_
        refine c_flat [(0, .bool false)] ⟨rfl, trivial⟩ (fun u => ?_)
        refine c_sta ⟨w0, M, (100040, g27, .cells #[.string x22.fName, .int .u16 x22.fType, .int .u16 x22.fClass, .int .u32 x22.fTTL, .string x22.fData] 27 (0, 0)) :: (100075, g9, .cells #[.slice A13 x11.fb.length c14, mapV A16] 100 (0, 0)) :: H, (100070, ⟨.slice A13 x11.fb.length c14, 5, 1, x11.fb.length, x11.fb.flatMap (fun x : Int => [Value.int .u8 x])⟩) :: (100071, ⟨mapV A16, 98, 2, x11.fplaces.length, x11.fplaces.flatMap (mcell (fun x : ByteArray => Value.string x) (fun x : Int => Value.int .i64 x))⟩) :: R, φ⟩ (fun _ h => h) ?_
        refine c_ret ?_
        replace hm := Option.some.inj hm
        subst hm
        refine d_retC () Try.results16 ?_ trivial (fun W h => ok_pre (H1 := [_, _]) (R1 := [_, _]) h (fun W hφ => hφ)) (.inr rfl)
        refine res_tmp ?_
        refine res_nil ?_
        exact rfl
      ·
       replace hm := ite_f hm (of_decide_eq_false h35)
       refine g_no rfl rfl rfl rfl rfl h35 ?_
       refine g_no rfl rfl rfl rfl rfl h35 ?_
       refine g_v rfl (r_pick0 rfl h35) ?_
       refine g_v rfl r_move ?_
       refine g_no rfl rfl rfl rfl rfl rfl ?_
       refine g_no rfl rfl rfl rfl rfl rfl ?_
       refine g_v rfl (r_pick0 rfl rfl) ?_
       refine g_v rfl r_move ?_
       refine g_no rfl rfl rfl rfl rfl rfl ?_
       refine g_no rfl rfl rfl rfl rfl rfl ?_
       refine g_v rfl (r_pick0 rfl rfl) ?_
       refine g_v rfl r_assign ?_
       refine g_nil ?_
       refine d_then ?_
       refine c_flat [(0, .bool false)] ⟨rfl, trivial⟩ (fun u => ?_)
       refine c_sta ⟨w0, M, (100040, g27, .cells #[.string x22.fName, .int .u16 x22.fType, .int .u16 x22.fClass, .int .u32 x22.fTTL, .string x22.fData] 27 (0, 0)) :: (100075, g9, .cells #[.slice A13 x11.fb.length c14, mapV A16] 100 (0, 0)) :: H, (100070, ⟨.slice A13 x11.fb.length c14, 5, 1, x11.fb.length, x11.fb.flatMap (fun x : Int => [Value.int .u8 x])⟩) :: (100071, ⟨mapV A16, 98, 2, x11.fplaces.length, x11.fplaces.flatMap (mcell (fun x : ByteArray => Value.string x) (fun x : Int => Value.int .i64 x))⟩) :: R, φ⟩ (fun _ h => h) ?_
       refine c_ret ?_
       replace hm := Option.some.inj hm
       subst hm
       refine d_retC () Try.results16 ?_ trivial (fun W h => ok_pre (H1 := [_, _]) (R1 := [_, _]) h (fun W hφ => hφ)) (.inr rfl)
       refine res_tmp ?_
       refine res_nil ?_
       exact rfl
     ·
      replace hm := ite_f hm (of_decide_eq_false h32)
      refine g_no rfl rfl rfl rfl rfl h32 ?_
      refine g_no rfl rfl rfl rfl rfl h32 ?_
      refine g_v rfl (r_pick0 rfl h32) ?_
      refine g_v rfl r_move ?_
      refine g_no rfl rfl rfl rfl rfl rfl ?_
      refine g_no rfl rfl rfl rfl rfl rfl ?_
      refine g_no rfl rfl rfl rfl rfl rfl ?_
      refine g_v rfl (r_pick0 rfl rfl) ?_
      refine g_v rfl r_move ?_
      refine g_no rfl rfl rfl rfl rfl rfl ?_
      refine g_no rfl rfl rfl rfl rfl rfl ?_
      refine g_v rfl (r_pick0 rfl rfl) ?_
      refine g_v rfl r_move ?_
      refine g_no rfl rfl rfl rfl rfl rfl ?_
      refine g_no rfl rfl rfl rfl rfl rfl ?_
      refine g_v rfl (r_pick0 rfl rfl) ?_
      refine g_v rfl r_assign ?_
      refine g_nil ?_
      refine d_then ?_
      refine c_flat [(0, .bool false)] ⟨rfl, trivial⟩ (fun u => ?_)
      refine c_sta ⟨w0, M, (100040, g27, .cells #[.string x22.fName, .int .u16 x22.fType, .int .u16 x22.fClass, .int .u32 x22.fTTL, .string x22.fData] 27 (0, 0)) :: (100075, g9, .cells #[.slice A13 x11.fb.length c14, mapV A16] 100 (0, 0)) :: H, (100070, ⟨.slice A13 x11.fb.length c14, 5, 1, x11.fb.length, x11.fb.flatMap (fun x : Int => [Value.int .u8 x])⟩) :: (100071, ⟨mapV A16, 98, 2, x11.fplaces.length, x11.fplaces.flatMap (mcell (fun x : ByteArray => Value.string x) (fun x : Int => Value.int .i64 x))⟩) :: R, φ⟩ (fun _ h => h) ?_
      refine c_ret ?_
      replace hm := Option.some.inj hm
      subst hm
      refine d_retC () Try.results16 ?_ trivial (fun W h => ok_pre (H1 := [_, _]) (R1 := [_, _]) h (fun W hφ => hφ)) (.inr rfl)
      refine res_tmp ?_
      refine res_nil ?_
      exact rfl
    ·
     replace hm := ite_f hm (of_decide_eq_false h31)
     refine g_no rfl rfl rfl rfl rfl h31 ?_
     refine g_no rfl rfl rfl rfl rfl h31 ?_
     refine g_v rfl (r_pick0 rfl h31) ?_
     refine g_v rfl r_move ?_
     refine g_no rfl rfl rfl rfl rfl rfl ?_
     refine g_no rfl rfl rfl rfl rfl rfl ?_
     refine g_no rfl rfl rfl rfl rfl rfl ?_
     refine g_v rfl (r_pick0 rfl rfl) ?_
     refine g_v rfl r_move ?_
     refine g_no rfl rfl rfl rfl rfl rfl ?_
     refine g_no rfl rfl rfl rfl rfl rfl ?_
     refine g_no rfl rfl rfl rfl rfl rfl ?_
     refine g_v rfl (r_pick0 rfl rfl) ?_
     refine g_v rfl r_move ?_
     refine g_no rfl rfl rfl rfl rfl rfl ?_
     refine g_no rfl rfl rfl rfl rfl rfl ?_
     refine g_v rfl (r_pick0 rfl rfl) ?_
     refine g_v rfl r_move ?_
     refine g_no rfl rfl rfl rfl rfl rfl ?_
     refine g_no rfl rfl rfl rfl rfl rfl ?_
     refine g_v rfl (r_pick0 rfl rfl) ?_
     refine g_v rfl r_assign ?_
     refine g_nil ?_
     refine d_then ?_
     refine c_flat [(0, .bool false)] ⟨rfl, trivial⟩ (fun u => ?_)
     refine c_sta ⟨w0, M, (100040, g27, .cells #[.string x22.fName, .int .u16 x22.fType, .int .u16 x22.fClass, .int .u32 x22.fTTL, .string x22.fData] 27 (0, 0)) :: (100075, g9, .cells #[.slice A13 x11.fb.length c14, mapV A16] 100 (0, 0)) :: H, (100070, ⟨.slice A13 x11.fb.length c14, 5, 1, x11.fb.length, x11.fb.flatMap (fun x : Int => [Value.int .u8 x])⟩) :: (100071, ⟨mapV A16, 98, 2, x11.fplaces.length, x11.fplaces.flatMap (mcell (fun x : ByteArray => Value.string x) (fun x : Int => Value.int .i64 x))⟩) :: R, φ⟩ (fun _ h => h) ?_
     refine c_ret ?_
     replace hm := Option.some.inj hm
     subst hm
     refine d_retC () Try.results16 ?_ trivial (fun W h => ok_pre (H1 := [_, _]) (R1 := [_, _]) h (fun W hφ => hφ)) (.inr rfl)
     refine res_tmp ?_
     refine res_nil ?_
     exact rfl
   ·
    replace hm := ite_f hm (of_decide_eq_false h30)
    refine g_no rfl rfl rfl rfl rfl h30 ?_
    refine g_no rfl rfl rfl rfl rfl h30 ?_
    refine g_no rfl rfl rfl rfl rfl h30 ?_
    refine g_v rfl (r_pick0 rfl h30) ?_
    refine g_v rfl r_move ?_
    refine g_no rfl rfl rfl rfl rfl rfl ?_
    refine g_no rfl rfl rfl rfl rfl rfl ?_
    refine g_no rfl rfl rfl rfl rfl rfl ?_
    refine g_v rfl (r_pick0 rfl rfl) ?_
    refine g_v rfl r_move ?_
    refine g_no rfl rfl rfl rfl rfl rfl ?_
    refine g_no rfl rfl rfl rfl rfl rfl ?_
    refine g_no rfl rfl rfl rfl rfl rfl ?_
    refine g_v rfl (r_pick0 rfl rfl) ?_
    refine g_v rfl r_move ?_
    refine g_no rfl rfl rfl rfl rfl rfl ?_
    refine g_no rfl rfl rfl rfl rfl rfl ?_
    refine g_no rfl rfl rfl rfl rfl rfl ?_
    refine g_v rfl (r_pick0 rfl rfl) ?_
    refine g_v rfl r_move ?_
    refine g_no rfl rfl rfl rfl rfl rfl ?_
    refine g_no rfl rfl rfl rfl rfl rfl ?_
    refine g_v rfl (r_pick0 rfl rfl) ?_
    refine g_v rfl r_move ?_
    refine g_no rfl rfl rfl rfl rfl rfl ?_
    refine g_no rfl rfl rfl rfl rfl rfl ?_
    refine g_v rfl (r_pick0 rfl rfl) ?_
    refine g_v rfl r_assign ?_
    refine g_nil ?_
    refine d_then ?_
    refine c_flat [(0, .bool false)] ⟨rfl, trivial⟩ (fun u => ?_)
    refine c_sta ⟨w0, M, (100040, g27, .cells #[.string x22.fName, .int .u16 x22.fType, .int .u16 x22.fClass, .int .u32 x22.fTTL, .string x22.fData] 27 (0, 0)) :: (100075, g9, .cells #[.slice A13 x11.fb.length c14, mapV A16] 100 (0, 0)) :: H, (100070, ⟨.slice A13 x11.fb.length c14, 5, 1, x11.fb.length, x11.fb.flatMap (fun x : Int => [Value.int .u8 x])⟩) :: (100071, ⟨mapV A16, 98, 2, x11.fplaces.length, x11.fplaces.flatMap (mcell (fun x : ByteArray => Value.string x) (fun x : Int => Value.int .i64 x))⟩) :: R, φ⟩ (fun _ h => h) ?_
    refine c_ret ?_
    replace hm := Option.some.inj hm
    subst hm
    refine d_retC () Try.results16 ?_ trivial (fun W h => ok_pre (H1 := [_, _]) (R1 := [_, _]) h (fun W hφ => hφ)) (.inr rfl)
    refine res_tmp ?_
    refine res_nil ?_
    exact rfl
  ·
   replace hm := ite_f hm (of_decide_eq_false h29)
   refine g_no rfl rfl rfl rfl rfl h29 ?_
   refine g_v rfl (r_pick0 rfl h29) ?_
   refine g_v rfl r_move ?_
   refine g_no rfl rfl rfl rfl rfl rfl ?_
   refine g_no rfl rfl rfl rfl rfl rfl ?_
   refine g_no rfl rfl rfl rfl rfl rfl ?_
   refine g_no rfl rfl rfl rfl rfl rfl ?_
   refine g_v rfl (r_pick0 rfl rfl) ?_
   refine g_v rfl r_move ?_
   refine g_no rfl rfl rfl rfl rfl rfl ?_
   refine g_no rfl rfl rfl rfl rfl rfl ?_
   refine g_no rfl rfl rfl rfl rfl rfl ?_
   refine g_v rfl (r_pick0 rfl rfl) ?_
   refine g_v rfl r_move ?_
   refine g_no rfl rfl rfl rfl rfl rfl ?_
   refine g_no rfl rfl rfl rfl rfl rfl ?_
   refine g_no rfl rfl rfl rfl rfl rfl ?_
   refine g_v rfl (r_pick0 rfl rfl) ?_
   refine g_v rfl r_move ?_
   refine g_no rfl rfl rfl rfl rfl rfl ?_
   refine g_no rfl rfl rfl rfl rfl rfl ?_
   refine g_no rfl rfl rfl rfl rfl rfl ?_
   refine g_v rfl (r_pick0 rfl rfl) ?_
   refine g_v rfl r_move ?_
   refine g_no rfl rfl rfl rfl rfl rfl ?_
   refine g_no rfl rfl rfl rfl rfl rfl ?_
   refine g_v rfl (r_pick0 rfl rfl) ?_
   refine g_v rfl r_move ?_
   refine g_no rfl rfl rfl rfl rfl rfl ?_
   refine g_no rfl rfl rfl rfl rfl rfl ?_
   refine g_v rfl (r_pick0 rfl rfl) ?_
   refine g_v rfl r_assign ?_
   refine g_nil ?_
   refine d_then ?_
   refine c_flat [(0, .bool false)] ⟨rfl, trivial⟩ (fun u => ?_)
   refine c_sta ⟨w0, M, (100040, g27, .cells #[.string x22.fName, .int .u16 x22.fType, .int .u16 x22.fClass, .int .u32 x22.fTTL, .string x22.fData] 27 (0, 0)) :: (100075, g9, .cells #[.slice A13 x11.fb.length c14, mapV A16] 100 (0, 0)) :: H, (100070, ⟨.slice A13 x11.fb.length c14, 5, 1, x11.fb.length, x11.fb.flatMap (fun x : Int => [Value.int .u8 x])⟩) :: (100071, ⟨mapV A16, 98, 2, x11.fplaces.length, x11.fplaces.flatMap (mcell (fun x : ByteArray => Value.string x) (fun x : Int => Value.int .i64 x))⟩) :: R, φ⟩ (fun _ h => h) ?_
   refine c_ret ?_
   replace hm := Option.some.inj hm
   subst hm
   refine d_retC () Try.results16 ?_ trivial (fun W h => ok_pre (H1 := [_, _]) (R1 := [_, _]) h (fun W hφ => hφ)) (.inr rfl)
   refine res_tmp ?_
   refine res_nil ?_
   exact rfl
 ·
  replace hm := ite_f hm (of_decide_eq_false h28)
  refine g_no rfl rfl rfl rfl rfl h28 ?_
  refine g_v rfl (r_pick0 rfl h28) ?_
  refine g_v rfl r_move ?_
  refine g_no rfl rfl rfl rfl rfl rfl ?_
  refine g_no rfl rfl rfl rfl rfl rfl ?_
  refine g_v rfl (r_pick0 rfl rfl) ?_
  refine g_v rfl r_move ?_
  refine g_no rfl rfl rfl rfl rfl rfl ?_
  refine g_no rfl rfl rfl rfl rfl rfl ?_
  refine g_no rfl rfl rfl rfl rfl rfl ?_
  refine g_no rfl rfl rfl rfl rfl rfl ?_
  refine g_v rfl (r_pick0 rfl rfl) ?_
  refine g_v rfl r_move ?_
  refine g_no rfl rfl rfl rfl rfl rfl ?_
  refine g_no rfl rfl rfl rfl rfl rfl ?_
  refine g_no rfl rfl rfl rfl rfl rfl ?_
  refine g_v rfl (r_pick0 rfl rfl) ?_
  refine g_v rfl r_move ?_
  refine g_no rfl rfl rfl rfl rfl rfl ?_
  refine g_no rfl rfl rfl rfl rfl rfl ?_
  refine g_no rfl rfl rfl rfl rfl rfl ?_
  refine g_v rfl (r_pick0 rfl rfl) ?_
  refine g_v rfl r_move ?_
  refine g_no rfl rfl rfl rfl rfl rfl ?_
  refine g_no rfl rfl rfl rfl rfl rfl ?_
  refine g_no rfl rfl rfl rfl rfl rfl ?_
  refine g_v rfl (r_pick0 rfl rfl) ?_
  refine g_v rfl r_move ?_
  refine g_no rfl rfl rfl rfl rfl rfl ?_
  refine g_no rfl rfl rfl rfl rfl rfl ?_
  refine g_v rfl (r_pick0 rfl rfl) ?_
  refine g_v rfl r_move ?_
  refine g_no rfl rfl rfl rfl rfl rfl ?_
  refine g_no rfl rfl rfl rfl rfl rfl ?_
  refine g_v rfl (r_pick0 rfl rfl) ?_
  refine g_v rfl r_assign ?_
  refine g_nil ?_
  refine d_then ?_
  refine c_flat [(0, .bool false)] ⟨rfl, trivial⟩ (fun u => ?_)
  refine c_sta ⟨w0, M, (100040, g27, .cells #[.string x22.fName, .int .u16 x22.fType, .int .u16 x22.fClass, .int .u32 x22.fTTL, .string x22.fData] 27 (0, 0)) :: (100075, g9, .cells #[.slice A13 x11.fb.length c14, mapV A16] 100 (0, 0)) :: H, (100070, ⟨.slice A13 x11.fb.length c14, 5, 1, x11.fb.length, x11.fb.flatMap (fun x : Int => [Value.int .u8 x])⟩) :: (100071, ⟨mapV A16, 98, 2, x11.fplaces.length, x11.fplaces.flatMap (mcell (fun x : ByteArray => Value.string x) (fun x : Int => Value.int .i64 x))⟩) :: R, φ⟩ (fun _ h => h) ?_
  refine c_ret ?_
  replace hm := Option.some.inj hm
  subst hm
  refine d_retC () Try.results16 ?_ trivial (fun W h => ok_pre (H1 := [_, _]) (R1 := [_, _]) h (fun W hφ => hφ)) (.inr rfl)
  refine res_tmp ?_
  refine res_nil ?_
  exact rfl

noncomputable def m_law05_short (p0 : ByteArray) (p1 : Int) : Option ByteArray :=
  if p1 < (p0.size : Int) then
    (scutHi p0 p1).bind fun s2 =>
    some s2
  else
    some p0
theorem c_law05_short {w0 : World} {M : Nat → Prop} {H : List (Nat × Nat × Obj)} {R : List (Nat × Row)} {φ : World → Prop} (p0 : ByteArray) (p1 : Int) (r : ByteArray) (hm : m_law05_short p0 p1 = some r) :
    Cn Try.prog 17 #[.string p0, .int .i64 p1] ⟨w0, M, H, R, φ⟩ (fun x : Unit => .string r) (fun x => True) (fun x => ⟨w0, M, H, R, φ⟩) := by
 unfold m_law05_short at hm
 refine cn_intro (fn := Try.f17) (N := 13) Try.func17 rfl Try.ntmps17 rfl ?_
 refine c_seq ?_
 refine c_region ?_
 refine g_v rfl r_assign ?_
 refine g_nil ?_
 refine d_then ?_
 refine c_seq ?_
 refine c_seq ?_
 refine c_region ?_
 refine g_v rfl r_move ?_
 refine g_v rfl (r_len Try.underlying9 rfl) ?_
 refine g_v rfl r_move ?_
 refine g_v rfl (r_gtr rfl rfl) ?_
 refine g_nil ?_
 refine d_then ?_
 refine c_cond rfl (fun h1 => ?_) (fun h1 => ?_)
 ·
  replace hm := ite_t hm (of_decide_eq_true h1)
  refine c_seq ?_
  refine c_region ?_
  refine g_v rfl r_move ?_
  refine g_v rfl r_move ?_
  replace hm := bnd hm
  obtain ⟨s2, hs2, hm⟩ := hm
  refine g_v rfl (r_scutHi Try.underlying9 rfl rfl hs2) ?_
  refine g_v rfl r_assign ?_
  refine g_nil ?_
  refine d_then ?_
  refine c_flat [(4, .string s2)] ⟨rfl, trivial⟩ (fun u => ?_)
  refine c_sta ⟨w0, M, H, R, φ⟩ (fun _ h => h) ?_
  refine c_ret ?_
  refine d_ret_then ?_
  replace hm := Option.some.inj hm
  subst hm
  refine d_retC () Try.results17 ?_ trivial (fun W h => ok_pre (H1 := []) (R1 := []) h (fun W hφ => hφ)) (.inr rfl)
  refine res_tmp ?_
  refine res_nil ?_
  exact rfl
 ·
  replace hm := ite_f hm (of_decide_eq_false h1)
  refine c_skip ?_
  refine d_then ?_
  refine c_seq ?_
  refine c_region ?_
  refine g_v rfl r_move ?_
  refine g_v rfl r_assign ?_
  refine g_nil ?_
  refine d_then ?_
  refine c_ret ?_
  replace hm := Option.some.inj hm
  subst hm
  refine d_retC () Try.results17 ?_ trivial (fun W h => ok_pre (H1 := []) (R1 := []) h (fun W hφ => hφ)) (.inr rfl)
  refine res_tmp ?_
  refine res_nil ?_
  exact rfl

noncomputable def m_law05_small (p0 : GRR) : Option GRR :=
  (m_law05_short p0.fName 300).bind fun x3 =>
  (m_law05_short p0.fData 2100).bind fun x5 =>
  some (⟨x3, p0.fType, p0.fClass, p0.fTTL, x5⟩ : GRR)
theorem c_law05_small {w0 : World} {M : Nat → Prop} {H : List (Nat × Nat × Obj)} {R : List (Nat × Row)} {φ : World → Prop} (p0 : GRR) (r : GRR) (hm : m_law05_small p0 = some r) :
    Cn Try.prog 22 #[.agg #[.string p0.fName, .int .u16 p0.fType, .int .u16 p0.fClass, .int .u32 p0.fTTL, .string p0.fData]] ⟨w0, M, H, R, φ⟩ (fun x : Unit => .agg #[.string r.fName, .int .u16 r.fType, .int .u16 r.fClass, .int .u32 r.fTTL, .string r.fData]) (fun x => True) (fun x => ⟨w0, M, H, R, φ⟩) := by
 unfold m_law05_small at hm
 refine cn_intro (fn := Try.f22) (N := 12) Try.func22 rfl Try.ntmps22 rfl ?_
 refine c_seq ?_
 refine c_region ?_
 refine g_e rfl (e_box 100010 rfl) (fun g1 _ => ?_)
 refine g_e rfl (e_alloc 100020 Try.zeroValue27) (fun g2 _ => ?_)
 refine g_nil ?_
 refine d_then ?_
 refine c_seq ?_
 refine c_region ?_
 refine g_v rfl (r_field (n := 0) Try.underlying27 rfl Try.sizeOf9 rfl rfl) ?_
 refine g_v rfl (r_load (tag := 100010) rfl rfl rfl Try.isAgg9) ?_
 replace hm := bnd hm
 obtain ⟨x3, hx4, hm⟩ := hm
 refine g_cn ⟨w0, M, _, _, φ⟩ (fun _ h => h) Try.call17 rfl rfl (c_law05_short p0.fName 300 _ hx4) (fun _ _ => ?_)
 refine g_v rfl (r_field (n := 0) Try.underlying27 rfl Try.sizeOf9 rfl rfl) ?_
 refine g_storeL (tag := 100010) rfl rfl rfl rfl Try.sizeOf9 rfl rfl ?_
 refine g_nil ?_
 refine d_then ?_
 refine c_seq ?_
 refine c_region ?_
 refine g_v rfl (r_field (n := 4) Try.underlying27 rfl Try.sizeOf9 rfl rfl) ?_
 refine g_v rfl (r_load (tag := 100010) rfl rfl rfl Try.isAgg9) ?_
 replace hm := bnd hm
 obtain ⟨x5, hx6, hm⟩ := hm
 refine g_cn ⟨w0, M, _, _, φ⟩ (fun _ h => h) Try.call17 rfl rfl (c_law05_short p0.fData 2100 _ hx6) (fun _ _ => ?_)
 refine g_v rfl (r_field (n := 4) Try.underlying27 rfl Try.sizeOf9 rfl rfl) ?_
 refine g_storeL (tag := 100010) rfl rfl rfl rfl Try.sizeOf9 rfl rfl ?_
 refine g_nil ?_
 refine d_then ?_
 refine c_flat [(1, .pointer (some ⟨g1, 0, none⟩)), (2, .pointer (some ⟨g2, 0, none⟩))] ⟨rfl, rfl, trivial⟩ (fun u => ?_)
 refine c_sta ⟨w0, M, (100020, g2, .cells #[.string (⟨#[]⟩ : ByteArray), .int .u16 0, .int .u16 0, .int .u32 0, .string (⟨#[]⟩ : ByteArray)] 27 (0, 0)) :: (100010, g1, .cells #[.string x3, .int .u16 p0.fType, .int .u16 p0.fClass, .int .u32 p0.fTTL, .string x5] 27 (0, 0)) :: H, R, φ⟩ (fun _ h => h) ?_
 refine c_seq ?_
 refine c_region ?_
 refine g_v rfl (r_loadA (tag := 100010) rfl rfl Try.isAgg27 Try.sizeOf27 rfl rfl) ?_
 refine g_storeL (tag := 100020) rfl rfl rfl rfl Try.sizeOf27 rfl rfl ?_
 refine g_nil ?_
 refine d_then ?_
 refine c_ret ?_
 replace hm := Option.some.inj hm
 subst hm
 refine d_retC () Try.results22 ?_ trivial (fun W h => ok_pre (H1 := [_, _]) (R1 := []) h (fun W hφ => hφ)) (.inr rfl)
 refine res_agg (tag := 100020) rfl rfl Try.isAgg27 Try.sizeOf27 ?_
 refine res_nil ?_
 exact rfl

noncomputable def m_name_Lower_j1  (l55 : List Int) : Option ByteArray :=
  some (strOfNums l55)
noncomputable def m_name_Lower_s2 (p0 : ByteArray) (l78 : List Int) (i79 : Int) : Option (((List Int) × Int) ⊕ (List Int)) :=
  if i79 < (((bytesI p0).length) : Int) then
    (at_ l78 i79).bind fun x104 =>
    if 65 ≤ x104 then
      (at_ l78 i79).bind fun x109 =>
      if x109 ≤ 90 then
        (at_ l78 i79).bind fun x114 =>
        (at_ l78 i79).bind fun x118 =>
        (setAt l78 i79 (orI .u8 x114 32)).bind fun l122 =>
        some (.inl (l122, w64 (i79 + 1)))
      else
        some (.inl (l78, w64 (i79 + 1)))
    else
      some (.inl (l78, w64 (i79 + 1)))
  else
    some (.inr l78)
noncomputable def m_name_Lower (p0 : ByteArray) : Option ByteArray :=
  (loop (fun s => m_name_Lower_s2 p0 s.1 s.2) ((bytesI p0), 0)).bind fun e => m_name_Lower_j1 e
theorem c_name_Lower {w0 : World} {M : Nat → Prop} {H : List (Nat × Nat × Obj)} {R : List (Nat × Row)} {φ : World → Prop} (p0 : ByteArray) (r : ByteArray) (hm : m_name_Lower p0 = some r) :
    Cn Try.prog 107 #[.string p0] ⟨w0, M, H, R, φ⟩ (fun x : Unit => .string r) (fun x => True) (fun x => ⟨w0, M, H, R, φ⟩) := by
 unfold m_name_Lower at hm
 refine cn_intro (fn := Try.f107) (N := 33) Try.func107 rfl Try.ntmps107 rfl ?_
 refine c_seq ?_
 refine c_region ?_
 refine g_v rfl r_assign ?_
 refine g_nil ?_
 refine d_then ?_
 refine c_seq ?_
 refine c_region ?_
 refine g_v rfl r_move ?_
 refine g_e rfl (e_bytesH 100060 Try.underlying9 Try.underlying77 Try.underlying5 rfl) (fun ⟨g5, c6, T7⟩ hc6 => ?_)
 refine g_v rfl r_assign ?_
 refine g_nil ?_
 refine d_then ?_
 refine c_seq ?_
 refine c_seq ?_
 refine c_region ?_
 refine g_v rfl r_move ?_
 refine g_v rfl (r_lenL Try.underlying77 rfl) ?_
 refine g_v rfl r_move ?_
 refine g_nil ?_
 refine d_then ?_
 refine c_cut (ι := (List Int)) [3] (fun l55 => [(3, .slice (some ⟨g5, 0, none⟩) ((bytesI p0).length) c6)]) (fun l55 => ⟨w0, M, (100060, g5, rowO l55 T7 5) :: H, R, φ⟩) (fun l55 => m_name_Lower_j1 l55 = some r ∧ l55.length = (bytesI p0).length) ?_ (fun l55 u ⟨hm, hl55⟩ => ?_)
 ·
  refine c_block ?_
  replace hm := bnd hm
  obtain ⟨out2, hl2, hr2⟩ := hm
  obtain ⟨n102', hl2⟩ := loop_lp hl2
  refine c_loopU (ι := Nat × (List Int) × Int) [3, 8, 9] (fun ⟨n102, l78, i79⟩ => [(3, .slice (some ⟨g5, 0, none⟩) ((bytesI p0).length) c6), (9, .int .i64 i79)]) (fun ⟨n102, l78, i79⟩ => ⟨w0, M, (100060, g5, rowO l78 T7 5) :: H, R, φ⟩) (fun ⟨n102, l78, i79⟩ => Lp (fun s => m_name_Lower_s2 p0 s.1 s.2) n102 (l78, i79) out2 ∧ l78.length = (bytesI p0).length) (fun ⟨n102, l78, i79⟩ => n102) (n102', (bytesI p0), 0) ⟨hl2, rfl⟩ ⟨rfl, rfl, rfl, trivial⟩ (fun W h => h.phi (fun W hφ => hφ)) (fun ⟨n102, l78, i79⟩ u ⟨hlp, hl78⟩ => ?_)
  obtain ⟨o2, hm, hnx2⟩ := lp_step hlp
  clear hlp
  replace hm : m_name_Lower_s2 p0 l78 i79 = some o2 := hm
  unfold m_name_Lower_s2 at hm
  refine c_flat [(3, .slice (some ⟨g5, 0, none⟩) ((bytesI p0).length) c6), (8, .int .i64 (((bytesI p0).length) : Int)), (9, .int .i64 i79)] ⟨rfl, rfl, rfl, trivial⟩ (fun u => ?_)
  refine c_sta ⟨w0, M, (100060, g5, rowO l78 T7 5) :: H, R, φ⟩ (fun _ h => h) ?_
  refine c_seq ?_
  refine c_region ?_
  refine g_v rfl (r_lss rfl rfl) ?_
  refine g_nil ?_
  refine d_then ?_
  refine c_seq ?_
  refine c_cond rfl (fun h103 => ?_) (fun h103 => ?_)
  ·
   replace hm := ite_t hm (of_decide_eq_true h103)
   refine c_skip ?_
   refine d_then ?_
   refine c_seq ?_
   refine c_block ?_
   refine c_seq ?_
   refine c_region ?_
   refine g_v rfl r_move ?_
   refine g_v rfl r_assign ?_
   refine g_nil ?_
   refine d_then ?_
   refine c_seq ?_
   refine c_region ?_
   refine g_v rfl r_move ?_
   refine g_v rfl r_move ?_
   replace hm := bnd hm
   obtain ⟨x104, hx104, hm⟩ := hm
   refine g_know _ (fun W hS => cl_at (p := (Sta.ok ⟨w0, M, (100060, g5, rowO l78 T7 5) :: H, R, φ⟩)) (sz := 1) (fun _ => rfl) (by decide) hS (hrowCl (S := ⟨w0, M, (100060, g5, rowO l78 T7 5) :: H, R, φ⟩) (tag := 100060) rfl) hx104) ?_
   rintro ⟨ad105, hA107, f106⟩
   refine g_v rfl (r_ixN hl78 Try.underlying77 Try.sizeOf5 rfl hA107 rfl hx104) ?_
   refine g_v rfl (r_ld rfl Try.isAgg5 (fun W hS => Cl.head (f106 W hS))) ?_
   refine g_v rfl (r_geq rfl rfl) ?_
   refine g_v rfl r_move ?_
   refine g_if rfl rfl rfl rfl rfl (fun h108 => ?_) (fun h108 => ?_)
   ·
    replace hm := ite_t hm (of_decide_eq_true h108)
    refine g_v rfl r_move ?_
    refine g_do rfl rfl rfl rfl rfl h108 ?_
    refine g_v rfl r_move ?_
    refine g_do rfl rfl rfl rfl rfl h108 ?_
    replace hm := bnd hm
    obtain ⟨x109, hx109, hm⟩ := hm
    refine g_know _ (fun W hS => cl_at (p := (Sta.ok ⟨w0, M, (100060, g5, rowO l78 T7 5) :: H, R, φ⟩)) (sz := 1) (fun _ => rfl) (by decide) hS (hrowCl (S := ⟨w0, M, (100060, g5, rowO l78 T7 5) :: H, R, φ⟩) (tag := 100060) rfl) hx109) ?_
    rintro ⟨ad110, hA112, f111⟩
    refine g_v rfl (r_ixN hl78 Try.underlying77 Try.sizeOf5 rfl hA112 rfl hx109) ?_
    refine g_do rfl rfl rfl rfl rfl h108 ?_
    refine g_v rfl (r_ld rfl Try.isAgg5 (fun W hS => Cl.head (f111 W hS))) ?_
    refine g_do rfl rfl rfl rfl rfl h108 ?_
    refine g_v rfl (r_leq rfl rfl) ?_
    refine g_v rfl (r_pick1 rfl h108) ?_
    refine g_nil ?_
    refine d_then ?_
    refine c_flat [(3, .slice (some ⟨g5, 0, none⟩) ((bytesI p0).length) c6), (4, .int .i64 i79), (8, .int .i64 (((bytesI p0).length) : Int)), (9, .int .i64 i79), (23, .bool (decide (x109 ≤ 90)))] ⟨rfl, rfl, rfl, rfl, rfl, trivial⟩ (fun u => ?_)
    refine c_sta ⟨w0, M, (100060, g5, rowO l78 T7 5) :: H, R, φ⟩ (fun _ h => h) ?_
    refine c_cond rfl (fun h113 => ?_) (fun h113 => ?_)
    ·
     replace hm := ite_t hm (of_decide_eq_true h113)
     refine c_region ?_
     refine g_v rfl r_move ?_
     refine g_v rfl r_move ?_
     replace hm := bnd hm
     obtain ⟨x114, hx114, hm⟩ := hm
     refine g_know _ (fun W hS => cl_at (p := (Sta.ok ⟨w0, M, (100060, g5, rowO l78 T7 5) :: H, R, φ⟩)) (sz := 1) (fun _ => rfl) (by decide) hS (hrowCl (S := ⟨w0, M, (100060, g5, rowO l78 T7 5) :: H, R, φ⟩) (tag := 100060) rfl) hx114) ?_
     rintro ⟨ad115, hA117, f116⟩
     refine g_v rfl (r_ixN hl78 Try.underlying77 Try.sizeOf5 rfl hA117 rfl hx114) ?_
     refine g_v rfl (r_ld rfl Try.isAgg5 (fun W hS => Cl.head (f116 W hS))) ?_
     refine g_v rfl (r_bits_or rfl rfl) ?_
     replace hm := bnd hm
     obtain ⟨x118, hx118, hm⟩ := hm
     refine g_know _ (fun W hS => cl_at (p := (Sta.ok ⟨w0, M, (100060, g5, rowO l78 T7 5) :: H, R, φ⟩)) (sz := 1) (fun _ => rfl) (by decide) hS (hrowCl (S := ⟨w0, M, (100060, g5, rowO l78 T7 5) :: H, R, φ⟩) (tag := 100060) rfl) hx118) ?_
     rintro ⟨ad119, hA121, f120⟩
     refine g_v rfl (r_ixN hl78 Try.underlying77 Try.sizeOf5 rfl hA121 rfl hx118) ?_
     replace hm := bnd hm
     obtain ⟨l122, hl122, hm⟩ := hm
     refine g_stH (tag := 100060) (l := l78) rfl rfl hA121 rfl hl122 rfl Try.sizeOf5 ?_
     refine g_nil ?_
     refine d_normal_block ?_
     refine d_then ?_
     refine c_region ?_
     refine g_v rfl (r_add rfl rfl rfl) ?_
     refine g_v rfl r_move ?_
     refine g_nil ?_
     obtain ⟨n123, hn123, hlp⟩ := nx_inl hm hnx2
     exact d_round (n123, l122, w64 (i79 + 1)) ⟨hlp, ((setAt_lenE hl122).trans hl78)⟩ hn123 ⟨rfl, rfl, rfl, trivial⟩ (fun W h => h.phi (fun W hφ => hφ))
    ·
     replace hm := ite_f hm (of_decide_eq_false h113)
     refine c_skip ?_
     refine d_normal_block ?_
     refine d_then ?_
     refine c_region ?_
     refine g_v rfl (r_add rfl rfl rfl) ?_
     refine g_v rfl r_move ?_
     refine g_nil ?_
     obtain ⟨n124, hn124, hlp⟩ := nx_inl hm hnx2
     exact d_round (n124, l78, w64 (i79 + 1)) ⟨hlp, hl78⟩ hn124 ⟨rfl, rfl, rfl, trivial⟩ (fun W h => h.phi (fun W hφ => hφ))
   ·
    replace hm := ite_f hm (of_decide_eq_false h108)
    refine g_no rfl rfl rfl rfl rfl h108 ?_
    refine g_no rfl rfl rfl rfl rfl h108 ?_
    refine g_no rfl rfl rfl rfl rfl h108 ?_
    refine g_no rfl rfl rfl rfl rfl h108 ?_
    refine g_v rfl (r_pick0 rfl h108) ?_
    refine g_nil ?_
    refine d_then ?_
    refine c_flat [(3, .slice (some ⟨g5, 0, none⟩) ((bytesI p0).length) c6), (4, .int .i64 i79), (8, .int .i64 (((bytesI p0).length) : Int)), (9, .int .i64 i79), (23, .bool false)] ⟨rfl, rfl, rfl, rfl, rfl, trivial⟩ (fun u => ?_)
    refine c_sta ⟨w0, M, (100060, g5, rowO l78 T7 5) :: H, R, φ⟩ (fun _ h => h) ?_
    refine c_cond0 rfl rfl ?_
    refine c_skip ?_
    refine d_normal_block ?_
    refine d_then ?_
    refine c_region ?_
    refine g_v rfl (r_add rfl rfl rfl) ?_
    refine g_v rfl r_move ?_
    refine g_nil ?_
    obtain ⟨n125, hn125, hlp⟩ := nx_inl hm hnx2
    exact d_round (n125, l78, w64 (i79 + 1)) ⟨hlp, hl78⟩ hn125 ⟨rfl, rfl, rfl, trivial⟩ (fun W h => h.phi (fun W hφ => hφ))
  ·
   replace hm := ite_f hm (of_decide_eq_false h103)
   refine c_exit ?_
   refine d_exit_then ?_
   refine d_exit_then ?_
   refine d_exit_block ?_
   replace hm := nx_out (C := (fun e => m_name_Lower_j1 e = some r)) hm hnx2 hr2
   exact d_round l78 ⟨hm, hl78⟩ Nat.zero_lt_one ⟨rfl, trivial⟩ (fun W h => h.phi (fun W hφ => hφ))
 ·
  unfold m_name_Lower_j1 at hm
  refine d_flat [(3, .slice (some ⟨g5, 0, none⟩) ((bytesI p0).length) c6)] ⟨rfl, trivial⟩ (fun u => ?_)
  refine d_sta ⟨w0, M, (100060, g5, rowO l55 T7 5) :: H, R, φ⟩ (fun _ h => h) ?_
  refine d_then ?_
  refine c_seq ?_
  refine c_region ?_
  refine g_v rfl r_move ?_
  refine g_v rfl (r_textN hl55 Try.underlying77 Try.underlying5 Try.underlying9 rfl (hrowCl (tag := 100060) rfl)) ?_
  refine g_v rfl r_assign ?_
  refine g_nil ?_
  refine d_then ?_
  refine c_ret ?_
  replace hm := Option.some.inj hm
  subst hm
  refine d_retC () Try.results107 ?_ trivial (fun W h => ok_pre (H1 := [_]) (R1 := []) h (fun W hφ => hφ)) (.inr rfl)
  refine res_tmp ?_
  refine res_nil ?_
  exact rfl

noncomputable def m_name_Same (p0 : ByteArray) (p1 : ByteArray) : Option Bool :=
  (m_name_Check p0).bind fun x1 =>
  if x1 = 0 then
    (m_name_Lower p0).bind fun x4 =>
    (m_name_Lower p1).bind fun x6 =>
    some (decide (x4 = x6))
  else
    some false
theorem c_name_Same {w0 : World} {M : Nat → Prop} {H : List (Nat × Nat × Obj)} {R : List (Nat × Row)} {φ : World → Prop} (p0 : ByteArray) (p1 : ByteArray) (r : Bool) (hm : m_name_Same p0 p1 = some r) :
    Cn Try.prog 83 #[.string p0, .string p1] ⟨w0, M, H, R, φ⟩ (fun x : Unit => .bool r) (fun x => True) (fun x => ⟨w0, M, H, R, φ⟩) := by
 unfold m_name_Same at hm
 refine cn_intro (fn := Try.f83) (N := 15) Try.func83 rfl Try.ntmps83 rfl ?_
 refine c_seq ?_
 refine c_region ?_
 refine g_v rfl r_assign ?_
 refine g_nil ?_
 refine d_then ?_
 refine c_seq ?_
 refine c_region ?_
 refine g_v rfl r_move ?_
 replace hm := bnd hm
 obtain ⟨x1, hx2, hm⟩ := hm
 refine g_cn ⟨w0, M, _, _, φ⟩ (fun _ h => h) Try.call79 rfl rfl (c_name_Check p0 _ hx2) (fun _ _ => ?_)
 refine g_v rfl (r_eql rfl rfl) ?_
 refine g_v rfl r_move ?_
 refine g_if rfl rfl rfl rfl rfl (fun h3 => ?_) (fun h3 => ?_)
 ·
  replace hm := ite_t hm (of_decide_eq_true h3)
  refine g_v rfl r_move ?_
  refine g_do rfl rfl rfl rfl rfl h3 ?_
  replace hm := bnd hm
  obtain ⟨x4, hx5, hm⟩ := hm
  refine g_cn ⟨w0, M, _, _, φ⟩ (fun _ h => h) Try.call107 rfl rfl (c_name_Lower p0 _ hx5) (fun _ _ => ?_)
  refine g_do rfl rfl rfl rfl rfl h3 ?_
  refine g_v rfl r_move ?_
  refine g_do rfl rfl rfl rfl rfl h3 ?_
  replace hm := bnd hm
  obtain ⟨x6, hx7, hm⟩ := hm
  refine g_cn ⟨w0, M, _, _, φ⟩ (fun _ h => h) Try.call107 rfl rfl (c_name_Lower p1 _ hx7) (fun _ _ => ?_)
  refine g_do rfl rfl rfl rfl rfl h3 ?_
  refine g_v rfl (r_eqlT rfl rfl) ?_
  refine g_v rfl (r_pick1 rfl h3) ?_
  refine g_v rfl r_assign ?_
  refine g_nil ?_
  refine d_then ?_
  refine c_flat [(4, .bool (decide (x4 = x6)))] ⟨rfl, trivial⟩ (fun u => ?_)
  refine c_sta ⟨w0, M, H, R, φ⟩ (fun _ h => h) ?_
  refine c_ret ?_
  replace hm := Option.some.inj hm
  subst hm
  refine d_retC () Try.results83 ?_ trivial (fun W h => ok_pre (H1 := []) (R1 := []) h (fun W hφ => hφ)) (.inr rfl)
  refine res_tmp ?_
  refine res_nil ?_
  exact rfl
 ·
  replace hm := ite_f hm (of_decide_eq_false h3)
  refine g_no rfl rfl rfl rfl rfl h3 ?_
  refine g_no rfl rfl rfl rfl rfl h3 ?_
  refine g_no rfl rfl rfl rfl rfl h3 ?_
  refine g_no rfl rfl rfl rfl rfl h3 ?_
  refine g_v rfl (r_pick0 rfl h3) ?_
  refine g_v rfl r_assign ?_
  refine g_nil ?_
  refine d_then ?_
  refine c_ret ?_
  replace hm := Option.some.inj hm
  subst hm
  refine d_retC () Try.results83 ?_ trivial (fun W h => ok_pre (H1 := []) (R1 := []) h (fun W hφ => hφ)) (.inr rfl)
  refine res_tmp ?_
  refine res_nil ?_
  exact rfl

noncomputable def m_record_Alike_j1 (x18 : Grecord_parts) (x27 : Grecord_parts) : Option Bool :=
  if x18.fahead = x27.fahead then
    some (decide (x18.fbehind = x27.fbehind))
  else
    some false
noncomputable def m_record_Alike_s2 (x18 : Grecord_parts) (x27 : Grecord_parts) (i78 : Int) : Option (Int ⊕ (Unit ⊕ Bool)) :=
  if i78 < (x18.fnames.length : Int) then
    (at_ x18.fnames i78).bind fun x94 =>
    (at_ x27.fnames i78).bind fun x98 =>
    (m_name_Same x94 x98).bind fun x102 =>
    if x102 = true then
      some (.inl (w64 (i78 + 1)))
    else
      some (.inr (.inr false))
  else
    some (.inr (.inl ()))
noncomputable def m_record_Alike (p0 : GRR) (p1 : GRR) : Option Bool :=
  (m_record_Check p0).bind fun x3 =>
  if x3 ≠ 0 then
    some false
  else
    (m_record_Check p1).bind fun x6 =>
    if x6 ≠ 0 then
      some false
    else
      (m_name_Same p0.fName p1.fName).bind fun x9 =>
      if x9 = true then
        if p0.fType ≠ p1.fType then
          some false
        else
          if p0.fClass ≠ p1.fClass then
            some false
          else
            (m_record_shapeOf p0.fType).bind fun x14 =>
            if x14.fnames = 0 then
              some (decide (p0.fData = p1.fData))
            else
              (m_record_shape_cut x14 p0.fData).bind fun (z25 : Grecord_parts × Bool) =>
              (m_record_shape_cut x14 p1.fData).bind fun (z34 : Grecord_parts × Bool) =>
              (loop (fun s => m_record_Alike_s2 z25.1 z34.1 s) 0).bind fun e => Sum.elim (fun e => m_record_Alike_j1 z25.1 z34.1) (fun x => some x) e
      else
        some false
theorem c_record_Alike {w0 : World} {M : Nat → Prop} {H : List (Nat × Nat × Obj)} {R : List (Nat × Row)} {φ : World → Prop} (p0 : GRR) (p1 : GRR) (r : Bool) (hm : m_record_Alike p0 p1 = some r) :
    Cn Try.prog 34 #[.agg #[.string p0.fName, .int .u16 p0.fType, .int .u16 p0.fClass, .int .u32 p0.fTTL, .string p0.fData], .agg #[.string p1.fName, .int .u16 p1.fType, .int .u16 p1.fClass, .int .u32 p1.fTTL, .string p1.fData]] ⟨w0, M, H, R, φ⟩ (fun x : Unit => .bool r) (fun x => True) (fun x => ⟨w0, M, H, R, φ⟩) := by
 unfold m_record_Alike at hm
 refine cn_intro (fn := Try.f34) (N := 96) Try.func34 rfl Try.ntmps34 rfl ?_
 refine c_seq ?_
 refine c_region ?_
 refine g_e rfl (e_box 100020 rfl) (fun g1 _ => ?_)
 refine g_e rfl (e_box 100030 rfl) (fun g2 _ => ?_)
 refine g_v rfl r_assign ?_
 refine g_nil ?_
 refine d_then ?_
 refine c_seq ?_
 refine c_seq ?_
 refine c_region ?_
 refine g_v rfl (r_loadA (tag := 100020) rfl rfl Try.isAgg27 Try.sizeOf27 rfl rfl) ?_
 replace hm := bnd hm
 obtain ⟨x3, hx4, hm⟩ := hm
 refine g_cn ⟨w0, M, _, _, φ⟩ (fun _ h => h) Try.call31 rfl rfl (c_record_Check p0 _ hx4) (fun _ _ => ?_)
 refine g_v rfl (r_neq rfl rfl) ?_
 refine g_v rfl r_move ?_
 refine g_if rfl rfl rfl rfl rfl (fun h5 => ?_) (fun h5 => ?_)
 ·
  replace hm := ite_f hm (of_decide_eq_false h5)
  refine g_v rfl (r_loadA (tag := 100030) rfl rfl Try.isAgg27 Try.sizeOf27 rfl rfl) ?_
  refine g_do rfl rfl rfl rfl rfl h5 ?_
  replace hm := bnd hm
  obtain ⟨x6, hx7, hm⟩ := hm
  refine g_cn ⟨w0, M, _, _, φ⟩ (fun _ h => h) Try.call31 rfl rfl (c_record_Check p1 _ hx7) (fun _ _ => ?_)
  refine g_do rfl rfl rfl rfl rfl h5 ?_
  refine g_v rfl (r_neq rfl rfl) ?_
  refine g_v rfl (r_pick0 rfl h5) ?_
  refine g_v rfl r_move ?_
  refine g_if rfl rfl rfl rfl rfl (fun h8 => ?_) (fun h8 => ?_)
  ·
   replace hm := ite_f hm (of_decide_eq_false h8)
   refine g_v rfl (r_field (n := 0) Try.underlying27 rfl Try.sizeOf9 rfl rfl) ?_
   refine g_do rfl rfl rfl rfl rfl h8 ?_
   refine g_v rfl (r_load (tag := 100020) rfl rfl rfl Try.isAgg9) ?_
   refine g_do rfl rfl rfl rfl rfl h8 ?_
   refine g_v rfl (r_field (n := 0) Try.underlying27 rfl Try.sizeOf9 rfl rfl) ?_
   refine g_do rfl rfl rfl rfl rfl h8 ?_
   refine g_v rfl (r_load (tag := 100030) rfl rfl rfl Try.isAgg9) ?_
   refine g_do rfl rfl rfl rfl rfl h8 ?_
   replace hm := bnd hm
   obtain ⟨x9, hx10, hm⟩ := hm
   refine g_cn ⟨w0, M, _, _, φ⟩ (fun _ h => h) Try.call83 rfl rfl (c_name_Same p0.fName p1.fName _ hx10) (fun _ _ => ?_)
   refine g_do rfl rfl rfl rfl rfl h8 ?_
   refine g_v rfl (r_not rfl) ?_
   refine g_v rfl (r_pick0 rfl h8) ?_
   refine g_v rfl r_move ?_
   refine g_if rfl rfl rfl rfl rfl (fun h11 => ?_) (fun h11 => ?_)
   ·
    have h11' : x9 = true := by revert h11; cases x9 <;> simp
    replace hm := ite_t hm h11'
    refine g_v rfl (r_field (n := 1) Try.underlying27 rfl Try.sizeOf24 rfl rfl) ?_
    refine g_do rfl rfl rfl rfl rfl h11 ?_
    refine g_v rfl (r_load (tag := 100020) rfl rfl rfl Try.isAgg24) ?_
    refine g_do rfl rfl rfl rfl rfl h11 ?_
    refine g_v rfl (r_field (n := 1) Try.underlying27 rfl Try.sizeOf24 rfl rfl) ?_
    refine g_do rfl rfl rfl rfl rfl h11 ?_
    refine g_v rfl (r_load (tag := 100030) rfl rfl rfl Try.isAgg24) ?_
    refine g_do rfl rfl rfl rfl rfl h11 ?_
    refine g_v rfl (r_neq rfl rfl) ?_
    refine g_v rfl (r_pick0 rfl h11) ?_
    refine g_v rfl r_move ?_
    refine g_if rfl rfl rfl rfl rfl (fun h12 => ?_) (fun h12 => ?_)
    ·
     replace hm := ite_f hm (of_decide_eq_false h12)
     refine g_v rfl (r_field (n := 2) Try.underlying27 rfl Try.sizeOf24 rfl rfl) ?_
     refine g_do rfl rfl rfl rfl rfl h12 ?_
     refine g_v rfl (r_load (tag := 100020) rfl rfl rfl Try.isAgg24) ?_
     refine g_do rfl rfl rfl rfl rfl h12 ?_
     refine g_v rfl (r_field (n := 2) Try.underlying27 rfl Try.sizeOf24 rfl rfl) ?_
     refine g_do rfl rfl rfl rfl rfl h12 ?_
     refine g_v rfl (r_load (tag := 100030) rfl rfl rfl Try.isAgg24) ?_
     refine g_do rfl rfl rfl rfl rfl h12 ?_
     refine g_v rfl (r_neq rfl rfl) ?_
     refine g_v rfl (r_pick0 rfl h12) ?_
     refine g_nil ?_
     refine d_then ?_
     refine c_flat [(2, .pointer (some ⟨g1, 0, none⟩)), (3, .pointer (some ⟨g2, 0, none⟩)), (41, .bool (decide (p0.fClass ≠ p1.fClass)))] ⟨rfl, rfl, rfl, trivial⟩ (fun u => ?_)
     refine c_sta ⟨w0, M, (100030, g2, .cells #[.string p1.fName, .int .u16 p1.fType, .int .u16 p1.fClass, .int .u32 p1.fTTL, .string p1.fData] 27 (0, 0)) :: (100020, g1, .cells #[.string p0.fName, .int .u16 p0.fType, .int .u16 p0.fClass, .int .u32 p0.fTTL, .string p0.fData] 27 (0, 0)) :: H, R, φ⟩ (fun _ h => h) ?_
     refine c_cond rfl (fun h13 => ?_) (fun h13 => ?_)
     ·
      replace hm := ite_t hm (of_decide_eq_true h13)
      refine c_seq ?_
      refine c_region ?_
      refine g_v rfl r_assign ?_
      refine g_nil ?_
      refine d_then ?_
      refine c_ret ?_
      refine d_ret_then ?_
      replace hm := Option.some.inj hm
      subst hm
      refine d_retC () Try.results34 ?_ trivial (fun W h => ok_pre (H1 := [_, _]) (R1 := []) h (fun W hφ => hφ)) (.inr rfl)
      refine res_tmp ?_
      refine res_nil ?_
      exact rfl
     ·
      replace hm := ite_f hm (of_decide_eq_false h13)
      refine c_skip ?_
      refine d_then ?_
      refine c_seq ?_
      refine c_region ?_
      refine g_v rfl (r_field (n := 1) Try.underlying27 rfl Try.sizeOf24 rfl rfl) ?_
      refine g_v rfl (r_load (tag := 100020) rfl rfl rfl Try.isAgg24) ?_
      replace hm := bnd hm
      obtain ⟨x14, hx15, hm⟩ := hm
      refine g_cn ⟨w0, M, _, _, φ⟩ (fun _ h => h) Try.call61 rfl rfl (c_record_shapeOf p0.fType _ hx15) (fun _ _ => ?_)
      refine g_e rfl (e_alloc 100050 Try.zeroValue90) (fun g16 _ => ?_)
      refine g_storeL (tag := 100050) rfl rfl rfl rfl Try.sizeOf90 rfl rfl ?_
      refine g_nil ?_
      refine d_then ?_
      refine c_seq ?_
      refine c_seq ?_
      refine c_region ?_
      refine g_v rfl (r_field (n := 1) Try.underlying90 rfl Try.sizeOf3 rfl rfl) ?_
      refine g_v rfl (r_load (tag := 100050) rfl rfl rfl Try.isAgg3) ?_
      refine g_v rfl (r_eql rfl rfl) ?_
      refine g_nil ?_
      refine d_then ?_
      refine c_cond rfl (fun h17 => ?_) (fun h17 => ?_)
      ·
       replace hm := ite_t hm (of_decide_eq_true h17)
       refine c_seq ?_
       refine c_region ?_
       refine g_v rfl (r_field (n := 4) Try.underlying27 rfl Try.sizeOf9 rfl rfl) ?_
       refine g_v rfl (r_load (tag := 100020) rfl rfl rfl Try.isAgg9) ?_
       refine g_v rfl (r_field (n := 4) Try.underlying27 rfl Try.sizeOf9 rfl rfl) ?_
       refine g_v rfl (r_load (tag := 100030) rfl rfl rfl Try.isAgg9) ?_
       refine g_v rfl (r_eqlT rfl rfl) ?_
       refine g_v rfl r_assign ?_
       refine g_nil ?_
       refine d_then ?_
       refine c_flat [(4, .bool (decide (p0.fData = p1.fData)))] ⟨rfl, trivial⟩ (fun u => ?_)
       refine c_sta ⟨w0, M, (100050, g16, .cells #[.int .i64 x14.fahead, .int .i64 x14.fnames, .int .i64 x14.fbehind] 90 (0, 0)) :: (100030, g2, .cells #[.string p1.fName, .int .u16 p1.fType, .int .u16 p1.fClass, .int .u32 p1.fTTL, .string p1.fData] 27 (0, 0)) :: (100020, g1, .cells #[.string p0.fName, .int .u16 p0.fType, .int .u16 p0.fClass, .int .u32 p0.fTTL, .string p0.fData] 27 (0, 0)) :: H, R, φ⟩ (fun _ h => h) ?_
       refine c_ret ?_
       refine d_ret_then ?_
       replace hm := Option.some.inj hm
       subst hm
       refine d_retC () Try.results34 ?_ trivial (fun W h => ok_pre (H1 := [_, _, _]) (R1 := []) h (fun W hφ => hφ)) (.inr rfl)
       refine res_tmp ?_
       refine res_nil ?_
       exact rfl
      ·
       replace hm := ite_f hm (of_decide_eq_false h17)
       refine c_skip ?_
       refine d_then ?_
       refine c_seq ?_
       refine c_region ?_
       refine g_v rfl (r_loadA (tag := 100050) rfl rfl Try.isAgg90 Try.sizeOf90 rfl rfl) ?_
       refine g_v rfl (r_field (n := 4) Try.underlying27 rfl Try.sizeOf9 rfl rfl) ?_
       refine g_v rfl (r_load (tag := 100020) rfl rfl rfl Try.isAgg9) ?_
       replace hm := bnd hm
       obtain ⟨⟨x18, x19⟩, hx20, hm⟩ := hm
       refine g_cn ⟨w0, M, _, _, φ⟩ (fun _ h => h) Try.call71 rfl rfl (c_record_shape_cut x14 p0.fData _ hx20) (fun ⟨A21, c22⟩ hc22 => ?_)
       refine g_abs (fun φ24 q24' => ?_)
       have q24 : ∀ W, φ24 W → φ W := fun W h => (q24' W h).1
       have f23 := fun (W : World) (h : φ24 W) => (q24' W h).2
       refine g_v rfl r_move ?_
       refine g_v rfl (r_extract rfl rfl) ?_
       refine g_v rfl (r_extract rfl rfl) ?_
       refine g_e rfl (e_alloc 100060 Try.zeroValue107) (fun g26 _ => ?_)
       refine g_storeL (tag := 100060) rfl rfl rfl rfl Try.sizeOf107 rfl rfl ?_
       refine g_v rfl r_assign ?_
       refine g_nil ?_
       refine d_then ?_
       refine c_flat [(3, .pointer (some ⟨g2, 0, none⟩)), (5, .pointer (some ⟨g16, 0, none⟩)), (6, .pointer (some ⟨g26, 0, none⟩))] ⟨rfl, rfl, rfl, trivial⟩ (fun u => ?_)
       refine c_sta ⟨w0, M, (100060, g26, .cells #[.string x18.fahead, .string x18.fbehind, .slice A21 x18.fnames.length c22] 107 (0, 0)) :: (100050, g16, .cells #[.int .i64 x14.fahead, .int .i64 x14.fnames, .int .i64 x14.fbehind] 90 (0, 0)) :: (100030, g2, .cells #[.string p1.fName, .int .u16 p1.fType, .int .u16 p1.fClass, .int .u32 p1.fTTL, .string p1.fData] 27 (0, 0)) :: (100020, g1, .cells #[.string p0.fName, .int .u16 p0.fType, .int .u16 p0.fClass, .int .u32 p0.fTTL, .string p0.fData] 27 (0, 0)) :: H, R, φ24⟩ (fun _ h => h) ?_
       refine c_seq ?_
       refine c_region ?_
       refine g_v rfl (r_loadA (tag := 100050) rfl rfl Try.isAgg90 Try.sizeOf90 rfl rfl) ?_
       refine g_v rfl (r_field (n := 4) Try.underlying27 rfl Try.sizeOf9 rfl rfl) ?_
       refine g_v rfl (r_load (tag := 100030) rfl rfl rfl Try.isAgg9) ?_
       replace hm := bnd hm
       obtain ⟨⟨x27, x28⟩, hx29, hm⟩ := hm
       refine g_cn ⟨w0, M, _, _, φ24⟩ (fun _ h => h) Try.call71 rfl rfl (c_record_shape_cut x14 p1.fData _ hx29) (fun ⟨A30, c31⟩ hc31 => ?_)
       refine g_abs (fun φ33 q33' => ?_)
       have q33 : ∀ W, φ33 W → φ24 W := fun W h => (q33' W h).1
       have f32 := fun (W : World) (h : φ33 W) => (q33' W h).2
       refine g_v rfl r_move ?_
       refine g_v rfl (r_extract rfl rfl) ?_
       refine g_v rfl (r_extract rfl rfl) ?_
       refine g_e rfl (e_alloc 100080 Try.zeroValue107) (fun g35 _ => ?_)
       refine g_storeL (tag := 100080) rfl rfl rfl rfl Try.sizeOf107 rfl rfl ?_
       refine g_v rfl r_assign ?_
       refine g_nil ?_
       refine d_then ?_
       refine c_flat [(6, .pointer (some ⟨g26, 0, none⟩)), (8, .pointer (some ⟨g35, 0, none⟩))] ⟨rfl, rfl, trivial⟩ (fun u => ?_)
       refine c_sta ⟨w0, M, (100080, g35, .cells #[.string x27.fahead, .string x27.fbehind, .slice A30 x27.fnames.length c31] 107 (0, 0)) :: (100060, g26, .cells #[.string x18.fahead, .string x18.fbehind, .slice A21 x18.fnames.length c22] 107 (0, 0)) :: (100050, g16, .cells #[.int .i64 x14.fahead, .int .i64 x14.fnames, .int .i64 x14.fbehind] 90 (0, 0)) :: (100030, g2, .cells #[.string p1.fName, .int .u16 p1.fType, .int .u16 p1.fClass, .int .u32 p1.fTTL, .string p1.fData] 27 (0, 0)) :: (100020, g1, .cells #[.string p0.fName, .int .u16 p0.fType, .int .u16 p0.fClass, .int .u32 p0.fTTL, .string p0.fData] 27 (0, 0)) :: H, R, φ33⟩ (fun _ h => h) ?_
       refine c_seq ?_
       refine c_seq ?_
       refine c_region ?_
       refine g_v rfl (r_field (n := 2) Try.underlying107 rfl Try.sizeOf105 rfl rfl) ?_
       refine g_v rfl (r_load (tag := 100060) rfl rfl rfl Try.isAgg105) ?_
       refine g_v rfl (r_lenL Try.underlying105 rfl) ?_
       refine g_v rfl r_move ?_
       refine g_nil ?_
       refine d_then ?_
       refine c_cut (ι := Unit) [6, 8] (fun _ => []) (fun _ => ⟨w0, M, (100080, g35, .cells #[.string x27.fahead, .string x27.fbehind, .slice A30 x27.fnames.length c31] 107 (0, 0)) :: (100060, g26, .cells #[.string x18.fahead, .string x18.fbehind, .slice A21 x18.fnames.length c22] 107 (0, 0)) :: H, R, φ33⟩) (fun _ => m_record_Alike_j1 x18 x27 = some r) ?_ (fun _ u hm => ?_)
       ·
        refine c_block ?_
        replace hm := bnd hm
        obtain ⟨out2, hl2, hr2⟩ := hm
        obtain ⟨n92', hl2⟩ := loop_lp hl2
        refine c_loopU (ι := Nat × Int) [6, 8, 68, 69, 70] (fun ⟨n92, i78⟩ => [(70, .int .i64 i78)]) (fun ⟨n92, i78⟩ => ⟨w0, M, (100080, g35, .cells #[.string x27.fahead, .string x27.fbehind, .slice A30 x27.fnames.length c31] 107 (0, 0)) :: (100060, g26, .cells #[.string x18.fahead, .string x18.fbehind, .slice A21 x18.fnames.length c22] 107 (0, 0)) :: H, R, φ33⟩) (fun ⟨n92, i78⟩ => Lp (fun s => m_record_Alike_s2 x18 x27 s) n92 i78 out2) (fun ⟨n92, i78⟩ => n92) (n92', 0) hl2 ⟨rfl, rfl, rfl, rfl, rfl, trivial⟩ (fun W h => (((h.dropH (t := 100050) rfl).dropH (t := 100030) rfl).dropH (t := 100020) rfl).phi (fun W hφ => hφ)) (fun ⟨n92, i78⟩ u hlp => ?_)
        obtain ⟨o2, hm, hnx2⟩ := lp_step hlp
        clear hlp
        replace hm : m_record_Alike_s2 x18 x27 i78 = some o2 := hm
        unfold m_record_Alike_s2 at hm
        refine c_flat [(6, .pointer (some ⟨g26, 0, none⟩)), (8, .pointer (some ⟨g35, 0, none⟩)), (68, .slice A21 x18.fnames.length c22), (69, .int .i64 (x18.fnames.length : Int)), (70, .int .i64 i78)] ⟨rfl, rfl, rfl, rfl, rfl, trivial⟩ (fun u => ?_)
        refine c_sta ⟨w0, M, (100080, g35, .cells #[.string x27.fahead, .string x27.fbehind, .slice A30 x27.fnames.length c31] 107 (0, 0)) :: (100060, g26, .cells #[.string x18.fahead, .string x18.fbehind, .slice A21 x18.fnames.length c22] 107 (0, 0)) :: H, R, φ33⟩ (fun _ h => h) ?_
        refine c_seq ?_
        refine c_region ?_
        refine g_v rfl (r_lss rfl rfl) ?_
        refine g_nil ?_
        refine d_then ?_
        refine c_seq ?_
        refine c_cond rfl (fun h93 => ?_) (fun h93 => ?_)
        ·
         replace hm := ite_t hm (of_decide_eq_true h93)
         refine c_skip ?_
         refine d_then ?_
         refine c_seq ?_
         refine c_block ?_
         refine c_seq ?_
         refine c_region ?_
         refine g_v rfl r_move ?_
         replace hm := bnd hm
         obtain ⟨x94, hx94, hm⟩ := hm
         refine g_know _ (fun W hS => cl_at (p := φ24) (sz := 1) (fun _ => rfl) (by decide) (q33 _ hS.now) f23 hx94) ?_
         rintro ⟨ad95, hA97, f96⟩
         refine g_v rfl (r_ix Try.underlying105 Try.sizeOf9 rfl hA97 rfl hx94) ?_
         refine g_v rfl (r_ld rfl Try.isAgg9 (fun W hS => Cl.head (f96 W (q33 _ hS.now)))) ?_
         refine g_v rfl r_assign ?_
         refine g_v rfl r_assign ?_
         refine g_nil ?_
         refine d_then ?_
         refine c_seq ?_
         refine c_region ?_
         refine g_v rfl r_move ?_
         refine g_v rfl (r_field (n := 2) Try.underlying107 rfl Try.sizeOf105 rfl rfl) ?_
         refine g_v rfl (r_load (tag := 100080) rfl rfl rfl Try.isAgg105) ?_
         refine g_v rfl r_move ?_
         replace hm := bnd hm
         obtain ⟨x98, hx98, hm⟩ := hm
         refine g_know _ (fun W hS => cl_at (p := φ33) (sz := 1) (fun _ => rfl) (by decide) hS.now f32 hx98) ?_
         rintro ⟨ad99, hA101, f100⟩
         refine g_v rfl (r_ix Try.underlying105 Try.sizeOf9 rfl hA101 rfl hx98) ?_
         refine g_v rfl (r_ld rfl Try.isAgg9 (fun W hS => Cl.head (f100 W hS.now))) ?_
         replace hm := bnd hm
         obtain ⟨x102, hx103, hm⟩ := hm
         refine g_cn ⟨w0, M, _, _, φ33⟩ (fun _ h => h) Try.call83 rfl rfl (c_name_Same x94 x98 _ hx103) (fun _ _ => ?_)
         refine g_v rfl (r_not rfl) ?_
         refine g_nil ?_
         refine d_then ?_
         refine c_flat [(6, .pointer (some ⟨g26, 0, none⟩)), (8, .pointer (some ⟨g35, 0, none⟩)), (68, .slice A21 x18.fnames.length c22), (69, .int .i64 (x18.fnames.length : Int)), (70, .int .i64 i78), (82, .bool (!x102))] ⟨rfl, rfl, rfl, rfl, rfl, rfl, trivial⟩ (fun u => ?_)
         refine c_sta ⟨w0, M, (100080, g35, .cells #[.string x27.fahead, .string x27.fbehind, .slice A30 x27.fnames.length c31] 107 (0, 0)) :: (100060, g26, .cells #[.string x18.fahead, .string x18.fbehind, .slice A21 x18.fnames.length c22] 107 (0, 0)) :: H, R, φ33⟩ (fun _ h => h) ?_
         refine c_cond rfl (fun h104 => ?_) (fun h104 => ?_)
         ·
          have h104' : x102 = false := by revert h104; cases x102 <;> simp
          replace hm := ite_f hm (bool_nt h104')
          refine c_seq ?_
          refine c_region ?_
          refine g_v rfl r_assign ?_
          refine g_nil ?_
          refine d_then ?_
          refine c_ret ?_
          refine d_ret_block ?_
          refine d_ret_then ?_
          refine d_ret_then ?_
          refine d_ret_block ?_
          refine d_ret_then ?_
          refine d_ret_then ?_
          replace hm := nx_out (C := (fun e => Sum.elim (fun e => m_record_Alike_j1 x18 x27) (fun x => some x) e = some r)) hm hnx2 hr2
          replace hm : some false = some r := hm
          replace hm := Option.some.inj hm
          subst hm
          refine d_retC () Try.results34 ?_ trivial (fun W h => ok_pre (H1 := [_, _]) (R1 := []) h (fun W hφ => (q24 _ (q33 _ hφ)))) (.inr rfl)
          refine res_tmp ?_
          refine res_nil ?_
          exact rfl
         ·
          have h104' : x102 = true := by revert h104; cases x102 <;> simp
          replace hm := ite_t hm h104'
          refine c_skip ?_
          refine d_normal_block ?_
          refine d_then ?_
          refine c_region ?_
          refine g_v rfl (r_add rfl rfl rfl) ?_
          refine g_v rfl r_move ?_
          refine g_nil ?_
          obtain ⟨n105, hn105, hlp⟩ := nx_inl hm hnx2
          exact d_round (n105, w64 (i78 + 1)) hlp hn105 ⟨rfl, rfl, rfl, rfl, rfl, trivial⟩ (fun W h => h.phi (fun W hφ => hφ))
        ·
         replace hm := ite_f hm (of_decide_eq_false h93)
         refine c_exit ?_
         refine d_exit_then ?_
         refine d_exit_then ?_
         refine d_exit_block ?_
         replace hm := nx_out (C := (fun e => Sum.elim (fun e => m_record_Alike_j1 x18 x27) (fun x => some x) e = some r)) hm hnx2 hr2
         exact d_round () hm Nat.zero_lt_one ⟨rfl, rfl, trivial⟩ (fun W h => h.phi (fun W hφ => hφ))
       ·
        unfold m_record_Alike_j1 at hm
        refine d_flat [(6, .pointer (some ⟨g26, 0, none⟩)), (8, .pointer (some ⟨g35, 0, none⟩))] ⟨rfl, rfl, trivial⟩ (fun u => ?_)
        refine d_sta ⟨w0, M, (100080, g35, .cells #[.string x27.fahead, .string x27.fbehind, .slice A30 x27.fnames.length c31] 107 (0, 0)) :: (100060, g26, .cells #[.string x18.fahead, .string x18.fbehind, .slice A21 x18.fnames.length c22] 107 (0, 0)) :: H, R, φ33⟩ (fun _ h => h) ?_
        refine d_then ?_
        refine c_seq ?_
        refine c_region ?_
        refine g_v rfl (r_field (n := 0) Try.underlying107 rfl Try.sizeOf9 rfl rfl) ?_
        refine g_v rfl (r_load (tag := 100060) rfl rfl rfl Try.isAgg9) ?_
        refine g_v rfl (r_field (n := 0) Try.underlying107 rfl Try.sizeOf9 rfl rfl) ?_
        refine g_v rfl (r_load (tag := 100080) rfl rfl rfl Try.isAgg9) ?_
        refine g_v rfl (r_eqlT rfl rfl) ?_
        refine g_v rfl r_move ?_
        refine g_if rfl rfl rfl rfl rfl (fun h64 => ?_) (fun h64 => ?_)
        ·
         replace hm := ite_t hm (of_decide_eq_true h64)
         refine g_v rfl (r_field (n := 1) Try.underlying107 rfl Try.sizeOf9 rfl rfl) ?_
         refine g_do rfl rfl rfl rfl rfl h64 ?_
         refine g_v rfl (r_load (tag := 100060) rfl rfl rfl Try.isAgg9) ?_
         refine g_do rfl rfl rfl rfl rfl h64 ?_
         refine g_v rfl (r_field (n := 1) Try.underlying107 rfl Try.sizeOf9 rfl rfl) ?_
         refine g_do rfl rfl rfl rfl rfl h64 ?_
         refine g_v rfl (r_load (tag := 100080) rfl rfl rfl Try.isAgg9) ?_
         refine g_do rfl rfl rfl rfl rfl h64 ?_
         refine g_v rfl (r_eqlT rfl rfl) ?_
         refine g_v rfl (r_pick1 rfl h64) ?_
         refine g_v rfl r_assign ?_
         refine g_nil ?_
         refine d_then ?_
         refine c_flat [(4, .bool (decide (x18.fbehind = x27.fbehind)))] ⟨rfl, trivial⟩ (fun u => ?_)
         refine c_sta ⟨w0, M, (100080, g35, .cells #[.string x27.fahead, .string x27.fbehind, .slice A30 x27.fnames.length c31] 107 (0, 0)) :: (100060, g26, .cells #[.string x18.fahead, .string x18.fbehind, .slice A21 x18.fnames.length c22] 107 (0, 0)) :: H, R, φ33⟩ (fun _ h => h) ?_
         refine c_ret ?_
         replace hm := Option.some.inj hm
         subst hm
         refine d_retC () Try.results34 ?_ trivial (fun W h => ok_pre (H1 := [_, _]) (R1 := []) h (fun W hφ => (q24 _ (q33 _ hφ)))) (.inr rfl)
         refine res_tmp ?_
         refine res_nil ?_
         exact rfl
        ·
         replace hm := ite_f hm (of_decide_eq_false h64)
         refine g_no rfl rfl rfl rfl rfl h64 ?_
         refine g_no rfl rfl rfl rfl rfl h64 ?_
         refine g_no rfl rfl rfl rfl rfl h64 ?_
         refine g_no rfl rfl rfl rfl rfl h64 ?_
         refine g_v rfl (r_pick0 rfl h64) ?_
         refine g_v rfl r_assign ?_
         refine g_nil ?_
         refine d_then ?_
         refine c_ret ?_
         replace hm := Option.some.inj hm
         subst hm
         refine d_retC () Try.results34 ?_ trivial (fun W h => ok_pre (H1 := [_, _]) (R1 := []) h (fun W hφ => (q24 _ (q33 _ hφ)))) (.inr rfl)
         refine res_tmp ?_
         refine res_nil ?_
         exact rfl
    ·
     replace hm := ite_t hm (of_decide_eq_true h12)
     refine g_no rfl rfl rfl rfl rfl h12 ?_
     refine g_no rfl rfl rfl rfl rfl h12 ?_
     refine g_no rfl rfl rfl rfl rfl h12 ?_
     refine g_no rfl rfl rfl rfl rfl h12 ?_
     refine g_v rfl (r_pick1 rfl h12) ?_
     refine g_nil ?_
     refine d_then ?_
     refine c_flat [(2, .pointer (some ⟨g1, 0, none⟩)), (3, .pointer (some ⟨g2, 0, none⟩)), (41, .bool true)] ⟨rfl, rfl, rfl, trivial⟩ (fun u => ?_)
     refine c_sta ⟨w0, M, (100030, g2, .cells #[.string p1.fName, .int .u16 p1.fType, .int .u16 p1.fClass, .int .u32 p1.fTTL, .string p1.fData] 27 (0, 0)) :: (100020, g1, .cells #[.string p0.fName, .int .u16 p0.fType, .int .u16 p0.fClass, .int .u32 p0.fTTL, .string p0.fData] 27 (0, 0)) :: H, R, φ⟩ (fun _ h => h) ?_
     refine c_cond1 rfl rfl ?_
     refine c_seq ?_
     refine c_region ?_
     refine g_v rfl r_assign ?_
     refine g_nil ?_
     refine d_then ?_
     refine c_ret ?_
     refine d_ret_then ?_
     replace hm := Option.some.inj hm
     subst hm
     refine d_retC () Try.results34 ?_ trivial (fun W h => ok_pre (H1 := [_, _]) (R1 := []) h (fun W hφ => hφ)) (.inr rfl)
     refine res_tmp ?_
     refine res_nil ?_
     exact rfl
   ·
    have h11' : x9 = false := by revert h11; cases x9 <;> simp
    replace hm := ite_f hm (bool_nt h11')
    refine g_no rfl rfl rfl rfl rfl h11 ?_
    refine g_no rfl rfl rfl rfl rfl h11 ?_
    refine g_no rfl rfl rfl rfl rfl h11 ?_
    refine g_no rfl rfl rfl rfl rfl h11 ?_
    refine g_v rfl (r_pick1 rfl h11) ?_
    refine g_v rfl r_move ?_
    refine g_no rfl rfl rfl rfl rfl rfl ?_
    refine g_no rfl rfl rfl rfl rfl rfl ?_
    refine g_no rfl rfl rfl rfl rfl rfl ?_
    refine g_no rfl rfl rfl rfl rfl rfl ?_
    refine g_no rfl rfl rfl rfl rfl rfl ?_
    refine g_v rfl (r_pick1 rfl rfl) ?_
    refine g_nil ?_
    refine d_then ?_
    refine c_flat [(2, .pointer (some ⟨g1, 0, none⟩)), (3, .pointer (some ⟨g2, 0, none⟩)), (41, .bool true)] ⟨rfl, rfl, rfl, trivial⟩ (fun u => ?_)
    refine c_sta ⟨w0, M, (100030, g2, .cells #[.string p1.fName, .int .u16 p1.fType, .int .u16 p1.fClass, .int .u32 p1.fTTL, .string p1.fData] 27 (0, 0)) :: (100020, g1, .cells #[.string p0.fName, .int .u16 p0.fType, .int .u16 p0.fClass, .int .u32 p0.fTTL, .string p0.fData] 27 (0, 0)) :: H, R, φ⟩ (fun _ h => h) ?_
    refine c_cond1 rfl rfl ?_
    refine c_seq ?_
    refine c_region ?_
    refine g_v rfl r_assign ?_
    refine g_nil ?_
    refine d_then ?_
    refine c_ret ?_
    refine d_ret_then ?_
    replace hm := Option.some.inj hm
    subst hm
    refine d_retC () Try.results34 ?_ trivial (fun W h => ok_pre (H1 := [_, _]) (R1 := []) h (fun W hφ => hφ)) (.inr rfl)
    refine res_tmp ?_
    refine res_nil ?_
    exact rfl
  ·
   replace hm := ite_t hm (of_decide_eq_true h8)
   refine g_no rfl rfl rfl rfl rfl h8 ?_
   refine g_no rfl rfl rfl rfl rfl h8 ?_
   refine g_no rfl rfl rfl rfl rfl h8 ?_
   refine g_no rfl rfl rfl rfl rfl h8 ?_
   refine g_no rfl rfl rfl rfl rfl h8 ?_
   refine g_v rfl (r_pick1 rfl h8) ?_
   refine g_v rfl r_move ?_
   refine g_no rfl rfl rfl rfl rfl rfl ?_
   refine g_no rfl rfl rfl rfl rfl rfl ?_
   refine g_no rfl rfl rfl rfl rfl rfl ?_
   refine g_no rfl rfl rfl rfl rfl rfl ?_
   refine g_no rfl rfl rfl rfl rfl rfl ?_
   refine g_v rfl (r_pick1 rfl rfl) ?_
   refine g_v rfl r_move ?_
   refine g_no rfl rfl rfl rfl rfl rfl ?_
   refine g_no rfl rfl rfl rfl rfl rfl ?_
   refine g_no rfl rfl rfl rfl rfl rfl ?_
   refine g_no rfl rfl rfl rfl rfl rfl ?_
   refine g_no rfl rfl rfl rfl rfl rfl ?_
   refine g_v rfl (r_pick1 rfl rfl) ?_
   refine g_nil ?_
   refine d_then ?_
   refine c_flat [(2, .pointer (some ⟨g1, 0, none⟩)), (3, .pointer (some ⟨g2, 0, none⟩)), (41, .bool true)] ⟨rfl, rfl, rfl, trivial⟩ (fun u => ?_)
   refine c_sta ⟨w0, M, (100030, g2, .cells #[.string p1.fName, .int .u16 p1.fType, .int .u16 p1.fClass, .int .u32 p1.fTTL, .string p1.fData] 27 (0, 0)) :: (100020, g1, .cells #[.string p0.fName, .int .u16 p0.fType, .int .u16 p0.fClass, .int .u32 p0.fTTL, .string p0.fData] 27 (0, 0)) :: H, R, φ⟩ (fun _ h => h) ?_
   refine c_cond1 rfl rfl ?_
   refine c_seq ?_
   refine c_region ?_
   refine g_v rfl r_assign ?_
   refine g_nil ?_
   refine d_then ?_
   refine c_ret ?_
   refine d_ret_then ?_
   replace hm := Option.some.inj hm
   subst hm
   refine d_retC () Try.results34 ?_ trivial (fun W h => ok_pre (H1 := [_, _]) (R1 := []) h (fun W hφ => hφ)) (.inr rfl)
   refine res_tmp ?_
   refine res_nil ?_
   exact rfl
 ·
  replace hm := ite_t hm (of_decide_eq_true h5)
  refine g_no rfl rfl rfl rfl rfl h5 ?_
  refine g_no rfl rfl rfl rfl rfl h5 ?_
  refine g_v rfl (r_pick1 rfl h5) ?_
  refine g_v rfl r_move ?_
  refine g_no rfl rfl rfl rfl rfl rfl ?_
  refine g_no rfl rfl rfl rfl rfl rfl ?_
  refine g_no rfl rfl rfl rfl rfl rfl ?_
  refine g_no rfl rfl rfl rfl rfl rfl ?_
  refine g_no rfl rfl rfl rfl rfl rfl ?_
  refine g_no rfl rfl rfl rfl rfl rfl ?_
  refine g_v rfl (r_pick1 rfl rfl) ?_
  refine g_v rfl r_move ?_
  refine g_no rfl rfl rfl rfl rfl rfl ?_
  refine g_no rfl rfl rfl rfl rfl rfl ?_
  refine g_no rfl rfl rfl rfl rfl rfl ?_
  refine g_no rfl rfl rfl rfl rfl rfl ?_
  refine g_no rfl rfl rfl rfl rfl rfl ?_
  refine g_v rfl (r_pick1 rfl rfl) ?_
  refine g_v rfl r_move ?_
  refine g_no rfl rfl rfl rfl rfl rfl ?_
  refine g_no rfl rfl rfl rfl rfl rfl ?_
  refine g_no rfl rfl rfl rfl rfl rfl ?_
  refine g_no rfl rfl rfl rfl rfl rfl ?_
  refine g_no rfl rfl rfl rfl rfl rfl ?_
  refine g_v rfl (r_pick1 rfl rfl) ?_
  refine g_nil ?_
  refine d_then ?_
  refine c_flat [(2, .pointer (some ⟨g1, 0, none⟩)), (3, .pointer (some ⟨g2, 0, none⟩)), (41, .bool true)] ⟨rfl, rfl, rfl, trivial⟩ (fun u => ?_)
  refine c_sta ⟨w0, M, (100030, g2, .cells #[.string p1.fName, .int .u16 p1.fType, .int .u16 p1.fClass, .int .u32 p1.fTTL, .string p1.fData] 27 (0, 0)) :: (100020, g1, .cells #[.string p0.fName, .int .u16 p0.fType, .int .u16 p0.fClass, .int .u32 p0.fTTL, .string p0.fData] 27 (0, 0)) :: H, R, φ⟩ (fun _ h => h) ?_
  refine c_cond1 rfl rfl ?_
  refine c_seq ?_
  refine c_region ?_
  refine g_v rfl r_assign ?_
  refine g_nil ?_
  refine d_then ?_
  refine c_ret ?_
  refine d_ret_then ?_
  replace hm := Option.some.inj hm
  subst hm
  refine d_retC () Try.results34 ?_ trivial (fun W h => ok_pre (H1 := [_, _]) (R1 := []) h (fun W hφ => hφ)) (.inr rfl)
  refine res_tmp ?_
  refine res_nil ?_
  exact rfl

noncomputable def m_ref03_row_j1 (p0 : ByteArray) (l82 : List ByteArray) (i85 : Int) : Option ((List ByteArray) × Bool) :=
  some (l82, decide (i85 = w64 ((p0.size : Int) - 1)))
noncomputable def m_ref03_row_s2 (p0 : ByteArray) (l101 : List ByteArray) (i104 : Int) : Option (((List ByteArray) × Int) ⊕ (((List ByteArray) × Int) ⊕ ((List ByteArray) × Bool))) :=
  if i104 < (p0.size : Int) then
    (sat_ p0 i104).bind fun b122 =>
    if b122 ≠ 0 then
      (sat_ p0 i104).bind fun b124 =>
      if 63 < w64 b124 then
        some (.inr (.inr (([] : List ByteArray), false)))
      else
        if (p0.size : Int) < w64 ((w64 (i104 + 1)) + (w64 b124)) then
          some (.inr (.inr (([] : List ByteArray), false)))
        else
          (scutMid p0 (w64 (i104 + 1)) (w64 ((w64 (i104 + 1)) + (w64 b124)))).bind fun s127 =>
          (app 16 l101 [s127]).bind fun l129 =>
          some (.inl (l129, w64 ((w64 (i104 + 1)) + (w64 b124))))
    else
      some (.inr (.inl (l101, i104)))
  else
    some (.inr (.inl (l101, i104)))
noncomputable def m_ref03_row (p0 : ByteArray) : Option ((List ByteArray) × Bool) :=
  (loop (fun s => m_ref03_row_s2 p0 s.1 s.2) (([] : List ByteArray), 0)).bind fun e => Sum.elim (fun e => m_ref03_row_j1 p0 e.1 e.2) (fun x => some x) e
theorem c_ref03_row {w0 : World} {M : Nat → Prop} {H : List (Nat × Nat × Obj)} {R : List (Nat × Row)} {φ : World → Prop} (p0 : ByteArray) (r : (List ByteArray) × Bool) (hm : m_ref03_row p0 = some r) :
    Cn Try.prog 106 #[.string p0] ⟨w0, M, H, R, φ⟩ (fun x : Option Addr × Nat => .tuple #[.slice x.1 r.1.length x.2, .bool r.2]) (fun x => r.1.length ≤ x.2) (fun x => ⟨w0, M, H, (2000, ⟨.slice x.1 r.1.length x.2, 9, 1, r.1.length, r.1.flatMap (fun x : ByteArray => [Value.string x])⟩) :: R, φ⟩) := by
 unfold m_ref03_row at hm
 refine cn_intro (fn := Try.f106) (N := 53) Try.func106 rfl Try.ntmps106 rfl ?_
 refine c_seq ?_
 refine c_region ?_
 refine g_v rfl r_assign ?_
 refine g_v rfl r_assign ?_
 refine g_nil ?_
 refine d_then ?_
 refine c_seq ?_
 refine c_region ?_
 refine g_v rfl r_assign ?_
 refine g_nil ?_
 refine d_then ?_
 refine c_seq ?_
 refine c_region ?_
 refine g_v rfl r_assign ?_
 refine g_nil ?_
 refine d_then ?_
 refine c_seq ?_
 refine c_sta _ (fun W h => nilR h 19 9 1) ?_
 refine c_cut (ι := (List ByteArray) × Int × Option Addr × Nat) [0, 4, 5] (fun ⟨l82, i85, A83, c84⟩ => [(4, .slice A83 l82.length c84), (5, .int .i64 i85)]) (fun ⟨l82, i85, A83, c84⟩ => ⟨w0, M, H, (19, ⟨.slice A83 l82.length c84, 9, 1, l82.length, l82.flatMap (fun x : ByteArray => [Value.string x])⟩) :: R, φ⟩) (fun ⟨l82, i85, A83, c84⟩ => m_ref03_row_j1 p0 l82 i85 = some r ∧ l82.length ≤ c84) ?_ (fun ⟨l82, i85, A83, c84⟩ u ⟨hm, hc84⟩ => ?_)
 ·
  refine c_block ?_
  replace hm := bnd hm
  obtain ⟨out2, hl2, hr2⟩ := hm
  obtain ⟨n120', hl2⟩ := loop_lp hl2
  refine c_loopU (ι := Nat × (List ByteArray) × Int × Option Addr × Nat) [0, 4, 5] (fun ⟨n120, l101, i104, A102, c103⟩ => [(4, .slice A102 l101.length c103), (5, .int .i64 i104)]) (fun ⟨n120, l101, i104, A102, c103⟩ => ⟨w0, M, H, (19, ⟨.slice A102 l101.length c103, 9, 1, l101.length, l101.flatMap (fun x : ByteArray => [Value.string x])⟩) :: R, φ⟩) (fun ⟨n120, l101, i104, A102, c103⟩ => Lp (fun s => m_ref03_row_s2 p0 s.1 s.2) n120 (l101, i104) out2 ∧ l101.length ≤ c103) (fun ⟨n120, l101, i104, A102, c103⟩ => n120) (n120', ([] : List ByteArray), 0, none, 0) ⟨hl2, (Nat.le_refl 0)⟩ ⟨rfl, rfl, rfl, trivial⟩ (fun W h => h.phi (fun W hφ => hφ)) (fun ⟨n120, l101, i104, A102, c103⟩ u ⟨hlp, hc103⟩ => ?_)
  obtain ⟨o2, hm, hnx2⟩ := lp_step hlp
  clear hlp
  replace hm : m_ref03_row_s2 p0 l101 i104 = some o2 := hm
  unfold m_ref03_row_s2 at hm
  refine c_flat [(0, .string p0), (4, .slice A102 l101.length c103), (5, .int .i64 i104)] ⟨rfl, rfl, rfl, trivial⟩ (fun u => ?_)
  refine c_sta ⟨w0, M, H, (19, ⟨.slice A102 l101.length c103, 9, 1, l101.length, l101.flatMap (fun x : ByteArray => [Value.string x])⟩) :: R, φ⟩ (fun _ h => h) ?_
  refine c_seq ?_
  refine c_seq ?_
  refine c_region ?_
  refine g_v rfl r_move ?_
  refine g_v rfl r_move ?_
  refine g_v rfl (r_len Try.underlying9 rfl) ?_
  refine g_v rfl (r_lss rfl rfl) ?_
  refine g_v rfl r_move ?_
  refine g_if rfl rfl rfl rfl rfl (fun h121 => ?_) (fun h121 => ?_)
  ·
   replace hm := ite_t hm (of_decide_eq_true h121)
   refine g_v rfl r_move ?_
   refine g_do rfl rfl rfl rfl rfl h121 ?_
   refine g_v rfl r_move ?_
   refine g_do rfl rfl rfl rfl rfl h121 ?_
   replace hm := bnd hm
   obtain ⟨b122, hb122, hm⟩ := hm
   refine g_v rfl (r_sat Try.underlying9 rfl rfl hb122) ?_
   refine g_do rfl rfl rfl rfl rfl h121 ?_
   refine g_v rfl (r_neq rfl rfl) ?_
   refine g_v rfl (r_pick1 rfl h121) ?_
   refine g_nil ?_
   refine d_then ?_
   refine c_flat [(0, .string p0), (4, .slice A102 l101.length c103), (5, .int .i64 i104), (16, .bool (decide (b122 ≠ 0)))] ⟨rfl, rfl, rfl, rfl, trivial⟩ (fun u => ?_)
   refine c_sta ⟨w0, M, H, (19, ⟨.slice A102 l101.length c103, 9, 1, l101.length, l101.flatMap (fun x : ByteArray => [Value.string x])⟩) :: R, φ⟩ (fun _ h => h) ?_
   refine c_cond rfl (fun h123 => ?_) (fun h123 => ?_)
   ·
    replace hm := ite_t hm (of_decide_eq_true h123)
    refine c_skip ?_
    refine d_then ?_
    refine c_block ?_
    refine c_seq ?_
    refine c_region ?_
    refine g_v rfl r_move ?_
    refine g_v rfl r_move ?_
    replace hm := bnd hm
    obtain ⟨b124, hb124, hm⟩ := hm
    refine g_v rfl (r_sat Try.underlying9 rfl rfl hb124) ?_
    refine g_v rfl (r_conv Try.underlying5 Try.underlying3 rfl rfl) ?_
    refine g_v rfl r_assign ?_
    refine g_nil ?_
    refine d_then ?_
    refine c_seq ?_
    refine c_seq ?_
    refine c_region ?_
    refine g_v rfl r_move ?_
    refine g_v rfl (r_gtr rfl rfl) ?_
    refine g_v rfl r_move ?_
    refine g_if rfl rfl rfl rfl rfl (fun h125 => ?_) (fun h125 => ?_)
    ·
     replace hm := ite_f hm (of_decide_eq_false h125)
     refine g_v rfl r_move ?_
     refine g_do rfl rfl rfl rfl rfl h125 ?_
     refine g_v rfl (r_add rfl rfl rfl) ?_
     refine g_do rfl rfl rfl rfl rfl h125 ?_
     refine g_v rfl r_move ?_
     refine g_do rfl rfl rfl rfl rfl h125 ?_
     refine g_v rfl (r_add rfl rfl rfl) ?_
     refine g_do rfl rfl rfl rfl rfl h125 ?_
     refine g_v rfl r_move ?_
     refine g_do rfl rfl rfl rfl rfl h125 ?_
     refine g_v rfl (r_len Try.underlying9 rfl) ?_
     refine g_do rfl rfl rfl rfl rfl h125 ?_
     refine g_v rfl (r_gtr rfl rfl) ?_
     refine g_v rfl (r_pick0 rfl h125) ?_
     refine g_nil ?_
     refine d_then ?_
     refine c_flat [(0, .string p0), (4, .slice A102 l101.length c103), (5, .int .i64 i104), (6, .int .i64 (w64 b124)), (31, .bool (decide ((p0.size : Int) < w64 ((w64 (i104 + 1)) + (w64 b124)))))] ⟨rfl, rfl, rfl, rfl, rfl, trivial⟩ (fun u => ?_)
     refine c_sta ⟨w0, M, H, (19, ⟨.slice A102 l101.length c103, 9, 1, l101.length, l101.flatMap (fun x : ByteArray => [Value.string x])⟩) :: R, φ⟩ (fun _ h => h) ?_
     refine c_cond rfl (fun h126 => ?_) (fun h126 => ?_)
     ·
      replace hm := ite_t hm (of_decide_eq_true h126)
      refine c_seq ?_
      refine c_region ?_
      refine g_v rfl r_assign ?_
      refine g_v rfl r_assign ?_
      refine g_nil ?_
      refine d_then ?_
      refine c_ret ?_
      refine d_ret_then ?_
      refine d_ret_block ?_
      refine d_ret_then ?_
      refine d_ret_block ?_
      refine d_ret_then ?_
      refine d_ret_then ?_
      replace hm := nx_out (C := (fun e => Sum.elim (fun e => m_ref03_row_j1 p0 e.1 e.2) (fun x => some x) e = some r)) hm hnx2 hr2
      replace hm : some (([] : List ByteArray), false) = some r := hm
      replace hm := Option.some.inj hm
      subst hm
      refine d_sta _ (fun W h => nilR h 28 9 1) ?_
      refine d_sta _ (fun W h => ok_frontR (t := 28) (t' := 2000) h rfl) ?_
      refine d_retC (none, 0) Try.results106 ?_ (Nat.le_refl 0) (fun W h => (h.dropR (t := 19) rfl).phi (fun W hφ => hφ)) (.inr rfl)
      refine res_tmp ?_
      refine res_tmp ?_
      refine res_nil ?_
      exact rfl
     ·
      replace hm := ite_f hm (of_decide_eq_false h126)
      refine c_skip ?_
      refine d_then ?_
      refine c_seq ?_
      refine c_region ?_
      refine g_v rfl r_move ?_
      refine g_v rfl r_move ?_
      refine g_v rfl r_move ?_
      refine g_v rfl (r_add rfl rfl rfl) ?_
      refine g_v rfl r_move ?_
      refine g_v rfl (r_add rfl rfl rfl) ?_
      refine g_v rfl r_move ?_
      refine g_v rfl (r_add rfl rfl rfl) ?_
      replace hm := bnd hm
      obtain ⟨s127, hs127, hm⟩ := hm
      refine g_v rfl (r_scutMid Try.underlying9 rfl rfl rfl hs127) ?_
      refine g_e rfl (e_lit (tag := 100410) (l := [s127]) (enc := (fun x : ByteArray => [Value.string x])) (sz := 1) rfl Try.underlying105 (lit9_2 _) rfl rfl (fun _ => rfl)) (fun g128 _ => ?_)
      replace hm := bnd hm
      obtain ⟨l129, hl129, hm⟩ := hm
      refine g_e rfl (e_appR (enc := (fun x : ByteArray => [Value.string x])) (l := l101) (l1 := [s127]) (l2 := l129) (tag := 19) Try.underlying105 inf9_3 rfl (by decide) (by decide) (fun _ => rfl) (fun _ => rfl) rfl hc103 rfl rfl (fun W hS => rowCl (tag := 100410) rfl W hS) hl129) (fun ⟨A130, c131⟩ hc131 => ?_)
      refine g_v rfl r_assign ?_
      refine g_nil ?_
      refine d_then ?_
      refine c_flat [(0, .string p0), (4, .slice A130 l129.length c131), (5, .int .i64 i104), (6, .int .i64 (w64 b124))] ⟨rfl, rfl, rfl, rfl, trivial⟩ (fun u => ?_)
      refine c_sta ⟨w0, M, H, (100410, ⟨.slice (some ⟨g128, 0, none⟩) [s127].length 1, 9, 1, [s127].length, [s127].flatMap (fun x : ByteArray => [Value.string x])⟩) :: (19, ⟨.slice A130 l129.length c131, 9, 1, l129.length, l129.flatMap (fun x : ByteArray => [Value.string x])⟩) :: R, φ⟩ (fun _ h => h) ?_
      refine c_region ?_
      refine g_v rfl r_move ?_
      refine g_v rfl (r_add rfl rfl rfl) ?_
      refine g_v rfl r_move ?_
      refine g_v rfl (r_add rfl rfl rfl) ?_
      refine g_v rfl r_assign ?_
      refine g_nil ?_
      refine d_normal_block ?_
      obtain ⟨n132, hn132, hlp⟩ := nx_inl hm hnx2
      exact d_round (n132, l129, w64 ((w64 (i104 + 1)) + (w64 b124)), A130, c131) ⟨hlp, hc131⟩ hn132 ⟨rfl, rfl, rfl, trivial⟩ (fun W h => (h.dropR (t := 100410) rfl).phi (fun W hφ => hφ))
    ·
     replace hm := ite_t hm (of_decide_eq_true h125)
     refine g_no rfl rfl rfl rfl rfl h125 ?_
     refine g_no rfl rfl rfl rfl rfl h125 ?_
     refine g_no rfl rfl rfl rfl rfl h125 ?_
     refine g_no rfl rfl rfl rfl rfl h125 ?_
     refine g_no rfl rfl rfl rfl rfl h125 ?_
     refine g_no rfl rfl rfl rfl rfl h125 ?_
     refine g_v rfl (r_pick1 rfl h125) ?_
     refine g_nil ?_
     refine d_then ?_
     refine c_flat [(0, .string p0), (4, .slice A102 l101.length c103), (5, .int .i64 i104), (6, .int .i64 (w64 b124)), (31, .bool true)] ⟨rfl, rfl, rfl, rfl, rfl, trivial⟩ (fun u => ?_)
     refine c_sta ⟨w0, M, H, (19, ⟨.slice A102 l101.length c103, 9, 1, l101.length, l101.flatMap (fun x : ByteArray => [Value.string x])⟩) :: R, φ⟩ (fun _ h => h) ?_
     refine c_cond1 rfl rfl ?_
     refine c_seq ?_
     refine c_region ?_
     refine g_v rfl r_assign ?_
     refine g_v rfl r_assign ?_
     refine g_nil ?_
     refine d_then ?_
     refine c_ret ?_
     refine d_ret_then ?_
     refine d_ret_block ?_
     refine d_ret_then ?_
     refine d_ret_block ?_
     refine d_ret_then ?_
     refine d_ret_then ?_
     replace hm := nx_out (C := (fun e => Sum.elim (fun e => m_ref03_row_j1 p0 e.1 e.2) (fun x => some x) e = some r)) hm hnx2 hr2
     replace hm : some (([] : List ByteArray), false) = some r := hm
     replace hm := Option.some.inj hm
     subst hm
     refine d_sta _ (fun W h => nilR h 29 9 1) ?_
     refine d_sta _ (fun W h => ok_frontR (t := 29) (t' := 2000) h rfl) ?_
     refine d_retC (none, 0) Try.results106 ?_ (Nat.le_refl 0) (fun W h => (h.dropR (t := 19) rfl).phi (fun W hφ => hφ)) (.inr rfl)
     refine res_tmp ?_
     refine res_tmp ?_
     refine res_nil ?_
     exact rfl
   ·
    replace hm := ite_f hm (of_decide_eq_false h123)
    refine c_exit ?_
    refine d_exit_then ?_
    refine d_exit_then ?_
    refine d_exit_block ?_
    replace hm := nx_out (C := (fun e => Sum.elim (fun e => m_ref03_row_j1 p0 e.1 e.2) (fun x => some x) e = some r)) hm hnx2 hr2
    exact d_round (l101, i104, A102, c103) ⟨hm, hc103⟩ Nat.zero_lt_one ⟨rfl, rfl, rfl, trivial⟩ (fun W h => h.phi (fun W hφ => hφ))
  ·
   replace hm := ite_f hm (of_decide_eq_false h121)
   refine g_no rfl rfl rfl rfl rfl h121 ?_
   refine g_no rfl rfl rfl rfl rfl h121 ?_
   refine g_no rfl rfl rfl rfl rfl h121 ?_
   refine g_v rfl (r_pick0 rfl h121) ?_
   refine g_nil ?_
   refine d_then ?_
   refine c_cond0 rfl rfl ?_
   refine c_exit ?_
   refine d_exit_then ?_
   refine d_exit_then ?_
   refine d_exit_block ?_
   replace hm := nx_out (C := (fun e => Sum.elim (fun e => m_ref03_row_j1 p0 e.1 e.2) (fun x => some x) e = some r)) hm hnx2 hr2
   exact d_round (l101, i104, A102, c103) ⟨hm, hc103⟩ Nat.zero_lt_one ⟨rfl, rfl, rfl, trivial⟩ (fun W h => h.phi (fun W hφ => hφ))
 ·
  unfold m_ref03_row_j1 at hm
  refine d_flat [(0, .string p0), (4, .slice A83 l82.length c84), (5, .int .i64 i85)] ⟨rfl, rfl, rfl, trivial⟩ (fun u => ?_)
  refine d_sta ⟨w0, M, H, (19, ⟨.slice A83 l82.length c84, 9, 1, l82.length, l82.flatMap (fun x : ByteArray => [Value.string x])⟩) :: R, φ⟩ (fun _ h => h) ?_
  refine d_then ?_
  refine c_seq ?_
  refine c_region ?_
  refine g_v rfl r_move ?_
  refine g_v rfl r_move ?_
  refine g_v rfl r_move ?_
  refine g_v rfl (r_len Try.underlying9 rfl) ?_
  refine g_v rfl (r_sub rfl rfl rfl) ?_
  refine g_v rfl (r_eql rfl rfl) ?_
  refine g_v rfl r_assign ?_
  refine g_v rfl r_assign ?_
  refine g_nil ?_
  refine d_then ?_
  refine c_ret ?_
  replace hm := Option.some.inj hm
  subst hm
  refine d_sta _ (fun W h => ok_frontR (t := 19) (t' := 2000) h rfl) ?_
  refine d_retC (A83, c84) Try.results106 ?_ hc84 (fun W h => h.phi (fun W hφ => hφ)) (.inr rfl)
  refine res_tmp ?_
  refine res_tmp ?_
  refine res_nil ?_
  exact rfl

noncomputable def m_ref03_Check (p0 : ByteArray) : Option Int :=
  (m_ref03_row p0).bind fun (z7 : (List ByteArray) × Bool) =>
  if z7.2 = true then
    if 255 < (p0.size : Int) then
      some 11
    else
      some 0
  else
    some 10
theorem c_ref03_Check {w0 : World} {M : Nat → Prop} {H : List (Nat × Nat × Obj)} {R : List (Nat × Row)} {φ : World → Prop} (p0 : ByteArray) (r : Int) (hm : m_ref03_Check p0 = some r) :
    Cn Try.prog 81 #[.string p0] ⟨w0, M, H, R, φ⟩ (fun x : Unit => .int .i64 r) (fun x => True) (fun x => ⟨w0, M, H, R, φ⟩) := by
 unfold m_ref03_Check at hm
 refine cn_intro (fn := Try.f81) (N := 15) Try.func81 rfl Try.ntmps81 rfl ?_
 refine c_seq ?_
 refine c_region ?_
 refine g_v rfl r_assign ?_
 refine g_nil ?_
 refine d_then ?_
 refine c_seq ?_
 refine c_region ?_
 refine g_v rfl r_move ?_
 replace hm := bnd hm
 obtain ⟨⟨x1, x2⟩, hx3, hm⟩ := hm
 refine g_cn ⟨w0, M, _, _, φ⟩ (fun _ h => h) Try.call106 rfl rfl (c_ref03_row p0 _ hx3) (fun ⟨A4, c5⟩ hc5 => ?_)
 refine g_sta _ (fun W h => (ok_frontR (t := 2000) (t' := 100070) h rfl)) ?_
 refine g_v rfl r_move ?_
 refine g_v rfl (r_extract rfl rfl) ?_
 refine g_v rfl (r_extract rfl rfl) ?_
 refine g_v rfl r_assign ?_
 refine g_v rfl r_assign ?_
 refine g_nil ?_
 refine d_then ?_
 refine c_seq ?_
 refine c_seq ?_
 refine c_region ?_
 refine g_v rfl r_move ?_
 refine g_v rfl (r_not rfl) ?_
 refine g_nil ?_
 refine d_then ?_
 refine c_flat [(0, .string p0), (11, .bool (!x2))] ⟨rfl, rfl, trivial⟩ (fun u => ?_)
 refine c_sta ⟨w0, M, H, (100070, ⟨.slice A4 x1.length c5, 9, 1, x1.length, x1.flatMap (fun x : ByteArray => [Value.string x])⟩) :: R, φ⟩ (fun _ h => h) ?_
 refine c_cond rfl (fun h8 => ?_) (fun h8 => ?_)
 ·
  have h8' : x2 = false := by revert h8; cases x2 <;> simp
  replace hm := ite_f hm (bool_nt h8')
  refine c_seq ?_
  refine c_region ?_
  refine g_v rfl r_assign ?_
  refine g_nil ?_
  refine d_then ?_
  refine c_ret ?_
  refine d_ret_then ?_
  replace hm := Option.some.inj hm
  subst hm
  refine d_retC () Try.results81 ?_ trivial (fun W h => ok_pre (H1 := []) (R1 := [_]) h (fun W hφ => hφ)) (.inr rfl)
  refine res_tmp ?_
  refine res_nil ?_
  exact rfl
 ·
  have h8' : x2 = true := by revert h8; cases x2 <;> simp
  replace hm := ite_t hm h8'
  refine c_skip ?_
  refine d_then ?_
  refine c_seq ?_
  refine c_seq ?_
  refine c_region ?_
  refine g_v rfl r_move ?_
  refine g_v rfl (r_len Try.underlying9 rfl) ?_
  refine g_v rfl (r_gtr rfl rfl) ?_
  refine g_nil ?_
  refine d_then ?_
  refine c_cond rfl (fun h9 => ?_) (fun h9 => ?_)
  ·
   replace hm := ite_t hm (of_decide_eq_true h9)
   refine c_seq ?_
   refine c_region ?_
   refine g_v rfl r_assign ?_
   refine g_nil ?_
   refine d_then ?_
   refine c_ret ?_
   refine d_ret_then ?_
   replace hm := Option.some.inj hm
   subst hm
   refine d_retC () Try.results81 ?_ trivial (fun W h => ok_pre (H1 := []) (R1 := [_]) h (fun W hφ => hφ)) (.inr rfl)
   refine res_tmp ?_
   refine res_nil ?_
   exact rfl
  ·
   replace hm := ite_f hm (of_decide_eq_false h9)
   refine c_skip ?_
   refine d_then ?_
   refine c_seq ?_
   refine c_region ?_
   refine g_v rfl r_assign ?_
   refine g_nil ?_
   refine d_then ?_
   refine c_ret ?_
   replace hm := Option.some.inj hm
   subst hm
   refine d_retC () Try.results81 ?_ trivial (fun W h => ok_pre (H1 := []) (R1 := [_]) h (fun W hφ => hφ)) (.inr rfl)
   refine res_tmp ?_
   refine res_nil ?_
   exact rfl

noncomputable def m_ref03_Labels (p0 : ByteArray) : Option ((List ByteArray) × Int) :=
  (m_ref03_Check p0).bind fun x1 =>
  if x1 ≠ 0 then
    some (([] : List ByteArray), x1)
  else
    (m_ref03_row p0).bind fun (z10 : (List ByteArray) × Bool) =>
    some (z10.1, 0)
theorem c_ref03_Labels {w0 : World} {M : Nat → Prop} {H : List (Nat × Nat × Obj)} {R : List (Nat × Row)} {φ : World → Prop} (p0 : ByteArray) (r : (List ByteArray) × Int) (hm : m_ref03_Labels p0 = some r) :
    Cn Try.prog 102 #[.string p0] ⟨w0, M, H, R, φ⟩ (fun x : Option Addr × Nat => .tuple #[.slice x.1 r.1.length x.2, .int .i64 r.2]) (fun x => r.1.length ≤ x.2) (fun x => ⟨w0, M, H, (2000, ⟨.slice x.1 r.1.length x.2, 9, 1, r.1.length, r.1.flatMap (fun x : ByteArray => [Value.string x])⟩) :: R, φ⟩) := by
 unfold m_ref03_Labels at hm
 refine cn_intro (fn := Try.f102) (N := 18) Try.func102 rfl Try.ntmps102 rfl ?_
 refine c_seq ?_
 refine c_region ?_
 refine g_v rfl r_assign ?_
 refine g_v rfl r_assign ?_
 refine g_nil ?_
 refine d_then ?_
 refine c_seq ?_
 refine c_region ?_
 refine g_v rfl r_move ?_
 replace hm := bnd hm
 obtain ⟨x1, hx2, hm⟩ := hm
 refine g_cn ⟨w0, M, _, _, φ⟩ (fun _ h => h) Try.call81 rfl rfl (c_ref03_Check p0 _ hx2) (fun _ _ => ?_)
 refine g_v rfl r_assign ?_
 refine g_nil ?_
 refine d_then ?_
 refine c_seq ?_
 refine c_seq ?_
 refine c_region ?_
 refine g_v rfl r_move ?_
 refine g_v rfl (r_neq rfl rfl) ?_
 refine g_nil ?_
 refine d_then ?_
 refine c_cond rfl (fun h3 => ?_) (fun h3 => ?_)
 ·
  replace hm := ite_t hm (of_decide_eq_true h3)
  refine c_seq ?_
  refine c_region ?_
  refine g_v rfl r_move ?_
  refine g_v rfl r_assign ?_
  refine g_v rfl r_assign ?_
  refine g_nil ?_
  refine d_then ?_
  refine c_flat [(2, .slice none 0 0), (3, .int .i64 x1)] ⟨rfl, rfl, trivial⟩ (fun u => ?_)
  refine c_sta ⟨w0, M, H, R, φ⟩ (fun _ h => h) ?_
  refine c_ret ?_
  refine d_ret_then ?_
  replace hm := Option.some.inj hm
  subst hm
  refine d_sta _ (fun W h => nilR h 11 9 1) ?_
  refine d_sta _ (fun W h => ok_frontR (t := 11) (t' := 2000) h rfl) ?_
  refine d_retC (none, 0) Try.results102 ?_ (Nat.le_refl 0) (fun W h => h.phi (fun W hφ => hφ)) (.inr rfl)
  refine res_tmp ?_
  refine res_tmp ?_
  refine res_nil ?_
  exact rfl
 ·
  replace hm := ite_f hm (of_decide_eq_false h3)
  refine c_skip ?_
  refine d_then ?_
  refine c_seq ?_
  refine c_region ?_
  refine g_v rfl r_move ?_
  replace hm := bnd hm
  obtain ⟨⟨x4, x5⟩, hx6, hm⟩ := hm
  refine g_cn ⟨w0, M, _, _, φ⟩ (fun _ h => h) Try.call106 rfl rfl (c_ref03_row p0 _ hx6) (fun ⟨A7, c8⟩ hc8 => ?_)
  refine g_sta _ (fun W h => (ok_frontR (t := 2000) (t' := 100140) h rfl)) ?_
  refine g_v rfl r_move ?_
  refine g_v rfl (r_extract rfl rfl) ?_
  refine g_v rfl (r_extract rfl rfl) ?_
  refine g_v rfl r_assign ?_
  refine g_v rfl r_assign ?_
  refine g_nil ?_
  refine d_then ?_
  refine c_flat [(5, .slice A7 x4.length c8)] ⟨rfl, trivial⟩ (fun u => ?_)
  refine c_sta ⟨w0, M, H, (100140, ⟨.slice A7 x4.length c8, 9, 1, x4.length, x4.flatMap (fun x : ByteArray => [Value.string x])⟩) :: R, φ⟩ (fun _ h => h) ?_
  refine c_seq ?_
  refine c_region ?_
  refine g_v rfl r_move ?_
  refine g_v rfl r_assign ?_
  refine g_v rfl r_assign ?_
  refine g_nil ?_
  refine d_then ?_
  refine c_ret ?_
  replace hm := Option.some.inj hm
  subst hm
  refine d_sta _ (fun W h => ok_frontR (t := 100140) (t' := 2000) h rfl) ?_
  refine d_retC (A7, c8) Try.results102 ?_ hc8 (fun W h => h.phi (fun W hφ => hφ)) (.inr rfl)
  refine res_tmp ?_
  refine res_tmp ?_
  refine res_nil ?_
  exact rfl

noncomputable def m_ref03_Lower_j1  (l55 : List Int) : Option ByteArray :=
  some (strOfNums l55)
noncomputable def m_ref03_Lower_s2 (p0 : ByteArray) (l78 : List Int) (i79 : Int) : Option (((List Int) × Int) ⊕ (List Int)) :=
  if i79 < (((bytesI p0).length) : Int) then
    (at_ l78 i79).bind fun x104 =>
    if 65 ≤ x104 then
      (at_ l78 i79).bind fun x109 =>
      if x109 ≤ 90 then
        (at_ l78 i79).bind fun x114 =>
        (at_ l78 i79).bind fun x118 =>
        (setAt l78 i79 (IntKind.u8.wrap (x114 + 32))).bind fun l122 =>
        some (.inl (l122, w64 (i79 + 1)))
      else
        some (.inl (l78, w64 (i79 + 1)))
    else
      some (.inl (l78, w64 (i79 + 1)))
  else
    some (.inr l78)
noncomputable def m_ref03_Lower (p0 : ByteArray) : Option ByteArray :=
  (loop (fun s => m_ref03_Lower_s2 p0 s.1 s.2) ((bytesI p0), 0)).bind fun e => m_ref03_Lower_j1 e
theorem c_ref03_Lower {w0 : World} {M : Nat → Prop} {H : List (Nat × Nat × Obj)} {R : List (Nat × Row)} {φ : World → Prop} (p0 : ByteArray) (r : ByteArray) (hm : m_ref03_Lower p0 = some r) :
    Cn Try.prog 118 #[.string p0] ⟨w0, M, H, R, φ⟩ (fun x : Unit => .string r) (fun x => True) (fun x => ⟨w0, M, H, R, φ⟩) := by
 unfold m_ref03_Lower at hm
 refine cn_intro (fn := Try.f118) (N := 35) Try.func118 rfl Try.ntmps118 rfl ?_
 refine c_seq ?_
 refine c_region ?_
 refine g_v rfl r_assign ?_
 refine g_nil ?_
 refine d_then ?_
 refine c_seq ?_
 refine c_region ?_
 refine g_v rfl r_move ?_
 refine g_e rfl (e_bytesH 100060 Try.underlying9 Try.underlying77 Try.underlying5 rfl) (fun ⟨g5, c6, T7⟩ hc6 => ?_)
 refine g_v rfl r_assign ?_
 refine g_nil ?_
 refine d_then ?_
 refine c_seq ?_
 refine c_seq ?_
 refine c_region ?_
 refine g_v rfl r_assign ?_
 refine g_nil ?_
 refine d_then ?_
 refine c_cut (ι := (List Int)) [3] (fun l55 => [(3, .slice (some ⟨g5, 0, none⟩) ((bytesI p0).length) c6)]) (fun l55 => ⟨w0, M, (100060, g5, rowO l55 T7 5) :: H, R, φ⟩) (fun l55 => m_ref03_Lower_j1 l55 = some r ∧ l55.length = (bytesI p0).length) ?_ (fun l55 u ⟨hm, hl55⟩ => ?_)
 ·
  refine c_block ?_
  replace hm := bnd hm
  obtain ⟨out2, hl2, hr2⟩ := hm
  obtain ⟨n102', hl2⟩ := loop_lp hl2
  refine c_loopU (ι := Nat × (List Int) × Int) [3, 4] (fun ⟨n102, l78, i79⟩ => [(3, .slice (some ⟨g5, 0, none⟩) ((bytesI p0).length) c6), (4, .int .i64 i79)]) (fun ⟨n102, l78, i79⟩ => ⟨w0, M, (100060, g5, rowO l78 T7 5) :: H, R, φ⟩) (fun ⟨n102, l78, i79⟩ => Lp (fun s => m_ref03_Lower_s2 p0 s.1 s.2) n102 (l78, i79) out2 ∧ l78.length = (bytesI p0).length) (fun ⟨n102, l78, i79⟩ => n102) (n102', (bytesI p0), 0) ⟨hl2, rfl⟩ ⟨rfl, rfl, trivial⟩ (fun W h => h.phi (fun W hφ => hφ)) (fun ⟨n102, l78, i79⟩ u ⟨hlp, hl78⟩ => ?_)
  obtain ⟨o2, hm, hnx2⟩ := lp_step hlp
  clear hlp
  replace hm : m_ref03_Lower_s2 p0 l78 i79 = some o2 := hm
  unfold m_ref03_Lower_s2 at hm
  refine c_flat [(3, .slice (some ⟨g5, 0, none⟩) ((bytesI p0).length) c6), (4, .int .i64 i79)] ⟨rfl, rfl, trivial⟩ (fun u => ?_)
  refine c_sta ⟨w0, M, (100060, g5, rowO l78 T7 5) :: H, R, φ⟩ (fun _ h => h) ?_
  refine c_seq ?_
  refine c_seq ?_
  refine c_region ?_
  refine g_v rfl r_move ?_
  refine g_v rfl r_move ?_
  refine g_v rfl (r_lenL Try.underlying77 rfl) ?_
  refine g_v rfl (r_lss rfl rfl) ?_
  refine g_nil ?_
  refine d_then ?_
  refine c_cond rfl (fun h103 => ?_) (fun h103 => ?_)
  ·
   replace hm := ite_t hm (of_decide_eq_true h103)
   refine c_skip ?_
   refine d_then ?_
   refine c_seq ?_
   refine c_block ?_
   refine c_seq ?_
   refine c_region ?_
   refine g_v rfl r_move ?_
   refine g_v rfl r_move ?_
   replace hm := bnd hm
   obtain ⟨x104, hx104, hm⟩ := hm
   refine g_know _ (fun W hS => cl_at (p := (Sta.ok ⟨w0, M, (100060, g5, rowO l78 T7 5) :: H, R, φ⟩)) (sz := 1) (fun _ => rfl) (by decide) hS (hrowCl (S := ⟨w0, M, (100060, g5, rowO l78 T7 5) :: H, R, φ⟩) (tag := 100060) rfl) hx104) ?_
   rintro ⟨ad105, hA107, f106⟩
   refine g_v rfl (r_ixN hl78 Try.underlying77 Try.sizeOf5 rfl hA107 rfl hx104) ?_
   refine g_v rfl (r_ld rfl Try.isAgg5 (fun W hS => Cl.head (f106 W hS))) ?_
   refine g_v rfl (r_geq rfl rfl) ?_
   refine g_v rfl r_move ?_
   refine g_if rfl rfl rfl rfl rfl (fun h108 => ?_) (fun h108 => ?_)
   ·
    replace hm := ite_t hm (of_decide_eq_true h108)
    refine g_v rfl r_move ?_
    refine g_do rfl rfl rfl rfl rfl h108 ?_
    refine g_v rfl r_move ?_
    refine g_do rfl rfl rfl rfl rfl h108 ?_
    replace hm := bnd hm
    obtain ⟨x109, hx109, hm⟩ := hm
    refine g_know _ (fun W hS => cl_at (p := (Sta.ok ⟨w0, M, (100060, g5, rowO l78 T7 5) :: H, R, φ⟩)) (sz := 1) (fun _ => rfl) (by decide) hS (hrowCl (S := ⟨w0, M, (100060, g5, rowO l78 T7 5) :: H, R, φ⟩) (tag := 100060) rfl) hx109) ?_
    rintro ⟨ad110, hA112, f111⟩
    refine g_v rfl (r_ixN hl78 Try.underlying77 Try.sizeOf5 rfl hA112 rfl hx109) ?_
    refine g_do rfl rfl rfl rfl rfl h108 ?_
    refine g_v rfl (r_ld rfl Try.isAgg5 (fun W hS => Cl.head (f111 W hS))) ?_
    refine g_do rfl rfl rfl rfl rfl h108 ?_
    refine g_v rfl (r_leq rfl rfl) ?_
    refine g_v rfl (r_pick1 rfl h108) ?_
    refine g_nil ?_
    refine d_then ?_
    refine c_flat [(3, .slice (some ⟨g5, 0, none⟩) ((bytesI p0).length) c6), (4, .int .i64 i79), (24, .bool (decide (x109 ≤ 90)))] ⟨rfl, rfl, rfl, trivial⟩ (fun u => ?_)
    refine c_sta ⟨w0, M, (100060, g5, rowO l78 T7 5) :: H, R, φ⟩ (fun _ h => h) ?_
    refine c_cond rfl (fun h113 => ?_) (fun h113 => ?_)
    ·
     replace hm := ite_t hm (of_decide_eq_true h113)
     refine c_region ?_
     refine g_v rfl r_move ?_
     refine g_v rfl r_move ?_
     refine g_v rfl r_move ?_
     refine g_v rfl r_move ?_
     replace hm := bnd hm
     obtain ⟨x114, hx114, hm⟩ := hm
     refine g_know _ (fun W hS => cl_at (p := (Sta.ok ⟨w0, M, (100060, g5, rowO l78 T7 5) :: H, R, φ⟩)) (sz := 1) (fun _ => rfl) (by decide) hS (hrowCl (S := ⟨w0, M, (100060, g5, rowO l78 T7 5) :: H, R, φ⟩) (tag := 100060) rfl) hx114) ?_
     rintro ⟨ad115, hA117, f116⟩
     refine g_v rfl (r_ixN hl78 Try.underlying77 Try.sizeOf5 rfl hA117 rfl hx114) ?_
     refine g_v rfl (r_ld rfl Try.isAgg5 (fun W hS => Cl.head (f116 W hS))) ?_
     refine g_v rfl (r_add rfl rfl rfl) ?_
     replace hm := bnd hm
     obtain ⟨x118, hx118, hm⟩ := hm
     refine g_know _ (fun W hS => cl_at (p := (Sta.ok ⟨w0, M, (100060, g5, rowO l78 T7 5) :: H, R, φ⟩)) (sz := 1) (fun _ => rfl) (by decide) hS (hrowCl (S := ⟨w0, M, (100060, g5, rowO l78 T7 5) :: H, R, φ⟩) (tag := 100060) rfl) hx118) ?_
     rintro ⟨ad119, hA121, f120⟩
     refine g_v rfl (r_ixN hl78 Try.underlying77 Try.sizeOf5 rfl hA121 rfl hx118) ?_
     replace hm := bnd hm
     obtain ⟨l122, hl122, hm⟩ := hm
     refine g_stH (tag := 100060) (l := l78) rfl rfl hA121 rfl hl122 rfl Try.sizeOf5 ?_
     refine g_nil ?_
     refine d_normal_block ?_
     refine d_then ?_
     refine c_flat [(3, .slice (some ⟨g5, 0, none⟩) ((bytesI p0).length) c6), (4, .int .i64 i79)] ⟨rfl, rfl, trivial⟩ (fun u => ?_)
     refine c_sta ⟨w0, M, (100060, g5, rowO l122 T7 5) :: H, R, φ⟩ (fun _ h => h) ?_
     refine c_region ?_
     refine g_v rfl r_move ?_
     refine g_v rfl (r_add rfl rfl rfl) ?_
     refine g_v rfl r_assign ?_
     refine g_nil ?_
     obtain ⟨n123, hn123, hlp⟩ := nx_inl hm hnx2
     exact d_round (n123, l122, w64 (i79 + 1)) ⟨hlp, ((setAt_lenE hl122).trans hl78)⟩ hn123 ⟨rfl, rfl, trivial⟩ (fun W h => h.phi (fun W hφ => hφ))
    ·
     replace hm := ite_f hm (of_decide_eq_false h113)
     refine c_skip ?_
     refine d_normal_block ?_
     refine d_then ?_
     refine c_region ?_
     refine g_v rfl r_move ?_
     refine g_v rfl (r_add rfl rfl rfl) ?_
     refine g_v rfl r_assign ?_
     refine g_nil ?_
     obtain ⟨n124, hn124, hlp⟩ := nx_inl hm hnx2
     exact d_round (n124, l78, w64 (i79 + 1)) ⟨hlp, hl78⟩ hn124 ⟨rfl, rfl, trivial⟩ (fun W h => h.phi (fun W hφ => hφ))
   ·
    replace hm := ite_f hm (of_decide_eq_false h108)
    refine g_no rfl rfl rfl rfl rfl h108 ?_
    refine g_no rfl rfl rfl rfl rfl h108 ?_
    refine g_no rfl rfl rfl rfl rfl h108 ?_
    refine g_no rfl rfl rfl rfl rfl h108 ?_
    refine g_v rfl (r_pick0 rfl h108) ?_
    refine g_nil ?_
    refine d_then ?_
    refine c_flat [(3, .slice (some ⟨g5, 0, none⟩) ((bytesI p0).length) c6), (4, .int .i64 i79), (24, .bool false)] ⟨rfl, rfl, rfl, trivial⟩ (fun u => ?_)
    refine c_sta ⟨w0, M, (100060, g5, rowO l78 T7 5) :: H, R, φ⟩ (fun _ h => h) ?_
    refine c_cond0 rfl rfl ?_
    refine c_skip ?_
    refine d_normal_block ?_
    refine d_then ?_
    refine c_region ?_
    refine g_v rfl r_move ?_
    refine g_v rfl (r_add rfl rfl rfl) ?_
    refine g_v rfl r_assign ?_
    refine g_nil ?_
    obtain ⟨n125, hn125, hlp⟩ := nx_inl hm hnx2
    exact d_round (n125, l78, w64 (i79 + 1)) ⟨hlp, hl78⟩ hn125 ⟨rfl, rfl, trivial⟩ (fun W h => h.phi (fun W hφ => hφ))
  ·
   replace hm := ite_f hm (of_decide_eq_false h103)
   refine c_exit ?_
   refine d_exit_then ?_
   refine d_exit_then ?_
   refine d_exit_block ?_
   replace hm := nx_out (C := (fun e => m_ref03_Lower_j1 e = some r)) hm hnx2 hr2
   exact d_round l78 ⟨hm, hl78⟩ Nat.zero_lt_one ⟨rfl, trivial⟩ (fun W h => h.phi (fun W hφ => hφ))
 ·
  unfold m_ref03_Lower_j1 at hm
  refine d_flat [(3, .slice (some ⟨g5, 0, none⟩) ((bytesI p0).length) c6)] ⟨rfl, trivial⟩ (fun u => ?_)
  refine d_sta ⟨w0, M, (100060, g5, rowO l55 T7 5) :: H, R, φ⟩ (fun _ h => h) ?_
  refine d_then ?_
  refine c_seq ?_
  refine c_region ?_
  refine g_v rfl r_move ?_
  refine g_v rfl (r_textN hl55 Try.underlying77 Try.underlying5 Try.underlying9 rfl (hrowCl (tag := 100060) rfl)) ?_
  refine g_v rfl r_assign ?_
  refine g_nil ?_
  refine d_then ?_
  refine c_ret ?_
  replace hm := Option.some.inj hm
  subst hm
  refine d_retC () Try.results118 ?_ trivial (fun W h => ok_pre (H1 := [_]) (R1 := []) h (fun W hφ => hφ)) (.inr rfl)
  refine res_tmp ?_
  refine res_nil ?_
  exact rfl

noncomputable def m_ref03_Shared_j1  (i107 : Int) : Option Int :=
  some i107
noncomputable def m_ref03_Shared_s2 (x1 : List ByteArray) (x8 : List ByteArray) (i152 : Int) : Option (Int ⊕ Int) :=
  if i152 < (x1.length : Int) then
    if i152 < (x8.length : Int) then
      (at_ x1 (w64 ((w64 ((x1.length : Int) - 1)) - i152))).bind fun x228 =>
      (at_ x8 (w64 ((w64 ((x8.length : Int) - 1)) - i152))).bind fun x232 =>
      (m_ref03_Lower x228).bind fun x236 =>
      (m_ref03_Lower x232).bind fun x238 =>
      if x236 = x238 then
        some (.inl (w64 (i152 + 1)))
      else
        some (.inr i152)
    else
      some (.inr i152)
  else
    some (.inr i152)
noncomputable def m_ref03_Shared (p0 : ByteArray) (p1 : ByteArray) : Option Int :=
  (m_ref03_Labels p0).bind fun (z7 : (List ByteArray) × Int) =>
  (m_ref03_Labels p1).bind fun (z14 : (List ByteArray) × Int) =>
  if z7.2 ≠ 0 then
    some (-1)
  else
    if z14.2 ≠ 0 then
      some (-1)
    else
      (loop (fun s => m_ref03_Shared_s2 z7.1 z14.1 s) 0).bind fun e => m_ref03_Shared_j1 e
theorem c_ref03_Shared {w0 : World} {M : Nat → Prop} {H : List (Nat × Nat × Obj)} {R : List (Nat × Row)} {φ : World → Prop} (p0 : ByteArray) (p1 : ByteArray) (r : Int) (hm : m_ref03_Shared p0 p1 = some r) :
    Cn Try.prog 108 #[.string p0, .string p1] ⟨w0, M, H, R, φ⟩ (fun x : Unit => .int .i64 r) (fun x => True) (fun x => ⟨w0, M, H, R, φ⟩) := by
 unfold m_ref03_Shared at hm
 refine cn_intro (fn := Try.f108) (N := 60) Try.func108 rfl Try.ntmps108 rfl ?_
 refine c_seq ?_
 refine c_region ?_
 refine g_v rfl r_assign ?_
 refine g_nil ?_
 refine d_then ?_
 refine c_seq ?_
 refine c_region ?_
 refine g_v rfl r_move ?_
 replace hm := bnd hm
 obtain ⟨⟨x1, x2⟩, hx3, hm⟩ := hm
 refine g_cn ⟨w0, M, _, _, φ⟩ (fun _ h => h) Try.call102 rfl rfl (c_ref03_Labels p0 _ hx3) (fun ⟨A4, c5⟩ hc5 => ?_)
 refine g_sta _ (fun W h => (ok_frontR (t := 2000) (t' := 100120) h rfl)) ?_
 refine g_v rfl r_move ?_
 refine g_v rfl (r_extract rfl rfl) ?_
 refine g_v rfl (r_extract rfl rfl) ?_
 refine g_v rfl r_assign ?_
 refine g_v rfl r_assign ?_
 refine g_nil ?_
 refine d_then ?_
 refine c_seq ?_
 refine c_region ?_
 refine g_v rfl r_move ?_
 replace hm := bnd hm
 obtain ⟨⟨x8, x9⟩, hx10, hm⟩ := hm
 refine g_cn ⟨w0, M, _, _, φ⟩ (fun _ h => h) Try.call102 rfl rfl (c_ref03_Labels p1 _ hx10) (fun ⟨A11, c12⟩ hc12 => ?_)
 refine g_sta _ (fun W h => (ok_frontR (t := 2000) (t' := 100170) h rfl)) ?_
 refine g_v rfl r_move ?_
 refine g_v rfl (r_extract rfl rfl) ?_
 refine g_v rfl (r_extract rfl rfl) ?_
 refine g_v rfl r_assign ?_
 refine g_v rfl r_assign ?_
 refine g_nil ?_
 refine d_then ?_
 refine c_flat [(5, .slice A4 x1.length c5), (6, .int .i64 x2), (7, .slice A11 x8.length c12), (8, .int .i64 x9)] ⟨rfl, rfl, rfl, rfl, trivial⟩ (fun u => ?_)
 refine c_sta ⟨w0, M, H, (100170, ⟨.slice A11 x8.length c12, 9, 1, x8.length, x8.flatMap (fun x : ByteArray => [Value.string x])⟩) :: (100120, ⟨.slice A4 x1.length c5, 9, 1, x1.length, x1.flatMap (fun x : ByteArray => [Value.string x])⟩) :: R, φ⟩ (fun _ h => h) ?_
 refine c_seq ?_
 refine c_seq ?_
 refine c_region ?_
 refine g_v rfl r_move ?_
 refine g_v rfl (r_neq rfl rfl) ?_
 refine g_v rfl r_move ?_
 refine g_if rfl rfl rfl rfl rfl (fun h15 => ?_) (fun h15 => ?_)
 ·
  replace hm := ite_f hm (of_decide_eq_false h15)
  refine g_v rfl r_move ?_
  refine g_do rfl rfl rfl rfl rfl h15 ?_
  refine g_v rfl (r_neq rfl rfl) ?_
  refine g_v rfl (r_pick0 rfl h15) ?_
  refine g_nil ?_
  refine d_then ?_
  refine c_cond rfl (fun h16 => ?_) (fun h16 => ?_)
  ·
   replace hm := ite_t hm (of_decide_eq_true h16)
   refine c_seq ?_
   refine c_region ?_
   refine g_v rfl r_assign ?_
   refine g_nil ?_
   refine d_then ?_
   refine c_ret ?_
   refine d_ret_then ?_
   replace hm := Option.some.inj hm
   subst hm
   refine d_retC () Try.results108 ?_ trivial (fun W h => ok_pre (H1 := []) (R1 := [_, _]) h (fun W hφ => hφ)) (.inr rfl)
   refine res_tmp ?_
   refine res_nil ?_
   exact rfl
  ·
   replace hm := ite_f hm (of_decide_eq_false h16)
   refine c_skip ?_
   refine d_then ?_
   refine c_seq ?_
   refine c_region ?_
   refine g_v rfl r_assign ?_
   refine g_nil ?_
   refine d_then ?_
   refine c_seq ?_
   refine c_cut (ι := Int) [9] (fun i107 => [(9, .int .i64 i107)]) (fun i107 => ⟨w0, M, H, R, φ⟩) (fun i107 => m_ref03_Shared_j1 i107 = some r) ?_ (fun i107 u hm => ?_)
   ·
    refine c_block ?_
    replace hm := bnd hm
    obtain ⟨out2, hl2, hr2⟩ := hm
    obtain ⟨n197', hl2⟩ := loop_lp hl2
    refine c_loopU (ι := Nat × Int) [5, 7, 9] (fun ⟨n197, i152⟩ => [(9, .int .i64 i152)]) (fun ⟨n197, i152⟩ => ⟨w0, M, H, (100170, ⟨.slice A11 x8.length c12, 9, 1, x8.length, x8.flatMap (fun x : ByteArray => [Value.string x])⟩) :: (100120, ⟨.slice A4 x1.length c5, 9, 1, x1.length, x1.flatMap (fun x : ByteArray => [Value.string x])⟩) :: R, φ⟩) (fun ⟨n197, i152⟩ => Lp (fun s => m_ref03_Shared_s2 x1 x8 s) n197 i152 out2) (fun ⟨n197, i152⟩ => n197) (n197', 0) hl2 ⟨rfl, rfl, rfl, trivial⟩ (fun W h => h.phi (fun W hφ => hφ)) (fun ⟨n197, i152⟩ u hlp => ?_)
    obtain ⟨o2, hm, hnx2⟩ := lp_step hlp
    clear hlp
    replace hm : m_ref03_Shared_s2 x1 x8 i152 = some o2 := hm
    unfold m_ref03_Shared_s2 at hm
    refine c_flat [(5, .slice A4 x1.length c5), (7, .slice A11 x8.length c12), (9, .int .i64 i152)] ⟨rfl, rfl, rfl, trivial⟩ (fun u => ?_)
    refine c_sta ⟨w0, M, H, (100170, ⟨.slice A11 x8.length c12, 9, 1, x8.length, x8.flatMap (fun x : ByteArray => [Value.string x])⟩) :: (100120, ⟨.slice A4 x1.length c5, 9, 1, x1.length, x1.flatMap (fun x : ByteArray => [Value.string x])⟩) :: R, φ⟩ (fun _ h => h) ?_
    refine c_seq ?_
    refine c_seq ?_
    refine ga_start (n := 31) ⟨w0, M, H, (100170, ⟨.slice A11 x8.length c12, 9, 1, x8.length, x8.flatMap (fun x : ByteArray => [Value.string x])⟩) :: (100120, ⟨.slice A4 x1.length c5, 9, 1, x1.length, x1.flatMap (fun x : ByteArray => [Value.string x])⟩) :: R, φ⟩ [] #[false, false, false, false, false, false, false, false, false, false, false, false, false, false, false, false, false, false, false, false, false, false, false, false, false, false, false, false, false, false, false] (fun W h => h.phi (fun W hφ => hφ)) mixed rfl rfl ?_
    refine ga_v (i := 0) #[true, false, false, false, false, false, false, false, false, false, false, false, false, false, false, false, false, false, false, false, false, false, false, false, false, false, false, false, false, false, false] rfl (by kernel_rfl) (fun _ _ _ _ h => h) rfl (r_move) ?_
    refine ga_r (i := 1) #[true, true, false, false, false, false, false, false, false, false, false, false, false, false, false, false, false, false, false, false, false, false, false, false, false, false, false, false, false, false, false] rfl (by kernel_rfl) (by decide) rfl (r_move) ?_
    refine ga_r (i := 2) #[true, true, true, false, false, false, false, false, false, false, false, false, false, false, false, false, false, false, false, false, false, false, false, false, false, false, false, false, false, false, false] rfl (by kernel_rfl) (by decide) rfl (r_lenL Try.underlying105 rfl) ?_
    refine ga_r (i := 3) #[true, true, true, true, false, false, false, false, false, false, false, false, false, false, false, false, false, false, false, false, false, false, false, false, false, false, false, false, false, false, false] rfl (by kernel_rfl) (by decide) rfl (r_lss rfl rfl) ?_
    refine ga_r (i := 4) #[true, true, true, true, true, false, false, false, false, false, false, false, false, false, false, false, false, false, false, false, false, false, false, false, false, false, false, false, false, false, false] rfl (by kernel_rfl) (by decide) rfl (r_move) ?_
    refine ga_if (t := 30) rfl (fun h226 => ?_) (fun h226 => ?_)
    ·
     replace hm := ite_t hm (of_decide_eq_true h226)
     refine ga_do (i := 5) #[true, true, true, true, true, true, false, false, false, false, false, false, false, false, false, false, false, false, false, false, false, false, false, false, false, false, false, false, false, false, false] rfl (by kernel_rfl) (fun _ _ _ _ h => h) rfl rfl rfl rfl rfl h226 (r_move) ?_
     refine ga_rG (i := 6) #[true, true, true, true, true, true, true, false, false, false, false, false, false, false, false, false, false, false, false, false, false, false, false, false, false, false, false, false, false, false, false] rfl (by kernel_rfl) (by decide) rfl rfl rfl rfl rfl h226 (r_move) ?_
     refine ga_rG (i := 7) #[true, true, true, true, true, true, true, true, false, false, false, false, false, false, false, false, false, false, false, false, false, false, false, false, false, false, false, false, false, false, false] rfl (by kernel_rfl) (by decide) rfl rfl rfl rfl rfl h226 (r_lenL Try.underlying105 rfl) ?_
     refine ga_rG (i := 8) #[true, true, true, true, true, true, true, true, true, false, false, false, false, false, false, false, false, false, false, false, false, false, false, false, false, false, false, false, false, false, false] rfl (by kernel_rfl) (by decide) rfl rfl rfl rfl rfl h226 (r_lss rfl rfl) ?_
     refine ga_r (i := 9) #[true, true, true, true, true, true, true, true, true, true, false, false, false, false, false, false, false, false, false, false, false, false, false, false, false, false, false, false, false, false, false] rfl (by kernel_rfl) (by decide) rfl (r_pick1 rfl h226) ?_
     refine ga_r (i := 10) #[true, true, true, true, true, true, true, true, true, true, true, false, false, false, false, false, false, false, false, false, false, false, false, false, false, false, false, false, false, false, false] rfl (by kernel_rfl) (by decide) rfl (r_move) ?_
     refine ga_if (t := 36) rfl (fun h227 => ?_) (fun h227 => ?_)
     ·
      replace hm := ite_t hm (of_decide_eq_true h227)
      refine ga_do (i := 11) #[true, true, true, true, true, true, true, true, true, true, true, true, false, false, false, false, false, false, false, false, false, false, false, false, false, false, false, false, false, false, false] rfl (by kernel_rfl) (fun _ _ _ _ h => h) rfl rfl rfl rfl rfl h227 (r_move) ?_
      refine ga_do (i := 12) #[true, true, true, true, true, true, true, true, true, true, true, true, true, false, false, false, false, false, false, false, false, false, false, false, false, false, false, false, false, false, false] rfl (by kernel_rfl) (fun _ _ _ _ h => h) rfl rfl rfl rfl rfl h227 (r_move) ?_
      refine ga_do (i := 13) #[true, true, true, true, true, true, true, true, true, true, true, true, true, true, false, false, false, false, false, false, false, false, false, false, false, false, false, false, false, false, false] rfl (by kernel_rfl) (fun _ _ _ _ h => h) rfl rfl rfl rfl rfl h227 (r_lenL Try.underlying105 rfl) ?_
      refine ga_do (i := 14) #[true, true, true, true, true, true, true, true, true, true, true, true, true, true, true, false, false, false, false, false, false, false, false, false, false, false, false, false, false, false, false] rfl (by kernel_rfl) (fun _ _ _ _ h => h) rfl rfl rfl rfl rfl h227 (r_sub rfl rfl rfl) ?_
      refine ga_do (i := 15) #[true, true, true, true, true, true, true, true, true, true, true, true, true, true, true, true, false, false, false, false, false, false, false, false, false, false, false, false, false, false, false] rfl (by kernel_rfl) (fun _ _ _ _ h => h) rfl rfl rfl rfl rfl h227 (r_move) ?_
      refine ga_do (i := 16) #[true, true, true, true, true, true, true, true, true, true, true, true, true, true, true, true, true, false, false, false, false, false, false, false, false, false, false, false, false, false, false] rfl (by kernel_rfl) (fun _ _ _ _ h => h) rfl rfl rfl rfl rfl h227 (r_sub rfl rfl rfl) ?_
      replace hm := bnd hm
      obtain ⟨x228, hx228, hm⟩ := hm
      refine ga_know _ (fun W hS => cl_at (p := (Sta.ok ⟨w0, M, H, (100170, ⟨.slice A11 x8.length c12, 9, 1, x8.length, x8.flatMap (fun x : ByteArray => [Value.string x])⟩) :: (100120, ⟨.slice A4 x1.length c5, 9, 1, x1.length, x1.flatMap (fun x : ByteArray => [Value.string x])⟩) :: R, φ⟩)) (sz := 1) (fun _ => rfl) (by decide) (hS.phi (fun W hφ => hφ)) (fun W hS => rowCl (S := ⟨w0, M, H, (100170, ⟨.slice A11 x8.length c12, 9, 1, x8.length, x8.flatMap (fun x : ByteArray => [Value.string x])⟩) :: (100120, ⟨.slice A4 x1.length c5, 9, 1, x1.length, x1.flatMap (fun x : ByteArray => [Value.string x])⟩) :: R, φ⟩) (tag := 100120) rfl W hS) hx228) ?_
      rintro ⟨ad229, hA231, f230⟩
      refine ga_do (i := 17) #[true, true, true, true, true, true, true, true, true, true, true, true, true, true, true, true, true, true, false, false, false, false, false, false, false, false, false, false, false, false, false] rfl (by kernel_rfl) (fun _ _ _ _ h => h) rfl rfl rfl rfl rfl h227 (r_ix Try.underlying105 Try.sizeOf9 rfl hA231 rfl hx228) ?_
      refine ga_do (i := 18) #[true, true, true, true, true, true, true, true, true, true, true, true, true, true, true, true, true, true, true, false, false, false, false, false, false, false, false, false, false, false, false] rfl (by kernel_rfl) (fun _ _ _ _ h => h) rfl rfl rfl rfl rfl h227 (r_ld rfl Try.isAgg9 (fun W hS => Cl.head (f230 W hS))) ?_
      refine ga_do (i := 20) #[true, true, true, true, true, true, true, true, true, true, true, true, true, true, true, true, true, true, true, false, true, false, false, false, false, false, false, false, false, false, false] rfl (by kernel_rfl) (fun _ _ _ _ h => h) rfl rfl rfl rfl rfl h227 (r_move) ?_
      refine ga_do (i := 21) #[true, true, true, true, true, true, true, true, true, true, true, true, true, true, true, true, true, true, true, false, true, true, false, false, false, false, false, false, false, false, false] rfl (by kernel_rfl) (fun _ _ _ _ h => h) rfl rfl rfl rfl rfl h227 (r_move) ?_
      refine ga_do (i := 22) #[true, true, true, true, true, true, true, true, true, true, true, true, true, true, true, true, true, true, true, false, true, true, true, false, false, false, false, false, false, false, false] rfl (by kernel_rfl) (fun _ _ _ _ h => h) rfl rfl rfl rfl rfl h227 (r_lenL Try.underlying105 rfl) ?_
      refine ga_do (i := 23) #[true, true, true, true, true, true, true, true, true, true, true, true, true, true, true, true, true, true, true, false, true, true, true, true, false, false, false, false, false, false, false] rfl (by kernel_rfl) (fun _ _ _ _ h => h) rfl rfl rfl rfl rfl h227 (r_sub rfl rfl rfl) ?_
      refine ga_do (i := 24) #[true, true, true, true, true, true, true, true, true, true, true, true, true, true, true, true, true, true, true, false, true, true, true, true, true, false, false, false, false, false, false] rfl (by kernel_rfl) (fun _ _ _ _ h => h) rfl rfl rfl rfl rfl h227 (r_move) ?_
      refine ga_do (i := 25) #[true, true, true, true, true, true, true, true, true, true, true, true, true, true, true, true, true, true, true, false, true, true, true, true, true, true, false, false, false, false, false] rfl (by kernel_rfl) (fun _ _ _ _ h => h) rfl rfl rfl rfl rfl h227 (r_sub rfl rfl rfl) ?_
      replace hm := bnd hm
      obtain ⟨x232, hx232, hm⟩ := hm
      refine ga_know _ (fun W hS => cl_at (p := (Sta.ok ⟨w0, M, H, (100170, ⟨.slice A11 x8.length c12, 9, 1, x8.length, x8.flatMap (fun x : ByteArray => [Value.string x])⟩) :: (100120, ⟨.slice A4 x1.length c5, 9, 1, x1.length, x1.flatMap (fun x : ByteArray => [Value.string x])⟩) :: R, φ⟩)) (sz := 1) (fun _ => rfl) (by decide) (hS.phi (fun W hφ => hφ)) (fun W hS => rowCl (S := ⟨w0, M, H, (100170, ⟨.slice A11 x8.length c12, 9, 1, x8.length, x8.flatMap (fun x : ByteArray => [Value.string x])⟩) :: (100120, ⟨.slice A4 x1.length c5, 9, 1, x1.length, x1.flatMap (fun x : ByteArray => [Value.string x])⟩) :: R, φ⟩) (tag := 100170) rfl W hS) hx232) ?_
      rintro ⟨ad233, hA235, f234⟩
      refine ga_do (i := 26) #[true, true, true, true, true, true, true, true, true, true, true, true, true, true, true, true, true, true, true, false, true, true, true, true, true, true, true, false, false, false, false] rfl (by kernel_rfl) (fun _ _ _ _ h => h) rfl rfl rfl rfl rfl h227 (r_ix Try.underlying105 Try.sizeOf9 rfl hA235 rfl hx232) ?_
      refine ga_do (i := 27) #[true, true, true, true, true, true, true, true, true, true, true, true, true, true, true, true, true, true, true, false, true, true, true, true, true, true, true, true, false, false, false] rfl (by kernel_rfl) (fun _ _ _ _ h => h) rfl rfl rfl rfl rfl h227 (r_ld rfl Try.isAgg9 (fun W hS => Cl.head (f234 W hS))) ?_
      replace hm := bnd hm
      obtain ⟨x236, hx237, hm⟩ := hm
      refine ga_cnG (first := #[]) (i := 19) #[true, true, true, true, true, true, true, true, true, true, true, true, true, true, true, true, true, true, true, true, true, true, true, true, true, true, true, true, false, false, false] rfl (by kernel_rfl) (by decide) rfl rfl rfl rfl h227  ⟨w0, M, _, _, φ⟩ (fun _ h => h) Try.call118 rfl rfl rfl (c_ref03_Lower x228 _ hx237) (fun _ W _ h => h.phi (fun W hφ => hφ)) (fun _ _ => ?_)
      replace hm := bnd hm
      obtain ⟨x238, hx239, hm⟩ := hm
      refine ga_cnG (first := #[]) (i := 28) #[true, true, true, true, true, true, true, true, true, true, true, true, true, true, true, true, true, true, true, true, true, true, true, true, true, true, true, true, true, false, false] rfl (by kernel_rfl) (by decide) rfl rfl rfl rfl h227  ⟨w0, M, _, _, φ⟩ (fun _ h => h) Try.call118 rfl rfl rfl (c_ref03_Lower x232 _ hx239) (fun _ W _ h => h.phi (fun W hφ => hφ)) (fun _ _ => ?_)
      refine ga_rG (i := 29) #[true, true, true, true, true, true, true, true, true, true, true, true, true, true, true, true, true, true, true, true, true, true, true, true, true, true, true, true, true, true, false] rfl (by kernel_rfl) (by decide) rfl rfl rfl rfl rfl h227 (r_eqlT rfl rfl) ?_
      refine ga_r (i := 30) #[true, true, true, true, true, true, true, true, true, true, true, true, true, true, true, true, true, true, true, true, true, true, true, true, true, true, true, true, true, true, true] rfl (by kernel_rfl) (by decide) rfl (r_pick1 rfl h227) ?_
      refine ga_done (by kernel_rfl) ?_
      refine d_then ?_
      refine c_flat [(5, .slice A4 x1.length c5), (7, .slice A11 x8.length c12), (9, .int .i64 i152), (56, .bool (decide (x236 = x238)))] ⟨rfl, rfl, rfl, rfl, trivial⟩ (fun u => ?_)
      refine c_sta ⟨w0, M, H, (100170, ⟨.slice A11 x8.length c12, 9, 1, x8.length, x8.flatMap (fun x : ByteArray => [Value.string x])⟩) :: (100120, ⟨.slice A4 x1.length c5, 9, 1, x1.length, x1.flatMap (fun x : ByteArray => [Value.string x])⟩) :: R, φ⟩ (fun _ h => h) ?_
      refine c_cond rfl (fun h240 => ?_) (fun h240 => ?_)
      ·
       replace hm := ite_t hm (of_decide_eq_true h240)
       refine c_skip ?_
       refine d_then ?_
       refine c_block ?_
       refine c_region ?_
       refine g_v rfl r_move ?_
       refine g_v rfl (r_add rfl rfl rfl) ?_
       refine g_v rfl r_assign ?_
       refine g_nil ?_
       refine d_normal_block ?_
       obtain ⟨n241, hn241, hlp⟩ := nx_inl hm hnx2
       exact d_round (n241, w64 (i152 + 1)) hlp hn241 ⟨rfl, rfl, rfl, trivial⟩ (fun W h => h.phi (fun W hφ => hφ))
      ·
       replace hm := ite_f hm (of_decide_eq_false h240)
       refine c_exit ?_
       refine d_exit_then ?_
       refine d_exit_then ?_
       refine d_exit_block ?_
       replace hm := nx_out (C := (fun e => m_ref03_Shared_j1 e = some r)) hm hnx2 hr2
       exact d_round i152 hm Nat.zero_lt_one ⟨rfl, trivial⟩ (fun W h => ((h.dropR (t := 100170) rfl).dropR (t := 100120) rfl).phi (fun W hφ => hφ))
     ·
      replace hm := ite_f hm (of_decide_eq_false h227)
      refine ga_no (i := 11) #[true, true, true, true, true, true, true, true, true, true, true, true, false, false, false, false, false, false, false, false, false, false, false, false, false, false, false, false, false, false, false] rfl (by kernel_rfl) (fun _ _ _ _ h => h) rfl rfl rfl rfl rfl h227 ?_
      refine ga_no (i := 12) #[true, true, true, true, true, true, true, true, true, true, true, true, true, false, false, false, false, false, false, false, false, false, false, false, false, false, false, false, false, false, false] rfl (by kernel_rfl) (fun _ _ _ _ h => h) rfl rfl rfl rfl rfl h227 ?_
      refine ga_no (i := 13) #[true, true, true, true, true, true, true, true, true, true, true, true, true, true, false, false, false, false, false, false, false, false, false, false, false, false, false, false, false, false, false] rfl (by kernel_rfl) (fun _ _ _ _ h => h) rfl rfl rfl rfl rfl h227 ?_
      refine ga_no (i := 14) #[true, true, true, true, true, true, true, true, true, true, true, true, true, true, true, false, false, false, false, false, false, false, false, false, false, false, false, false, false, false, false] rfl (by kernel_rfl) (fun _ _ _ _ h => h) rfl rfl rfl rfl rfl h227 ?_
      refine ga_no (i := 15) #[true, true, true, true, true, true, true, true, true, true, true, true, true, true, true, true, false, false, false, false, false, false, false, false, false, false, false, false, false, false, false] rfl (by kernel_rfl) (fun _ _ _ _ h => h) rfl rfl rfl rfl rfl h227 ?_
      refine ga_no (i := 16) #[true, true, true, true, true, true, true, true, true, true, true, true, true, true, true, true, true, false, false, false, false, false, false, false, false, false, false, false, false, false, false] rfl (by kernel_rfl) (fun _ _ _ _ h => h) rfl rfl rfl rfl rfl h227 ?_
      refine ga_no (i := 17) #[true, true, true, true, true, true, true, true, true, true, true, true, true, true, true, true, true, true, false, false, false, false, false, false, false, false, false, false, false, false, false] rfl (by kernel_rfl) (fun _ _ _ _ h => h) rfl rfl rfl rfl rfl h227 ?_
      refine ga_no (i := 18) #[true, true, true, true, true, true, true, true, true, true, true, true, true, true, true, true, true, true, true, false, false, false, false, false, false, false, false, false, false, false, false] rfl (by kernel_rfl) (fun _ _ _ _ h => h) rfl rfl rfl rfl rfl h227 ?_
      refine ga_no (i := 19) #[true, true, true, true, true, true, true, true, true, true, true, true, true, true, true, true, true, true, true, true, false, false, false, false, false, false, false, false, false, false, false] rfl (by kernel_rfl) (fun _ _ _ _ h => h) rfl rfl rfl rfl rfl h227 ?_
      refine ga_no (i := 20) #[true, true, true, true, true, true, true, true, true, true, true, true, true, true, true, true, true, true, true, true, true, false, false, false, false, false, false, false, false, false, false] rfl (by kernel_rfl) (fun _ _ _ _ h => h) rfl rfl rfl rfl rfl h227 ?_
      refine ga_no (i := 21) #[true, true, true, true, true, true, true, true, true, true, true, true, true, true, true, true, true, true, true, true, true, true, false, false, false, false, false, false, false, false, false] rfl (by kernel_rfl) (fun _ _ _ _ h => h) rfl rfl rfl rfl rfl h227 ?_
      refine ga_no (i := 22) #[true, true, true, true, true, true, true, true, true, true, true, true, true, true, true, true, true, true, true, true, true, true, true, false, false, false, false, false, false, false, false] rfl (by kernel_rfl) (fun _ _ _ _ h => h) rfl rfl rfl rfl rfl h227 ?_
      refine ga_no (i := 23) #[true, true, true, true, true, true, true, true, true, true, true, true, true, true, true, true, true, true, true, true, true, true, true, true, false, false, false, false, false, false, false] rfl (by kernel_rfl) (fun _ _ _ _ h => h) rfl rfl rfl rfl rfl h227 ?_
      refine ga_no (i := 24) #[true, true, true, true, true, true, true, true, true, true, true, true, true, true, true, true, true, true, true, true, true, true, true, true, true, false, false, false, false, false, false] rfl (by kernel_rfl) (fun _ _ _ _ h => h) rfl rfl rfl rfl rfl h227 ?_
      refine ga_no (i := 25) #[true, true, true, true, true, true, true, true, true, true, true, true, true, true, true, true, true, true, true, true, true, true, true, true, true, true, false, false, false, false, false] rfl (by kernel_rfl) (fun _ _ _ _ h => h) rfl rfl rfl rfl rfl h227 ?_
      refine ga_no (i := 26) #[true, true, true, true, true, true, true, true, true, true, true, true, true, true, true, true, true, true, true, true, true, true, true, true, true, true, true, false, false, false, false] rfl (by kernel_rfl) (fun _ _ _ _ h => h) rfl rfl rfl rfl rfl h227 ?_
      refine ga_no (i := 27) #[true, true, true, true, true, true, true, true, true, true, true, true, true, true, true, true, true, true, true, true, true, true, true, true, true, true, true, true, false, false, false] rfl (by kernel_rfl) (fun _ _ _ _ h => h) rfl rfl rfl rfl rfl h227 ?_
      refine ga_no (i := 28) #[true, true, true, true, true, true, true, true, true, true, true, true, true, true, true, true, true, true, true, true, true, true, true, true, true, true, true, true, true, false, false] rfl (by kernel_rfl) (fun _ _ _ _ h => h) rfl rfl rfl rfl rfl h227 ?_
      refine ga_no (i := 29) #[true, true, true, true, true, true, true, true, true, true, true, true, true, true, true, true, true, true, true, true, true, true, true, true, true, true, true, true, true, true, false] rfl (by kernel_rfl) (fun _ _ _ _ h => h) rfl rfl rfl rfl rfl h227 ?_
      refine ga_r (i := 30) #[true, true, true, true, true, true, true, true, true, true, true, true, true, true, true, true, true, true, true, true, true, true, true, true, true, true, true, true, true, true, true] rfl (by kernel_rfl) (by decide) rfl (r_pick0 rfl h227) ?_
      refine ga_done (by kernel_rfl) ?_
      refine d_then ?_
      refine c_flat [(5, .slice A4 x1.length c5), (7, .slice A11 x8.length c12), (9, .int .i64 i152), (56, .bool false)] ⟨rfl, rfl, rfl, rfl, trivial⟩ (fun u => ?_)
      refine c_sta ⟨w0, M, H, (100170, ⟨.slice A11 x8.length c12, 9, 1, x8.length, x8.flatMap (fun x : ByteArray => [Value.string x])⟩) :: (100120, ⟨.slice A4 x1.length c5, 9, 1, x1.length, x1.flatMap (fun x : ByteArray => [Value.string x])⟩) :: R, φ⟩ (fun _ h => h) ?_
      refine c_cond0 rfl rfl ?_
      refine c_exit ?_
      refine d_exit_then ?_
      refine d_exit_then ?_
      refine d_exit_block ?_
      replace hm := nx_out (C := (fun e => m_ref03_Shared_j1 e = some r)) hm hnx2 hr2
      exact d_round i152 hm Nat.zero_lt_one ⟨rfl, trivial⟩ (fun W h => ((h.dropR (t := 100170) rfl).dropR (t := 100120) rfl).phi (fun W hφ => hφ))
    ·
     replace hm := ite_f hm (of_decide_eq_false h226)
     refine ga_no (i := 5) #[true, true, true, true, true, true, false, false, false, false, false, false, false, false, false, false, false, false, false, false, false, false, false, false, false, false, false, false, false, false, false] rfl (by kernel_rfl) (fun _ _ _ _ h => h) rfl rfl rfl rfl rfl h226 ?_
     refine ga_no (i := 6) #[true, true, true, true, true, true, true, false, false, false, false, false, false, false, false, false, false, false, false, false, false, false, false, false, false, false, false, false, false, false, false] rfl (by kernel_rfl) (fun _ _ _ _ h => h) rfl rfl rfl rfl rfl h226 ?_
     refine ga_no (i := 7) #[true, true, true, true, true, true, true, true, false, false, false, false, false, false, false, false, false, false, false, false, false, false, false, false, false, false, false, false, false, false, false] rfl (by kernel_rfl) (fun _ _ _ _ h => h) rfl rfl rfl rfl rfl h226 ?_
     refine ga_no (i := 8) #[true, true, true, true, true, true, true, true, true, false, false, false, false, false, false, false, false, false, false, false, false, false, false, false, false, false, false, false, false, false, false] rfl (by kernel_rfl) (fun _ _ _ _ h => h) rfl rfl rfl rfl rfl h226 ?_
     refine ga_r (i := 9) #[true, true, true, true, true, true, true, true, true, true, false, false, false, false, false, false, false, false, false, false, false, false, false, false, false, false, false, false, false, false, false] rfl (by kernel_rfl) (by decide) rfl (r_pick0 rfl h226) ?_
     refine ga_r (i := 10) #[true, true, true, true, true, true, true, true, true, true, true, false, false, false, false, false, false, false, false, false, false, false, false, false, false, false, false, false, false, false, false] rfl (by kernel_rfl) (by decide) rfl (r_move) ?_
     refine ga_no (i := 11) #[true, true, true, true, true, true, true, true, true, true, true, true, false, false, false, false, false, false, false, false, false, false, false, false, false, false, false, false, false, false, false] rfl (by kernel_rfl) (fun _ _ _ _ h => h) rfl rfl rfl rfl rfl rfl ?_
     refine ga_no (i := 12) #[true, true, true, true, true, true, true, true, true, true, true, true, true, false, false, false, false, false, false, false, false, false, false, false, false, false, false, false, false, false, false] rfl (by kernel_rfl) (fun _ _ _ _ h => h) rfl rfl rfl rfl rfl rfl ?_
     refine ga_no (i := 13) #[true, true, true, true, true, true, true, true, true, true, true, true, true, true, false, false, false, false, false, false, false, false, false, false, false, false, false, false, false, false, false] rfl (by kernel_rfl) (fun _ _ _ _ h => h) rfl rfl rfl rfl rfl rfl ?_
     refine ga_no (i := 14) #[true, true, true, true, true, true, true, true, true, true, true, true, true, true, true, false, false, false, false, false, false, false, false, false, false, false, false, false, false, false, false] rfl (by kernel_rfl) (fun _ _ _ _ h => h) rfl rfl rfl rfl rfl rfl ?_
     refine ga_no (i := 15) #[true, true, true, true, true, true, true, true, true, true, true, true, true, true, true, true, false, false, false, false, false, false, false, false, false, false, false, false, false, false, false] rfl (by kernel_rfl) (fun _ _ _ _ h => h) rfl rfl rfl rfl rfl rfl ?_
     refine ga_no (i := 16) #[true, true, true, true, true, true, true, true, true, true, true, true, true, true, true, true, true, false, false, false, false, false, false, false, false, false, false, false, false, false, false] rfl (by kernel_rfl) (fun _ _ _ _ h => h) rfl rfl rfl rfl rfl rfl ?_
     refine ga_no (i := 17) #[true, true, true, true, true, true, true, true, true, true, true, true, true, true, true, true, true, true, false, false, false, false, false, false, false, false, false, false, false, false, false] rfl (by kernel_rfl) (fun _ _ _ _ h => h) rfl rfl rfl rfl rfl rfl ?_
     refine ga_no (i := 18) #[true, true, true, true, true, true, true, true, true, true, true, true, true, true, true, true, true, true, true, false, false, false, false, false, false, false, false, false, false, false, false] rfl (by kernel_rfl) (fun _ _ _ _ h => h) rfl rfl rfl rfl rfl rfl ?_
     refine ga_no (i := 19) #[true, true, true, true, true, true, true, true, true, true, true, true, true, true, true, true, true, true, true, true, false, false, false, false, false, false, false, false, false, false, false] rfl (by kernel_rfl) (fun _ _ _ _ h => h) rfl rfl rfl rfl rfl rfl ?_
     refine ga_no (i := 20) #[true, true, true, true, true, true, true, true, true, true, true, true, true, true, true, true, true, true, true, true, true, false, false, false, false, false, false, false, false, false, false] rfl (by kernel_rfl) (fun _ _ _ _ h => h) rfl rfl rfl rfl rfl rfl ?_
     refine ga_no (i := 21) #[true, true, true, true, true, true, true, true, true, true, true, true, true, true, true, true, true, true, true, true, true, true, false, false, false, false, false, false, false, false, false] rfl (by kernel_rfl) (fun _ _ _ _ h => h) rfl rfl rfl rfl rfl rfl ?_
     refine ga_no (i := 22) #[true, true, true, true, true, true, true, true, true, true, true, true, true, true, true, true, true, true, true, true, true, true, true, false, false, false, false, false, false, false, false] rfl (by kernel_rfl) (fun _ _ _ _ h => h) rfl rfl rfl rfl rfl rfl ?_
     refine ga_no (i := 23) #[true, true, true, true, true, true, true, true, true, true, true, true, true, true, true, true, true, true, true, true, true, true, true, true, false, false, false, false, false, false, false] rfl (by kernel_rfl) (fun _ _ _ _ h => h) rfl rfl rfl rfl rfl rfl ?_
     refine ga_no (i := 24) #[true, true, true, true, true, true, true, true, true, true, true, true, true, true, true, true, true, true, true, true, true, true, true, true, true, false, false, false, false, false, false] rfl (by kernel_rfl) (fun _ _ _ _ h => h) rfl rfl rfl rfl rfl rfl ?_
     refine ga_no (i := 25) #[true, true, true, true, true, true, true, true, true, true, true, true, true, true, true, true, true, true, true, true, true, true, true, true, true, true, false, false, false, false, false] rfl (by kernel_rfl) (fun _ _ _ _ h => h) rfl rfl rfl rfl rfl rfl ?_
     refine ga_no (i := 26) #[true, true, true, true, true, true, true, true, true, true, true, true, true, true, true, true, true, true, true, true, true, true, true, true, true, true, true, false, false, false, false] rfl (by kernel_rfl) (fun _ _ _ _ h => h) rfl rfl rfl rfl rfl rfl ?_
     refine ga_no (i := 27) #[true, true, true, true, true, true, true, true, true, true, true, true, true, true, true, true, true, true, true, true, true, true, true, true, true, true, true, true, false, false, false] rfl (by kernel_rfl) (fun _ _ _ _ h => h) rfl rfl rfl rfl rfl rfl ?_
     refine ga_no (i := 28) #[true, true, true, true, true, true, true, true, true, true, true, true, true, true, true, true, true, true, true, true, true, true, true, true, true, true, true, true, true, false, false] rfl (by kernel_rfl) (fun _ _ _ _ h => h) rfl rfl rfl rfl rfl rfl ?_
     refine ga_no (i := 29) #[true, true, true, true, true, true, true, true, true, true, true, true, true, true, true, true, true, true, true, true, true, true, true, true, true, true, true, true, true, true, false] rfl (by kernel_rfl) (fun _ _ _ _ h => h) rfl rfl rfl rfl rfl rfl ?_
     refine ga_r (i := 30) #[true, true, true, true, true, true, true, true, true, true, true, true, true, true, true, true, true, true, true, true, true, true, true, true, true, true, true, true, true, true, true] rfl (by kernel_rfl) (by decide) rfl (r_pick0 rfl rfl) ?_
     refine ga_done (by kernel_rfl) ?_
     refine d_then ?_
     refine c_cond0 rfl rfl ?_
     refine c_exit ?_
     refine d_exit_then ?_
     refine d_exit_then ?_
     refine d_exit_block ?_
     replace hm := nx_out (C := (fun e => m_ref03_Shared_j1 e = some r)) hm hnx2 hr2
     exact d_round i152 hm Nat.zero_lt_one ⟨rfl, trivial⟩ (fun W h => ((h.dropR (t := 100170) rfl).dropR (t := 100120) rfl).phi (fun W hφ => hφ))
   ·
    unfold m_ref03_Shared_j1 at hm
    refine d_flat [(9, .int .i64 i107)] ⟨rfl, trivial⟩ (fun u => ?_)
    refine d_sta ⟨w0, M, H, R, φ⟩ (fun _ h => h) ?_
    refine d_then ?_
    refine c_seq ?_
    refine c_region ?_
    refine g_v rfl r_move ?_
    refine g_v rfl r_assign ?_
    refine g_nil ?_
    refine d_then ?_
    refine c_ret ?_
    replace hm := Option.some.inj hm
    subst hm
    refine d_retC () Try.results108 ?_ trivial (fun W h => ok_pre (H1 := []) (R1 := []) h (fun W hφ => hφ)) (.inr rfl)
    refine res_tmp ?_
    refine res_nil ?_
    exact rfl
 ·
  replace hm := ite_t hm (of_decide_eq_true h15)
  refine g_no rfl rfl rfl rfl rfl h15 ?_
  refine g_v rfl (r_pick1 rfl h15) ?_
  refine g_nil ?_
  refine d_then ?_
  refine c_cond1 rfl rfl ?_
  refine c_seq ?_
  refine c_region ?_
  refine g_v rfl r_assign ?_
  refine g_nil ?_
  refine d_then ?_
  refine c_ret ?_
  refine d_ret_then ?_
  replace hm := Option.some.inj hm
  subst hm
  refine d_retC () Try.results108 ?_ trivial (fun W h => ok_pre (H1 := []) (R1 := [_, _]) h (fun W hφ => hφ)) (.inr rfl)
  refine res_tmp ?_
  refine res_nil ?_
  exact rfl

noncomputable def m_ref03_Depth (p0 : ByteArray) : Option Int :=
  (m_ref03_Labels p0).bind fun (z7 : (List ByteArray) × Int) =>
  if z7.2 ≠ 0 then
    some (-1)
  else
    some (z7.1.length : Int)
theorem c_ref03_Depth {w0 : World} {M : Nat → Prop} {H : List (Nat × Nat × Obj)} {R : List (Nat × Row)} {φ : World → Prop} (p0 : ByteArray) (r : Int) (hm : m_ref03_Depth p0 = some r) :
    Cn Try.prog 109 #[.string p0] ⟨w0, M, H, R, φ⟩ (fun x : Unit => .int .i64 r) (fun x => True) (fun x => ⟨w0, M, H, R, φ⟩) := by
 unfold m_ref03_Depth at hm
 refine cn_intro (fn := Try.f109) (N := 14) Try.func109 rfl Try.ntmps109 rfl ?_
 refine c_seq ?_
 refine c_region ?_
 refine g_v rfl r_assign ?_
 refine g_nil ?_
 refine d_then ?_
 refine c_seq ?_
 refine c_region ?_
 refine g_v rfl r_move ?_
 replace hm := bnd hm
 obtain ⟨⟨x1, x2⟩, hx3, hm⟩ := hm
 refine g_cn ⟨w0, M, _, _, φ⟩ (fun _ h => h) Try.call102 rfl rfl (c_ref03_Labels p0 _ hx3) (fun ⟨A4, c5⟩ hc5 => ?_)
 refine g_sta _ (fun W h => (ok_frontR (t := 2000) (t' := 100070) h rfl)) ?_
 refine g_v rfl r_move ?_
 refine g_v rfl (r_extract rfl rfl) ?_
 refine g_v rfl (r_extract rfl rfl) ?_
 refine g_v rfl r_assign ?_
 refine g_v rfl r_assign ?_
 refine g_nil ?_
 refine d_then ?_
 refine c_seq ?_
 refine c_seq ?_
 refine c_region ?_
 refine g_v rfl r_move ?_
 refine g_v rfl (r_neq rfl rfl) ?_
 refine g_nil ?_
 refine d_then ?_
 refine c_flat [(3, .slice A4 x1.length c5), (11, .bool (decide (x2 ≠ 0)))] ⟨rfl, rfl, trivial⟩ (fun u => ?_)
 refine c_sta ⟨w0, M, H, (100070, ⟨.slice A4 x1.length c5, 9, 1, x1.length, x1.flatMap (fun x : ByteArray => [Value.string x])⟩) :: R, φ⟩ (fun _ h => h) ?_
 refine c_cond rfl (fun h8 => ?_) (fun h8 => ?_)
 ·
  replace hm := ite_t hm (of_decide_eq_true h8)
  refine c_seq ?_
  refine c_region ?_
  refine g_v rfl r_assign ?_
  refine g_nil ?_
  refine d_then ?_
  refine c_ret ?_
  refine d_ret_then ?_
  replace hm := Option.some.inj hm
  subst hm
  refine d_retC () Try.results109 ?_ trivial (fun W h => ok_pre (H1 := []) (R1 := [_]) h (fun W hφ => hφ)) (.inr rfl)
  refine res_tmp ?_
  refine res_nil ?_
  exact rfl
 ·
  replace hm := ite_f hm (of_decide_eq_false h8)
  refine c_skip ?_
  refine d_then ?_
  refine c_seq ?_
  refine c_region ?_
  refine g_v rfl r_move ?_
  refine g_v rfl (r_lenL Try.underlying105 rfl) ?_
  refine g_v rfl r_assign ?_
  refine g_nil ?_
  refine d_then ?_
  refine c_ret ?_
  replace hm := Option.some.inj hm
  subst hm
  refine d_retC () Try.results109 ?_ trivial (fun W h => ok_pre (H1 := []) (R1 := [_]) h (fun W hφ => hφ)) (.inr rfl)
  refine res_tmp ?_
  refine res_nil ?_
  exact rfl

noncomputable def m_ref03_Same (p0 : ByteArray) (p1 : ByteArray) : Option Bool :=
  (m_ref03_Shared p0 p1).bind fun x1 =>
  if 0 ≤ x1 then
    (m_ref03_Depth p0).bind fun x4 =>
    if x1 = x4 then
      (m_ref03_Depth p1).bind fun x7 =>
      some (decide (x1 = x7))
    else
      some false
  else
    some false
theorem c_ref03_Same {w0 : World} {M : Nat → Prop} {H : List (Nat × Nat × Obj)} {R : List (Nat × Row)} {φ : World → Prop} (p0 : ByteArray) (p1 : ByteArray) (r : Bool) (hm : m_ref03_Same p0 p1 = some r) :
    Cn Try.prog 84 #[.string p0, .string p1] ⟨w0, M, H, R, φ⟩ (fun x : Unit => .bool r) (fun x => True) (fun x => ⟨w0, M, H, R, φ⟩) := by
 unfold m_ref03_Same at hm
 refine cn_intro (fn := Try.f84) (N := 23) Try.func84 rfl Try.ntmps84 rfl ?_
 refine c_seq ?_
 refine c_region ?_
 refine g_v rfl r_assign ?_
 refine g_nil ?_
 refine d_then ?_
 refine c_seq ?_
 refine c_region ?_
 refine g_v rfl r_move ?_
 refine g_v rfl r_move ?_
 replace hm := bnd hm
 obtain ⟨x1, hx2, hm⟩ := hm
 refine g_cn ⟨w0, M, _, _, φ⟩ (fun _ h => h) Try.call108 rfl rfl (c_ref03_Shared p0 p1 _ hx2) (fun _ _ => ?_)
 refine g_v rfl r_assign ?_
 refine g_nil ?_
 refine d_then ?_
 refine c_seq ?_
 refine c_region ?_
 refine g_v rfl r_move ?_
 refine g_v rfl (r_geq rfl rfl) ?_
 refine g_v rfl r_move ?_
 refine g_if rfl rfl rfl rfl rfl (fun h3 => ?_) (fun h3 => ?_)
 ·
  replace hm := ite_t hm (of_decide_eq_true h3)
  refine g_v rfl r_move ?_
  refine g_do rfl rfl rfl rfl rfl h3 ?_
  refine g_v rfl r_move ?_
  refine g_do rfl rfl rfl rfl rfl h3 ?_
  replace hm := bnd hm
  obtain ⟨x4, hx5, hm⟩ := hm
  refine g_cn ⟨w0, M, _, _, φ⟩ (fun _ h => h) Try.call109 rfl rfl (c_ref03_Depth p0 _ hx5) (fun _ _ => ?_)
  refine g_do rfl rfl rfl rfl rfl h3 ?_
  refine g_v rfl (r_eql rfl rfl) ?_
  refine g_v rfl (r_pick1 rfl h3) ?_
  refine g_v rfl r_move ?_
  refine g_if rfl rfl rfl rfl rfl (fun h6 => ?_) (fun h6 => ?_)
  ·
   replace hm := ite_t hm (of_decide_eq_true h6)
   refine g_v rfl r_move ?_
   refine g_do rfl rfl rfl rfl rfl h6 ?_
   refine g_v rfl r_move ?_
   refine g_do rfl rfl rfl rfl rfl h6 ?_
   replace hm := bnd hm
   obtain ⟨x7, hx8, hm⟩ := hm
   refine g_cn ⟨w0, M, _, _, φ⟩ (fun _ h => h) Try.call109 rfl rfl (c_ref03_Depth p1 _ hx8) (fun _ _ => ?_)
   refine g_do rfl rfl rfl rfl rfl h6 ?_
   refine g_v rfl (r_eql rfl rfl) ?_
   refine g_v rfl (r_pick1 rfl h6) ?_
   refine g_v rfl r_assign ?_
   refine g_nil ?_
   refine d_then ?_
   refine c_flat [(4, .bool (decide (x1 = x7)))] ⟨rfl, trivial⟩ (fun u => ?_)
   refine c_sta ⟨w0, M, H, R, φ⟩ (fun _ h => h) ?_
   refine c_ret ?_
   replace hm := Option.some.inj hm
   subst hm
   refine d_retC () Try.results84 ?_ trivial (fun W h => ok_pre (H1 := []) (R1 := []) h (fun W hφ => hφ)) (.inr rfl)
   refine res_tmp ?_
   refine res_nil ?_
   exact rfl
  ·
   replace hm := ite_f hm (of_decide_eq_false h6)
   refine g_no rfl rfl rfl rfl rfl h6 ?_
   refine g_no rfl rfl rfl rfl rfl h6 ?_
   refine g_no rfl rfl rfl rfl rfl h6 ?_
   refine g_v rfl (r_pick0 rfl h6) ?_
   refine g_v rfl r_assign ?_
   refine g_nil ?_
   refine d_then ?_
   refine c_flat [(4, .bool false)] ⟨rfl, trivial⟩ (fun u => ?_)
   refine c_sta ⟨w0, M, H, R, φ⟩ (fun _ h => h) ?_
   refine c_ret ?_
   replace hm := Option.some.inj hm
   subst hm
   refine d_retC () Try.results84 ?_ trivial (fun W h => ok_pre (H1 := []) (R1 := []) h (fun W hφ => hφ)) (.inr rfl)
   refine res_tmp ?_
   refine res_nil ?_
   exact rfl
 ·
  replace hm := ite_f hm (of_decide_eq_false h3)
  refine g_no rfl rfl rfl rfl rfl h3 ?_
  refine g_no rfl rfl rfl rfl rfl h3 ?_
  refine g_no rfl rfl rfl rfl rfl h3 ?_
  refine g_v rfl (r_pick0 rfl h3) ?_
  refine g_v rfl r_move ?_
  refine g_no rfl rfl rfl rfl rfl rfl ?_
  refine g_no rfl rfl rfl rfl rfl rfl ?_
  refine g_no rfl rfl rfl rfl rfl rfl ?_
  refine g_no rfl rfl rfl rfl rfl rfl ?_
  refine g_v rfl (r_pick0 rfl rfl) ?_
  refine g_v rfl r_assign ?_
  refine g_nil ?_
  refine d_then ?_
  refine c_flat [(4, .bool false)] ⟨rfl, trivial⟩ (fun u => ?_)
  refine c_sta ⟨w0, M, H, R, φ⟩ (fun _ h => h) ?_
  refine c_ret ?_
  replace hm := Option.some.inj hm
  subst hm
  refine d_retC () Try.results84 ?_ trivial (fun W h => ok_pre (H1 := []) (R1 := []) h (fun W hφ => hφ)) (.inr rfl)
  refine res_tmp ?_
  refine res_nil ?_
  exact rfl

noncomputable def m_ref05_head_j1 (p0 : Int) (b3 : Bool) : Option (Int × Int × Int × Bool) :=
  if b3 = true then
    some (0, 1, 0, true)
  else
    if p0 = 15 then
      some (2, 1, 0, true)
    else
      if p0 = 6 then
        some (0, 2, 20, true)
      else
        some (0, 0, 0, false)
noncomputable def m_ref05_head (p0 : Int) : Option (Int × Int × Int × Bool) :=
  if p0 = 2 then
    m_ref05_head_j1 p0 (decide (p0 = 2))
  else
    if p0 = 5 then
      m_ref05_head_j1 p0 (decide (p0 = 5))
    else
      m_ref05_head_j1 p0 (decide (p0 = 12))
theorem c_ref05_head {w0 : World} {M : Nat → Prop} {H : List (Nat × Nat × Obj)} {R : List (Nat × Row)} {φ : World → Prop} (p0 : Int) (r : Int × Int × Int × Bool) (hm : m_ref05_head p0 = some r) :
    Cn Try.prog 66 #[.int .u16 p0] ⟨w0, M, H, R, φ⟩ (fun x : Unit => .tuple #[.int .i64 r.1, .int .i64 r.2.1, .int .i64 r.2.2.1, .bool r.2.2.2]) (fun x => True) (fun x => ⟨w0, M, H, R, φ⟩) := by
 unfold m_ref05_head at hm
 refine cn_intro (fn := Try.f66) (N := 15) Try.func66 rfl Try.ntmps66 rfl ?_
 refine c_seq ?_
 refine c_region ?_
 refine g_v rfl r_assign ?_
 refine g_v rfl r_assign ?_
 refine g_v rfl r_assign ?_
 refine g_v rfl r_assign ?_
 refine g_nil ?_
 refine d_then ?_
 refine c_seq ?_
 refine c_seq ?_
 refine c_region ?_
 refine g_v rfl r_move ?_
 refine g_nil ?_
 refine d_then ?_
 refine c_block ?_
 refine c_seq ?_
 refine c_cut (ι := Bool) [6, 7] (fun b3 => [(7, .bool b3)]) (fun b3 => ⟨w0, M, H, R, φ⟩) (fun b3 => m_ref05_head_j1 p0 b3 = some r) ?_ (fun b3 u hm => ?_)
 ·
  refine c_seq ?_
  refine c_region ?_
  refine g_v rfl (r_eql rfl rfl) ?_
  refine g_v rfl r_assign ?_
  refine g_nil ?_
  refine d_then ?_
  refine c_cond rfl (fun h7 => ?_) (fun h7 => ?_)
  ·
   replace hm := ite_t hm (of_decide_eq_true h7)
   refine c_skip ?_
   exact d_round (decide (p0 = 2)) hm Nat.zero_lt_one ⟨rfl, rfl, trivial⟩ (fun W h => h.phi (fun W hφ => hφ))
  ·
   replace hm := ite_f hm (of_decide_eq_false h7)
   refine c_seq ?_
   refine c_region ?_
   refine g_v rfl (r_eql rfl rfl) ?_
   refine g_v rfl r_assign ?_
   refine g_nil ?_
   refine d_then ?_
   refine c_flat [(6, .int .u16 p0), (7, .bool (decide (p0 = 5)))] ⟨rfl, rfl, trivial⟩ (fun u => ?_)
   refine c_sta ⟨w0, M, H, R, φ⟩ (fun _ h => h) ?_
   refine c_cond rfl (fun h8 => ?_) (fun h8 => ?_)
   ·
    replace hm := ite_t hm (of_decide_eq_true h8)
    refine c_skip ?_
    exact d_round (decide (p0 = 5)) hm Nat.zero_lt_one ⟨rfl, rfl, trivial⟩ (fun W h => h.phi (fun W hφ => hφ))
   ·
    replace hm := ite_f hm (of_decide_eq_false h8)
    refine c_region ?_
    refine g_v rfl (r_eql rfl rfl) ?_
    refine g_v rfl r_assign ?_
    refine g_nil ?_
    exact d_round (decide (p0 = 12)) hm Nat.zero_lt_one ⟨rfl, rfl, trivial⟩ (fun W h => h.phi (fun W hφ => hφ))
 ·
  unfold m_ref05_head_j1 at hm
  refine d_flat [(6, .int .u16 p0), (7, .bool b3)] ⟨rfl, rfl, trivial⟩ (fun u => ?_)
  refine d_sta ⟨w0, M, H, R, φ⟩ (fun _ h => h) ?_
  refine d_then ?_
  refine c_cond rfl (fun h4 => ?_) (fun h4 => ?_)
  ·
   replace hm := ite_t hm h4
   refine c_seq ?_
   refine c_region ?_
   refine g_v rfl r_assign ?_
   refine g_v rfl r_assign ?_
   refine g_v rfl r_assign ?_
   refine g_v rfl r_assign ?_
   refine g_nil ?_
   refine d_then ?_
   refine c_ret ?_
   refine d_ret_block ?_
   refine d_ret_then ?_
   replace hm := Option.some.inj hm
   subst hm
   refine d_retC () Try.results66 ?_ trivial (fun W h => ok_pre (H1 := []) (R1 := []) h (fun W hφ => hφ)) (.inr rfl)
   refine res_tmp ?_
   refine res_tmp ?_
   refine res_tmp ?_
   refine res_tmp ?_
   refine res_nil ?_
   exact rfl
  ·
   replace hm := ite_f hm (bool_nt h4)
   refine c_seq ?_
   refine c_region ?_
   refine g_v rfl (r_eql rfl rfl) ?_
   refine g_v rfl r_assign ?_
   refine g_nil ?_
   refine d_then ?_
   refine c_cond rfl (fun h5 => ?_) (fun h5 => ?_)
   ·
    replace hm := ite_t hm (of_decide_eq_true h5)
    refine c_seq ?_
    refine c_region ?_
    refine g_v rfl r_assign ?_
    refine g_v rfl r_assign ?_
    refine g_v rfl r_assign ?_
    refine g_v rfl r_assign ?_
    refine g_nil ?_
    refine d_then ?_
    refine c_ret ?_
    refine d_ret_block ?_
    refine d_ret_then ?_
    replace hm := Option.some.inj hm
    subst hm
    refine d_retC () Try.results66 ?_ trivial (fun W h => ok_pre (H1 := []) (R1 := []) h (fun W hφ => hφ)) (.inr rfl)
    refine res_tmp ?_
    refine res_tmp ?_
    refine res_tmp ?_
    refine res_tmp ?_
    refine res_nil ?_
    exact rfl
   ·
    replace hm := ite_f hm (of_decide_eq_false h5)
    refine c_seq ?_
    refine c_region ?_
    refine g_v rfl (r_eql rfl rfl) ?_
    refine g_v rfl r_assign ?_
    refine g_nil ?_
    refine d_then ?_
    refine c_cond rfl (fun h6 => ?_) (fun h6 => ?_)
    ·
     replace hm := ite_t hm (of_decide_eq_true h6)
     refine c_seq ?_
     refine c_region ?_
     refine g_v rfl r_assign ?_
     refine g_v rfl r_assign ?_
     refine g_v rfl r_assign ?_
     refine g_v rfl r_assign ?_
     refine g_nil ?_
     refine d_then ?_
     refine c_ret ?_
     refine d_ret_block ?_
     refine d_ret_then ?_
     replace hm := Option.some.inj hm
     subst hm
     refine d_retC () Try.results66 ?_ trivial (fun W h => ok_pre (H1 := []) (R1 := []) h (fun W hφ => hφ)) (.inr rfl)
     refine res_tmp ?_
     refine res_tmp ?_
     refine res_tmp ?_
     refine res_tmp ?_
     refine res_nil ?_
     exact rfl
    ·
     replace hm := ite_f hm (of_decide_eq_false h6)
     refine c_skip ?_
     refine d_normal_block ?_
     refine d_then ?_
     refine c_seq ?_
     refine c_region ?_
     refine g_v rfl r_assign ?_
     refine g_v rfl r_assign ?_
     refine g_v rfl r_assign ?_
     refine g_v rfl r_assign ?_
     refine g_nil ?_
     refine d_then ?_
     refine c_ret ?_
     replace hm := Option.some.inj hm
     subst hm
     refine d_retC () Try.results66 ?_ trivial (fun W h => ok_pre (H1 := []) (R1 := []) h (fun W hφ => hφ)) (.inr rfl)
     refine res_tmp ?_
     refine res_tmp ?_
     refine res_tmp ?_
     refine res_tmp ?_
     refine res_nil ?_
     exact rfl

noncomputable def m_ref05_first_j1 (p0 : ByteArray) (i13 : Int) : Option (ByteArray × ByteArray × Bool) :=
  if (p0.size : Int) ≤ i13 then
    some ((⟨#[]⟩ : ByteArray), (⟨#[]⟩ : ByteArray), false)
  else
    (scutHi p0 (w64 (i13 + 1))).bind fun s15 =>
    (m_ref03_Check s15).bind fun x16 =>
    if x16 ≠ 0 then
      some ((⟨#[]⟩ : ByteArray), (⟨#[]⟩ : ByteArray), false)
    else
      (scutHi p0 (w64 (i13 + 1))).bind fun s23 =>
      (scutLo p0 (w64 (i13 + 1))).bind fun s24 =>
      some (s23, s24, true)
noncomputable def m_ref05_first_s2 (p0 : ByteArray) (i30 : Int) : Option (Int ⊕ Int) :=
  if i30 < (p0.size : Int) then
    (sat_ p0 i30).bind fun b38 =>
    if b38 ≠ 0 then
      (sat_ p0 i30).bind fun b40 =>
      some (.inl (w64 ((w64 (i30 + 1)) + (w64 b40))))
    else
      some (.inr i30)
  else
    some (.inr i30)
noncomputable def m_ref05_first (p0 : ByteArray) : Option (ByteArray × ByteArray × Bool) :=
  (loop (fun s => m_ref05_first_s2 p0 s) 0).bind fun e => m_ref05_first_j1 p0 e
theorem c_ref05_first {w0 : World} {M : Nat → Prop} {H : List (Nat × Nat × Obj)} {R : List (Nat × Row)} {φ : World → Prop} (p0 : ByteArray) (r : ByteArray × ByteArray × Bool) (hm : m_ref05_first p0 = some r) :
    Cn Try.prog 104 #[.string p0] ⟨w0, M, H, R, φ⟩ (fun x : Unit => .tuple #[.string r.1, .string r.2.1, .bool r.2.2]) (fun x => True) (fun x => ⟨w0, M, H, R, φ⟩) := by
 unfold m_ref05_first at hm
 refine cn_intro (fn := Try.f104) (N := 43) Try.func104 rfl Try.ntmps104 rfl ?_
 refine c_seq ?_
 refine c_region ?_
 refine g_v rfl r_assign ?_
 refine g_v rfl r_assign ?_
 refine g_v rfl r_assign ?_
 refine g_nil ?_
 refine d_then ?_
 refine c_seq ?_
 refine c_region ?_
 refine g_v rfl r_assign ?_
 refine g_nil ?_
 refine d_then ?_
 refine c_seq ?_
 refine c_cut (ι := Int) [0, 5] (fun i13 => [(5, .int .i64 i13)]) (fun i13 => ⟨w0, M, H, R, φ⟩) (fun i13 => m_ref05_first_j1 p0 i13 = some r) ?_ (fun i13 u hm => ?_)
 ·
  refine c_block ?_
  replace hm := bnd hm
  obtain ⟨out2, hl2, hr2⟩ := hm
  obtain ⟨n36', hl2⟩ := loop_lp hl2
  refine c_loopU (ι := Nat × Int) [0, 5] (fun ⟨n36, i30⟩ => [(5, .int .i64 i30)]) (fun ⟨n36, i30⟩ => ⟨w0, M, H, R, φ⟩) (fun ⟨n36, i30⟩ => Lp (fun s => m_ref05_first_s2 p0 s) n36 i30 out2) (fun ⟨n36, i30⟩ => n36) (n36', 0) hl2 ⟨rfl, rfl, trivial⟩ (fun W h => h.phi (fun W hφ => hφ)) (fun ⟨n36, i30⟩ u hlp => ?_)
  obtain ⟨o2, hm, hnx2⟩ := lp_step hlp
  clear hlp
  replace hm : m_ref05_first_s2 p0 i30 = some o2 := hm
  unfold m_ref05_first_s2 at hm
  refine c_flat [(0, .string p0), (5, .int .i64 i30)] ⟨rfl, rfl, trivial⟩ (fun u => ?_)
  refine c_sta ⟨w0, M, H, R, φ⟩ (fun _ h => h) ?_
  refine c_seq ?_
  refine c_seq ?_
  refine c_region ?_
  refine g_v rfl r_move ?_
  refine g_v rfl r_move ?_
  refine g_v rfl (r_len Try.underlying9 rfl) ?_
  refine g_v rfl (r_lss rfl rfl) ?_
  refine g_v rfl r_move ?_
  refine g_if rfl rfl rfl rfl rfl (fun h37 => ?_) (fun h37 => ?_)
  ·
   replace hm := ite_t hm (of_decide_eq_true h37)
   refine g_v rfl r_move ?_
   refine g_do rfl rfl rfl rfl rfl h37 ?_
   refine g_v rfl r_move ?_
   refine g_do rfl rfl rfl rfl rfl h37 ?_
   replace hm := bnd hm
   obtain ⟨b38, hb38, hm⟩ := hm
   refine g_v rfl (r_sat Try.underlying9 rfl rfl hb38) ?_
   refine g_do rfl rfl rfl rfl rfl h37 ?_
   refine g_v rfl (r_neq rfl rfl) ?_
   refine g_v rfl (r_pick1 rfl h37) ?_
   refine g_nil ?_
   refine d_then ?_
   refine c_flat [(0, .string p0), (5, .int .i64 i30), (15, .bool (decide (b38 ≠ 0)))] ⟨rfl, rfl, rfl, trivial⟩ (fun u => ?_)
   refine c_sta ⟨w0, M, H, R, φ⟩ (fun _ h => h) ?_
   refine c_cond rfl (fun h39 => ?_) (fun h39 => ?_)
   ·
    replace hm := ite_t hm (of_decide_eq_true h39)
    refine c_skip ?_
    refine d_then ?_
    refine c_block ?_
    refine c_region ?_
    refine g_v rfl r_move ?_
    refine g_v rfl (r_add rfl rfl rfl) ?_
    refine g_v rfl r_move ?_
    refine g_v rfl r_move ?_
    replace hm := bnd hm
    obtain ⟨b40, hb40, hm⟩ := hm
    refine g_v rfl (r_sat Try.underlying9 rfl rfl hb40) ?_
    refine g_v rfl (r_conv Try.underlying5 Try.underlying3 rfl rfl) ?_
    refine g_v rfl (r_add rfl rfl rfl) ?_
    refine g_v rfl r_assign ?_
    refine g_nil ?_
    refine d_normal_block ?_
    obtain ⟨n41, hn41, hlp⟩ := nx_inl hm hnx2
    exact d_round (n41, w64 ((w64 (i30 + 1)) + (w64 b40))) hlp hn41 ⟨rfl, rfl, trivial⟩ (fun W h => h.phi (fun W hφ => hφ))
   ·
    replace hm := ite_f hm (of_decide_eq_false h39)
    refine c_exit ?_
    refine d_exit_then ?_
    refine d_exit_then ?_
    refine d_exit_block ?_
    replace hm := nx_out (C := (fun e => m_ref05_first_j1 p0 e = some r)) hm hnx2 hr2
    exact d_round i30 hm Nat.zero_lt_one ⟨rfl, rfl, trivial⟩ (fun W h => h.phi (fun W hφ => hφ))
  ·
   replace hm := ite_f hm (of_decide_eq_false h37)
   refine g_no rfl rfl rfl rfl rfl h37 ?_
   refine g_no rfl rfl rfl rfl rfl h37 ?_
   refine g_no rfl rfl rfl rfl rfl h37 ?_
   refine g_v rfl (r_pick0 rfl h37) ?_
   refine g_nil ?_
   refine d_then ?_
   refine c_cond0 rfl rfl ?_
   refine c_exit ?_
   refine d_exit_then ?_
   refine d_exit_then ?_
   refine d_exit_block ?_
   replace hm := nx_out (C := (fun e => m_ref05_first_j1 p0 e = some r)) hm hnx2 hr2
   exact d_round i30 hm Nat.zero_lt_one ⟨rfl, rfl, trivial⟩ (fun W h => h.phi (fun W hφ => hφ))
 ·
  unfold m_ref05_first_j1 at hm
  refine d_flat [(0, .string p0), (5, .int .i64 i13)] ⟨rfl, rfl, trivial⟩ (fun u => ?_)
  refine d_sta ⟨w0, M, H, R, φ⟩ (fun _ h => h) ?_
  refine d_then ?_
  refine c_seq ?_
  refine c_seq ?_
  refine c_region ?_
  refine g_v rfl r_move ?_
  refine g_v rfl r_move ?_
  refine g_v rfl (r_len Try.underlying9 rfl) ?_
  refine g_v rfl (r_geq rfl rfl) ?_
  refine g_v rfl r_move ?_
  refine g_if rfl rfl rfl rfl rfl (fun h14 => ?_) (fun h14 => ?_)
  ·
   replace hm := ite_f hm (of_decide_eq_false h14)
   refine g_v rfl r_move ?_
   refine g_do rfl rfl rfl rfl rfl h14 ?_
   refine g_v rfl r_move ?_
   refine g_do rfl rfl rfl rfl rfl h14 ?_
   refine g_v rfl (r_add rfl rfl rfl) ?_
   refine g_do rfl rfl rfl rfl rfl h14 ?_
   replace hm := bnd hm
   obtain ⟨s15, hs15, hm⟩ := hm
   refine g_v rfl (r_scutHi Try.underlying9 rfl rfl hs15) ?_
   refine g_do rfl rfl rfl rfl rfl h14 ?_
   replace hm := bnd hm
   obtain ⟨x16, hx17, hm⟩ := hm
   refine g_cn ⟨w0, M, _, _, φ⟩ (fun _ h => h) Try.call81 rfl rfl (c_ref03_Check s15 _ hx17) (fun _ _ => ?_)
   refine g_do rfl rfl rfl rfl rfl h14 ?_
   refine g_v rfl (r_neq rfl rfl) ?_
   refine g_v rfl (r_pick0 rfl h14) ?_
   refine g_nil ?_
   refine d_then ?_
   refine c_flat [(0, .string p0), (5, .int .i64 i13), (34, .bool (decide (x16 ≠ 0)))] ⟨rfl, rfl, rfl, trivial⟩ (fun u => ?_)
   refine c_sta ⟨w0, M, H, R, φ⟩ (fun _ h => h) ?_
   refine c_cond rfl (fun h18 => ?_) (fun h18 => ?_)
   ·
    replace hm := ite_t hm (of_decide_eq_true h18)
    refine c_seq ?_
    refine c_region ?_
    refine g_v rfl r_assign ?_
    refine g_v rfl r_assign ?_
    refine g_v rfl r_assign ?_
    refine g_nil ?_
    refine d_then ?_
    refine c_ret ?_
    refine d_ret_then ?_
    replace hm := Option.some.inj hm
    subst hm
    refine d_retC () Try.results104 ?_ trivial (fun W h => ok_pre (H1 := []) (R1 := []) h (fun W hφ => hφ)) (.inr rfl)
    refine res_tmp ?_
    refine res_tmp ?_
    refine res_tmp ?_
    refine res_nil ?_
    exact rfl
   ·
    replace hm := ite_f hm (of_decide_eq_false h18)
    refine c_skip ?_
    refine d_then ?_
    refine c_seq ?_
    refine ga_start (n := 11) ⟨w0, M, H, R, φ⟩ [] #[false, false, false, false, false, false, false, false, false, false, false] (fun W h => h.phi (fun W hφ => hφ)) mixed rfl rfl ?_
    refine ga_v (i := 0) #[true, false, false, false, false, false, false, false, false, false, false] rfl (by kernel_rfl) (fun _ _ _ _ h => h) rfl (r_move) ?_
    refine ga_v (i := 1) #[true, true, false, false, false, false, false, false, false, false, false] rfl (by kernel_rfl) (fun _ _ _ _ h => h) rfl (r_move) ?_
    refine ga_v (i := 2) #[true, true, true, false, false, false, false, false, false, false, false] rfl (by kernel_rfl) (fun _ _ _ _ h => h) rfl (r_add rfl rfl rfl) ?_
    replace hm := bnd hm
    obtain ⟨s23, hs23, hm⟩ := hm
    refine ga_v (i := 3) #[true, true, true, true, false, false, false, false, false, false, false] rfl (by kernel_rfl) (fun _ _ _ _ h => h) rfl (r_scutHi Try.underlying9 rfl rfl hs23) ?_
    refine ga_v (i := 4) #[true, true, true, true, true, false, false, false, false, false, false] rfl (by kernel_rfl) (fun _ _ _ _ h => h) rfl (r_move) ?_
    refine ga_v (i := 5) #[true, true, true, true, true, true, false, false, false, false, false] rfl (by kernel_rfl) (fun _ _ _ _ h => h) rfl (r_move) ?_
    refine ga_v (i := 6) #[true, true, true, true, true, true, true, false, false, false, false] rfl (by kernel_rfl) (fun _ _ _ _ h => h) rfl (r_add rfl rfl rfl) ?_
    replace hm := bnd hm
    obtain ⟨s24, hs24, hm⟩ := hm
    refine ga_v (i := 7) #[true, true, true, true, true, true, true, true, false, false, false] rfl (by kernel_rfl) (fun _ _ _ _ h => h) rfl (r_scutLo Try.underlying9 rfl rfl hs24) ?_
    refine ga_r (i := 8) #[true, true, true, true, true, true, true, true, true, false, false] rfl (by kernel_rfl) (by decide) rfl (r_assign) ?_
    refine ga_r (i := 9) #[true, true, true, true, true, true, true, true, true, true, false] rfl (by kernel_rfl) (by decide) rfl (r_assign) ?_
    refine ga_r (i := 10) #[true, true, true, true, true, true, true, true, true, true, true] rfl (by kernel_rfl) (by decide) rfl (r_assign) ?_
    refine ga_done (by kernel_rfl) ?_
    refine d_then ?_
    refine c_flat [(2, .string s23), (3, .string s24), (4, .bool true)] ⟨rfl, rfl, rfl, trivial⟩ (fun u => ?_)
    refine c_sta ⟨w0, M, H, R, φ⟩ (fun _ h => h) ?_
    refine c_ret ?_
    replace hm := Option.some.inj hm
    subst hm
    refine d_retC () Try.results104 ?_ trivial (fun W h => ok_pre (H1 := []) (R1 := []) h (fun W hφ => hφ)) (.inr rfl)
    refine res_tmp ?_
    refine res_tmp ?_
    refine res_tmp ?_
    refine res_nil ?_
    exact rfl
  ·
   replace hm := ite_t hm (of_decide_eq_true h14)
   refine g_no rfl rfl rfl rfl rfl h14 ?_
   refine g_no rfl rfl rfl rfl rfl h14 ?_
   refine g_no rfl rfl rfl rfl rfl h14 ?_
   refine g_no rfl rfl rfl rfl rfl h14 ?_
   refine g_no rfl rfl rfl rfl rfl h14 ?_
   refine g_v rfl (r_pick1 rfl h14) ?_
   refine g_nil ?_
   refine d_then ?_
   refine c_cond1 rfl rfl ?_
   refine c_seq ?_
   refine c_region ?_
   refine g_v rfl r_assign ?_
   refine g_v rfl r_assign ?_
   refine g_v rfl r_assign ?_
   refine g_nil ?_
   refine d_then ?_
   refine c_flat [(2, .string (⟨#[]⟩ : ByteArray)), (3, .string (⟨#[]⟩ : ByteArray)), (4, .bool false)] ⟨rfl, rfl, rfl, trivial⟩ (fun u => ?_)
   refine c_sta ⟨w0, M, H, R, φ⟩ (fun _ h => h) ?_
   refine c_ret ?_
   refine d_ret_then ?_
   replace hm := Option.some.inj hm
   subst hm
   refine d_retC () Try.results104 ?_ trivial (fun W h => ok_pre (H1 := []) (R1 := []) h (fun W hφ => hφ)) (.inr rfl)
   refine res_tmp ?_
   refine res_tmp ?_
   refine res_tmp ?_
   refine res_nil ?_
   exact rfl

noncomputable def m_ref05_Names_j1 (p1 : ByteArray) (x1 : Int) (x3 : Int) (l99 : List ByteArray) (s102 : ByteArray) : Option (ByteArray × (List ByteArray) × ByteArray × Bool) :=
  (scutHi p1 x1).bind fun s103 =>
  some (s103, l99, s102, decide ((s102.size : Int) = x3))
noncomputable def m_ref05_Names_s2 (x2 : Int) (l120 : List ByteArray) (s123 : ByteArray) (i124 : Int) : Option (((List ByteArray) × ByteArray × Int) ⊕ (((List ByteArray) × ByteArray) ⊕ (ByteArray × (List ByteArray) × ByteArray × Bool))) :=
  if i124 < x2 then
    (m_ref05_first s123).bind fun (z147 : ByteArray × ByteArray × Bool) =>
    if z147.2.2 = true then
      (app 16 l120 [z147.1]).bind fun l150 =>
      some (.inl (l150, z147.2.1, w64 (i124 + 1)))
    else
      some (.inr (.inr ((⟨#[]⟩ : ByteArray), ([] : List ByteArray), (⟨#[]⟩ : ByteArray), false)))
  else
    some (.inr (.inl (l120, s123)))
noncomputable def m_ref05_Names (p0 : Int) (p1 : ByteArray) : Option (ByteArray × (List ByteArray) × ByteArray × Bool) :=
  (m_ref05_head p0).bind fun (z6 : Int × Int × Int × Bool) =>
  if z6.2.2.2 = true then
    if (p1.size : Int) < z6.1 then
      some ((⟨#[]⟩ : ByteArray), ([] : List ByteArray), (⟨#[]⟩ : ByteArray), false)
    else
      (scutLo p1 z6.1).bind fun s9 =>
      (loop (fun s => m_ref05_Names_s2 z6.2.1 s.1 s.2.1 s.2.2) (([] : List ByteArray), s9, 0)).bind fun e => Sum.elim (fun e => m_ref05_Names_j1 p1 z6.1 z6.2.2.1 e.1 e.2) (fun x => some x) e
  else
    some ((⟨#[]⟩ : ByteArray), ([] : List ByteArray), (⟨#[]⟩ : ByteArray), false)
theorem c_ref05_Names {w0 : World} {M : Nat → Prop} {H : List (Nat × Nat × Obj)} {R : List (Nat × Row)} {φ : World → Prop} (p0 : Int) (p1 : ByteArray) (r : ByteArray × (List ByteArray) × ByteArray × Bool) (hm : m_ref05_Names p0 p1 = some r) :
    Cn Try.prog 75 #[.int .u16 p0, .string p1] ⟨w0, M, H, R, φ⟩ (fun x : Option Addr × Nat => .tuple #[.string r.1, .slice x.1 r.2.1.length x.2, .string r.2.2.1, .bool r.2.2.2]) (fun x => r.2.1.length ≤ x.2) (fun x => ⟨w0, M, H, (2000, ⟨.slice x.1 r.2.1.length x.2, 9, 1, r.2.1.length, r.2.1.flatMap (fun x : ByteArray => [Value.string x])⟩) :: R, φ⟩) := by
 unfold m_ref05_Names at hm
 refine cn_intro (fn := Try.f75) (N := 63) Try.func75 rfl Try.ntmps75 rfl ?_
 refine c_seq ?_
 refine c_region ?_
 refine g_v rfl r_assign ?_
 refine g_v rfl r_assign ?_
 refine g_v rfl r_assign ?_
 refine g_v rfl r_assign ?_
 refine g_nil ?_
 refine d_then ?_
 refine c_seq ?_
 refine c_region ?_
 refine g_v rfl r_move ?_
 replace hm := bnd hm
 obtain ⟨⟨x1, x2, x3, x4⟩, hx5, hm⟩ := hm
 refine g_cn ⟨w0, M, _, _, φ⟩ (fun _ h => h) Try.call66 rfl rfl (c_ref05_head p0 _ hx5) (fun _ _ => ?_)
 refine g_v rfl r_move ?_
 refine g_v rfl (r_extract rfl rfl) ?_
 refine g_v rfl (r_extract rfl rfl) ?_
 refine g_v rfl (r_extract rfl rfl) ?_
 refine g_v rfl (r_extract rfl rfl) ?_
 refine g_v rfl r_assign ?_
 refine g_v rfl r_assign ?_
 refine g_v rfl r_assign ?_
 refine g_v rfl r_assign ?_
 refine g_nil ?_
 refine d_then ?_
 refine c_flat [(1, .string p1), (8, .int .i64 x1), (9, .int .i64 x2), (10, .int .i64 x3), (11, .bool x4)] ⟨rfl, rfl, rfl, rfl, rfl, trivial⟩ (fun u => ?_)
 refine c_sta ⟨w0, M, H, R, φ⟩ (fun _ h => h) ?_
 refine c_seq ?_
 refine c_seq ?_
 refine c_region ?_
 refine g_v rfl r_move ?_
 refine g_v rfl (r_not rfl) ?_
 refine g_v rfl r_move ?_
 refine g_if rfl rfl rfl rfl rfl (fun h7 => ?_) (fun h7 => ?_)
 ·
  have h7' : x4 = true := by revert h7; cases x4 <;> simp
  replace hm := ite_t hm h7'
  refine g_v rfl r_move ?_
  refine g_do rfl rfl rfl rfl rfl h7 ?_
  refine g_v rfl (r_len Try.underlying9 rfl) ?_
  refine g_do rfl rfl rfl rfl rfl h7 ?_
  refine g_v rfl r_move ?_
  refine g_do rfl rfl rfl rfl rfl h7 ?_
  refine g_v rfl (r_lss rfl rfl) ?_
  refine g_v rfl (r_pick0 rfl h7) ?_
  refine g_nil ?_
  refine d_then ?_
  refine c_cond rfl (fun h8 => ?_) (fun h8 => ?_)
  ·
   replace hm := ite_t hm (of_decide_eq_true h8)
   refine c_seq ?_
   refine c_region ?_
   refine g_v rfl r_assign ?_
   refine g_v rfl r_assign ?_
   refine g_v rfl r_assign ?_
   refine g_v rfl r_assign ?_
   refine g_nil ?_
   refine d_then ?_
   refine c_flat [(4, .string (⟨#[]⟩ : ByteArray)), (5, .slice none 0 0), (6, .string (⟨#[]⟩ : ByteArray)), (7, .bool false)] ⟨rfl, rfl, rfl, rfl, trivial⟩ (fun u => ?_)
   refine c_sta ⟨w0, M, H, R, φ⟩ (fun _ h => h) ?_
   refine c_ret ?_
   refine d_ret_then ?_
   replace hm := Option.some.inj hm
   subst hm
   refine d_sta _ (fun W h => nilR h 11 9 1) ?_
   refine d_sta _ (fun W h => ok_frontR (t := 11) (t' := 2000) h rfl) ?_
   refine d_retC (none, 0) Try.results75 ?_ (Nat.le_refl 0) (fun W h => h.phi (fun W hφ => hφ)) (.inr rfl)
   refine res_tmp ?_
   refine res_tmp ?_
   refine res_tmp ?_
   refine res_tmp ?_
   refine res_nil ?_
   exact rfl
  ·
   replace hm := ite_f hm (of_decide_eq_false h8)
   refine c_skip ?_
   refine d_then ?_
   refine c_seq ?_
   refine c_region ?_
   refine g_v rfl r_move ?_
   refine g_v rfl r_move ?_
   replace hm := bnd hm
   obtain ⟨s9, hs9, hm⟩ := hm
   refine g_v rfl (r_scutLo Try.underlying9 rfl rfl hs9) ?_
   refine g_v rfl r_assign ?_
   refine g_nil ?_
   refine d_then ?_
   refine c_flat [(1, .string p1), (8, .int .i64 x1), (9, .int .i64 x2), (10, .int .i64 x3), (12, .string s9)] ⟨rfl, rfl, rfl, rfl, rfl, trivial⟩ (fun u => ?_)
   refine c_sta ⟨w0, M, H, R, φ⟩ (fun _ h => h) ?_
   refine c_seq ?_
   refine c_region ?_
   refine g_v rfl r_assign ?_
   refine g_nil ?_
   refine d_then ?_
   refine c_seq ?_
   refine c_seq ?_
   refine c_region ?_
   refine g_v rfl r_assign ?_
   refine g_nil ?_
   refine d_then ?_
   refine c_sta _ (fun W h => nilR h 17 9 1) ?_
   refine c_cut (ι := (List ByteArray) × ByteArray × Option Addr × Nat) [1, 8, 10, 12, 13] (fun ⟨l99, s102, A100, c101⟩ => [(12, .string s102), (13, .slice A100 l99.length c101)]) (fun ⟨l99, s102, A100, c101⟩ => ⟨w0, M, H, (17, ⟨.slice A100 l99.length c101, 9, 1, l99.length, l99.flatMap (fun x : ByteArray => [Value.string x])⟩) :: R, φ⟩) (fun ⟨l99, s102, A100, c101⟩ => m_ref05_Names_j1 p1 x1 x3 l99 s102 = some r ∧ l99.length ≤ c101) ?_ (fun ⟨l99, s102, A100, c101⟩ u ⟨hm, hc101⟩ => ?_)
   ·
    refine c_block ?_
    replace hm := bnd hm
    obtain ⟨out2, hl2, hr2⟩ := hm
    obtain ⟨n141', hl2⟩ := loop_lp hl2
    refine c_loopU (ι := Nat × (List ByteArray) × ByteArray × Int × Option Addr × Nat) [1, 8, 9, 10, 12, 13, 14] (fun ⟨n141, l120, s123, i124, A121, c122⟩ => [(12, .string s123), (13, .slice A121 l120.length c122), (14, .int .i64 i124)]) (fun ⟨n141, l120, s123, i124, A121, c122⟩ => ⟨w0, M, H, (17, ⟨.slice A121 l120.length c122, 9, 1, l120.length, l120.flatMap (fun x : ByteArray => [Value.string x])⟩) :: R, φ⟩) (fun ⟨n141, l120, s123, i124, A121, c122⟩ => Lp (fun s => m_ref05_Names_s2 x2 s.1 s.2.1 s.2.2) n141 (l120, s123, i124) out2 ∧ l120.length ≤ c122) (fun ⟨n141, l120, s123, i124, A121, c122⟩ => n141) (n141', ([] : List ByteArray), s9, 0, none, 0) ⟨hl2, (Nat.le_refl 0)⟩ ⟨rfl, rfl, rfl, rfl, rfl, rfl, rfl, trivial⟩ (fun W h => h.phi (fun W hφ => hφ)) (fun ⟨n141, l120, s123, i124, A121, c122⟩ u ⟨hlp, hc122⟩ => ?_)
    obtain ⟨o2, hm, hnx2⟩ := lp_step hlp
    clear hlp
    replace hm : m_ref05_Names_s2 x2 l120 s123 i124 = some o2 := hm
    unfold m_ref05_Names_s2 at hm
    refine c_flat [(1, .string p1), (8, .int .i64 x1), (9, .int .i64 x2), (10, .int .i64 x3), (12, .string s123), (13, .slice A121 l120.length c122), (14, .int .i64 i124)] ⟨rfl, rfl, rfl, rfl, rfl, rfl, rfl, trivial⟩ (fun u => ?_)
    refine c_sta ⟨w0, M, H, (17, ⟨.slice A121 l120.length c122, 9, 1, l120.length, l120.flatMap (fun x : ByteArray => [Value.string x])⟩) :: R, φ⟩ (fun _ h => h) ?_
    refine c_seq ?_
    refine c_seq ?_
    refine c_region ?_
    refine g_v rfl r_move ?_
    refine g_v rfl r_move ?_
    refine g_v rfl (r_lss rfl rfl) ?_
    refine g_nil ?_
    refine d_then ?_
    refine c_cond rfl (fun h142 => ?_) (fun h142 => ?_)
    ·
     replace hm := ite_t hm (of_decide_eq_true h142)
     refine c_skip ?_
     refine d_then ?_
     refine c_seq ?_
     refine c_block ?_
     refine c_seq ?_
     refine c_region ?_
     refine g_v rfl r_move ?_
     replace hm := bnd hm
     obtain ⟨⟨x143, x144, x145⟩, hx146, hm⟩ := hm
     refine g_cn ⟨w0, M, _, _, φ⟩ (fun _ h => h) Try.call104 rfl rfl (c_ref05_first s123 _ hx146) (fun _ _ => ?_)
     refine g_v rfl r_move ?_
     refine g_v rfl (r_extract rfl rfl) ?_
     refine g_v rfl (r_extract rfl rfl) ?_
     refine g_v rfl (r_extract rfl rfl) ?_
     refine g_v rfl r_assign ?_
     refine g_v rfl r_assign ?_
     refine g_v rfl r_assign ?_
     refine g_nil ?_
     refine d_then ?_
     refine c_flat [(1, .string p1), (8, .int .i64 x1), (9, .int .i64 x2), (10, .int .i64 x3), (13, .slice A121 l120.length c122), (14, .int .i64 i124), (15, .string x143), (16, .string x144), (17, .bool x145)] ⟨rfl, rfl, rfl, rfl, rfl, rfl, rfl, rfl, rfl, trivial⟩ (fun u => ?_)
     refine c_sta ⟨w0, M, H, (17, ⟨.slice A121 l120.length c122, 9, 1, l120.length, l120.flatMap (fun x : ByteArray => [Value.string x])⟩) :: R, φ⟩ (fun _ h => h) ?_
     refine c_seq ?_
     refine c_seq ?_
     refine c_region ?_
     refine g_v rfl r_move ?_
     refine g_v rfl (r_not rfl) ?_
     refine g_nil ?_
     refine d_then ?_
     refine c_cond rfl (fun h148 => ?_) (fun h148 => ?_)
     ·
      have h148' : x145 = false := by revert h148; cases x145 <;> simp
      replace hm := ite_f hm (bool_nt h148')
      refine c_seq ?_
      refine c_region ?_
      refine g_v rfl r_assign ?_
      refine g_v rfl r_assign ?_
      refine g_v rfl r_assign ?_
      refine g_v rfl r_assign ?_
      refine g_nil ?_
      refine d_then ?_
      refine c_ret ?_
      refine d_ret_then ?_
      refine d_ret_block ?_
      refine d_ret_then ?_
      refine d_ret_then ?_
      refine d_ret_block ?_
      refine d_ret_then ?_
      refine d_ret_then ?_
      replace hm := nx_out (C := (fun e => Sum.elim (fun e => m_ref05_Names_j1 p1 x1 x3 e.1 e.2) (fun x => some x) e = some r)) hm hnx2 hr2
      replace hm : some ((⟨#[]⟩ : ByteArray), ([] : List ByteArray), (⟨#[]⟩ : ByteArray), false) = some r := hm
      replace hm := Option.some.inj hm
      subst hm
      refine d_sta _ (fun W h => nilR h 22 9 1) ?_
      refine d_sta _ (fun W h => ok_frontR (t := 22) (t' := 2000) h rfl) ?_
      refine d_retC (none, 0) Try.results75 ?_ (Nat.le_refl 0) (fun W h => (h.dropR (t := 17) rfl).phi (fun W hφ => hφ)) (.inr rfl)
      refine res_tmp ?_
      refine res_tmp ?_
      refine res_tmp ?_
      refine res_tmp ?_
      refine res_nil ?_
      exact rfl
     ·
      have h148' : x145 = true := by revert h148; cases x145 <;> simp
      replace hm := ite_t hm h148'
      refine c_skip ?_
      refine d_then ?_
      refine c_seq ?_
      refine c_region ?_
      refine g_v rfl r_move ?_
      refine g_v rfl r_move ?_
      refine g_e rfl (e_lit (tag := 100510) (l := [x143]) (enc := (fun x : ByteArray => [Value.string x])) (sz := 1) rfl Try.underlying105 (lit9_2 _) rfl rfl (fun _ => rfl)) (fun g149 _ => ?_)
      replace hm := bnd hm
      obtain ⟨l150, hl150, hm⟩ := hm
      refine g_e rfl (e_appR (enc := (fun x : ByteArray => [Value.string x])) (l := l120) (l1 := [x143]) (l2 := l150) (tag := 17) Try.underlying105 inf9_3 rfl (by decide) (by decide) (fun _ => rfl) (fun _ => rfl) rfl hc122 rfl rfl (fun W hS => rowCl (tag := 100510) rfl W hS) hl150) (fun ⟨A151, c152⟩ hc152 => ?_)
      refine g_v rfl r_assign ?_
      refine g_nil ?_
      refine d_then ?_
      refine c_region ?_
      refine g_v rfl r_move ?_
      refine g_v rfl r_assign ?_
      refine g_nil ?_
      refine d_normal_block ?_
      refine d_then ?_
      refine c_flat [(1, .string p1), (8, .int .i64 x1), (9, .int .i64 x2), (10, .int .i64 x3), (12, .string x144), (13, .slice A151 l150.length c152), (14, .int .i64 i124)] ⟨rfl, rfl, rfl, rfl, rfl, rfl, rfl, trivial⟩ (fun u => ?_)
      refine c_sta ⟨w0, M, H, (100510, ⟨.slice (some ⟨g149, 0, none⟩) [x143].length 1, 9, 1, [x143].length, [x143].flatMap (fun x : ByteArray => [Value.string x])⟩) :: (17, ⟨.slice A151 l150.length c152, 9, 1, l150.length, l150.flatMap (fun x : ByteArray => [Value.string x])⟩) :: R, φ⟩ (fun _ h => h) ?_
      refine c_region ?_
      refine g_v rfl r_move ?_
      refine g_v rfl (r_add rfl rfl rfl) ?_
      refine g_v rfl r_assign ?_
      refine g_nil ?_
      obtain ⟨n153, hn153, hlp⟩ := nx_inl hm hnx2
      exact d_round (n153, l150, x144, w64 (i124 + 1), A151, c152) ⟨hlp, hc152⟩ hn153 ⟨rfl, rfl, rfl, rfl, rfl, rfl, rfl, trivial⟩ (fun W h => (h.dropR (t := 100510) rfl).phi (fun W hφ => hφ))
    ·
     replace hm := ite_f hm (of_decide_eq_false h142)
     refine c_exit ?_
     refine d_exit_then ?_
     refine d_exit_then ?_
     refine d_exit_block ?_
     replace hm := nx_out (C := (fun e => Sum.elim (fun e => m_ref05_Names_j1 p1 x1 x3 e.1 e.2) (fun x => some x) e = some r)) hm hnx2 hr2
     exact d_round (l120, s123, A121, c122) ⟨hm, hc122⟩ Nat.zero_lt_one ⟨rfl, rfl, rfl, rfl, rfl, trivial⟩ (fun W h => h.phi (fun W hφ => hφ))
   ·
    unfold m_ref05_Names_j1 at hm
    refine d_flat [(1, .string p1), (8, .int .i64 x1), (10, .int .i64 x3), (12, .string s102), (13, .slice A100 l99.length c101)] ⟨rfl, rfl, rfl, rfl, rfl, trivial⟩ (fun u => ?_)
    refine d_sta ⟨w0, M, H, (17, ⟨.slice A100 l99.length c101, 9, 1, l99.length, l99.flatMap (fun x : ByteArray => [Value.string x])⟩) :: R, φ⟩ (fun _ h => h) ?_
    refine d_then ?_
    refine c_seq ?_
    refine c_region ?_
    refine g_v rfl r_move ?_
    refine g_v rfl r_move ?_
    replace hm := bnd hm
    obtain ⟨s103, hs103, hm⟩ := hm
    refine g_v rfl (r_scutHi Try.underlying9 rfl rfl hs103) ?_
    refine g_v rfl r_move ?_
    refine g_v rfl r_move ?_
    refine g_v rfl r_move ?_
    refine g_v rfl (r_len Try.underlying9 rfl) ?_
    refine g_v rfl r_move ?_
    refine g_v rfl (r_eql rfl rfl) ?_
    refine g_v rfl r_assign ?_
    refine g_v rfl r_assign ?_
    refine g_v rfl r_assign ?_
    refine g_v rfl r_assign ?_
    refine g_nil ?_
    refine d_then ?_
    refine c_flat [(4, .string s103), (5, .slice A100 l99.length c101), (6, .string s102), (7, .bool (decide ((s102.size : Int) = x3)))] ⟨rfl, rfl, rfl, rfl, trivial⟩ (fun u => ?_)
    refine c_sta ⟨w0, M, H, (17, ⟨.slice A100 l99.length c101, 9, 1, l99.length, l99.flatMap (fun x : ByteArray => [Value.string x])⟩) :: R, φ⟩ (fun _ h => h) ?_
    refine c_ret ?_
    replace hm := Option.some.inj hm
    subst hm
    refine d_sta _ (fun W h => ok_frontR (t := 17) (t' := 2000) h rfl) ?_
    refine d_retC (A100, c101) Try.results75 ?_ hc101 (fun W h => h.phi (fun W hφ => hφ)) (.inr rfl)
    refine res_tmp ?_
    refine res_tmp ?_
    refine res_tmp ?_
    refine res_tmp ?_
    refine res_nil ?_
    exact rfl
 ·
  have h7' : x4 = false := by revert h7; cases x4 <;> simp
  replace hm := ite_f hm (bool_nt h7')
  refine g_no rfl rfl rfl rfl rfl h7 ?_
  refine g_no rfl rfl rfl rfl rfl h7 ?_
  refine g_no rfl rfl rfl rfl rfl h7 ?_
  refine g_v rfl (r_pick1 rfl h7) ?_
  refine g_nil ?_
  refine d_then ?_
  refine c_cond1 rfl rfl ?_
  refine c_seq ?_
  refine c_region ?_
  refine g_v rfl r_assign ?_
  refine g_v rfl r_assign ?_
  refine g_v rfl r_assign ?_
  refine g_v rfl r_assign ?_
  refine g_nil ?_
  refine d_then ?_
  refine c_ret ?_
  refine d_ret_then ?_
  replace hm := Option.some.inj hm
  subst hm
  refine d_sta _ (fun W h => nilR h 23 9 1) ?_
  refine d_sta _ (fun W h => ok_frontR (t := 23) (t' := 2000) h rfl) ?_
  refine d_retC (none, 0) Try.results75 ?_ (Nat.le_refl 0) (fun W h => h.phi (fun W hφ => hφ)) (.inr rfl)
  refine res_tmp ?_
  refine res_tmp ?_
  refine res_tmp ?_
  refine res_tmp ?_
  refine res_nil ?_
  exact rfl

noncomputable def m_ref05_Right_j1 (p1 : ByteArray) (i28 : Int) : Option Bool :=
  if i28 = (p1.size : Int) then
    some (decide (0 < i28))
  else
    some false
noncomputable def m_ref05_Right_s2 (p1 : ByteArray) (i33 : Int) : Option (Int ⊕ Int) :=
  if i33 < (p1.size : Int) then
    (sat_ p1 i33).bind fun b39 =>
    some (.inl (w64 ((w64 (i33 + 1)) + (w64 b39))))
  else
    some (.inr i33)
noncomputable def m_ref05_Right (p0 : Int) (p1 : ByteArray) : Option Bool :=
  (m_ref05_head p0).bind fun (z6 : Int × Int × Int × Bool) =>
  if z6.2.2.2 = true then
    (m_ref05_Names p0 p1).bind fun (z16 : ByteArray × (List ByteArray) × ByteArray × Bool) =>
    some z16.2.2.2
  else
    if p0 = 1 then
      some (decide ((p1.size : Int) = 4))
    else
      if p0 = 28 then
        some (decide ((p1.size : Int) = 16))
      else
        if p0 = 16 then
          (loop (fun s => m_ref05_Right_s2 p1 s) 0).bind fun e => m_ref05_Right_j1 p1 e
        else
          some true
theorem c_ref05_Right {w0 : World} {M : Nat → Prop} {H : List (Nat × Nat × Obj)} {R : List (Nat × Row)} {φ : World → Prop} (p0 : Int) (p1 : ByteArray) (r : Bool) (hm : m_ref05_Right p0 p1 = some r) :
    Cn Try.prog 82 #[.int .u16 p0, .string p1] ⟨w0, M, H, R, φ⟩ (fun x : Unit => .bool r) (fun x => True) (fun x => ⟨w0, M, H, R, φ⟩) := by
 unfold m_ref05_Right at hm
 refine cn_intro (fn := Try.f82) (N := 63) Try.func82 rfl Try.ntmps82 rfl ?_
 refine c_seq ?_
 refine c_region ?_
 refine g_v rfl r_assign ?_
 refine g_nil ?_
 refine d_then ?_
 refine c_seq ?_
 refine c_region ?_
 refine g_v rfl r_move ?_
 replace hm := bnd hm
 obtain ⟨⟨x1, x2, x3, x4⟩, hx5, hm⟩ := hm
 refine g_cn ⟨w0, M, _, _, φ⟩ (fun _ h => h) Try.call66 rfl rfl (c_ref05_head p0 _ hx5) (fun _ _ => ?_)
 refine g_v rfl r_move ?_
 refine g_v rfl (r_extract rfl rfl) ?_
 refine g_v rfl (r_extract rfl rfl) ?_
 refine g_v rfl (r_extract rfl rfl) ?_
 refine g_v rfl (r_extract rfl rfl) ?_
 refine g_v rfl r_assign ?_
 refine g_v rfl r_assign ?_
 refine g_v rfl r_assign ?_
 refine g_v rfl r_assign ?_
 refine g_nil ?_
 refine d_then ?_
 refine c_flat [(0, .int .u16 p0), (1, .string p1), (8, .bool x4)] ⟨rfl, rfl, rfl, trivial⟩ (fun u => ?_)
 refine c_sta ⟨w0, M, H, R, φ⟩ (fun _ h => h) ?_
 refine c_seq ?_
 refine c_seq ?_
 refine c_region ?_
 refine g_v rfl r_move ?_
 refine g_nil ?_
 refine d_then ?_
 refine c_cond rfl (fun h7 => ?_) (fun h7 => ?_)
 ·
  replace hm := ite_t hm h7
  refine c_seq ?_
  refine c_region ?_
  refine g_v rfl r_move ?_
  refine g_v rfl r_move ?_
  replace hm := bnd hm
  obtain ⟨⟨x8, x9, x10, x11⟩, hx12, hm⟩ := hm
  refine g_cn ⟨w0, M, _, _, φ⟩ (fun _ h => h) Try.call75 rfl rfl (c_ref05_Names p0 p1 _ hx12) (fun ⟨A13, c14⟩ hc14 => ?_)
  refine g_sta _ (fun W h => (ok_frontR (t := 2000) (t' := 100250) h rfl)) ?_
  refine g_v rfl r_move ?_
  refine g_v rfl (r_extract rfl rfl) ?_
  refine g_v rfl (r_extract rfl rfl) ?_
  refine g_v rfl (r_extract rfl rfl) ?_
  refine g_v rfl (r_extract rfl rfl) ?_
  refine g_v rfl r_assign ?_
  refine g_v rfl r_assign ?_
  refine g_v rfl r_assign ?_
  refine g_v rfl r_assign ?_
  refine g_nil ?_
  refine d_then ?_
  refine c_flat [(12, .bool x11)] ⟨rfl, trivial⟩ (fun u => ?_)
  refine c_sta ⟨w0, M, H, (100250, ⟨.slice A13 x9.length c14, 9, 1, x9.length, x9.flatMap (fun x : ByteArray => [Value.string x])⟩) :: R, φ⟩ (fun _ h => h) ?_
  refine c_seq ?_
  refine c_region ?_
  refine g_v rfl r_move ?_
  refine g_v rfl r_assign ?_
  refine g_nil ?_
  refine d_then ?_
  refine c_ret ?_
  refine d_ret_then ?_
  replace hm := Option.some.inj hm
  subst hm
  refine d_retC () Try.results82 ?_ trivial (fun W h => ok_pre (H1 := []) (R1 := [_]) h (fun W hφ => hφ)) (.inr rfl)
  refine res_tmp ?_
  refine res_nil ?_
  exact rfl
 ·
  replace hm := ite_f hm (bool_nt h7)
  refine c_skip ?_
  refine d_then ?_
  refine c_seq ?_
  refine c_seq ?_
  refine c_region ?_
  refine g_v rfl r_move ?_
  refine g_nil ?_
  refine d_then ?_
  refine c_block ?_
  refine c_seq ?_
  refine c_region ?_
  refine g_v rfl (r_eql rfl rfl) ?_
  refine g_v rfl r_assign ?_
  refine g_nil ?_
  refine d_then ?_
  refine c_cond rfl (fun h17 => ?_) (fun h17 => ?_)
  ·
   replace hm := ite_t hm (of_decide_eq_true h17)
   refine c_seq ?_
   refine c_region ?_
   refine g_v rfl r_move ?_
   refine g_v rfl (r_len Try.underlying9 rfl) ?_
   refine g_v rfl (r_eql rfl rfl) ?_
   refine g_v rfl r_assign ?_
   refine g_nil ?_
   refine d_then ?_
   refine c_ret ?_
   refine d_ret_block ?_
   refine d_ret_then ?_
   replace hm := Option.some.inj hm
   subst hm
   refine d_retC () Try.results82 ?_ trivial (fun W h => ok_pre (H1 := []) (R1 := []) h (fun W hφ => hφ)) (.inr rfl)
   refine res_tmp ?_
   refine res_nil ?_
   exact rfl
  ·
   replace hm := ite_f hm (of_decide_eq_false h17)
   refine c_seq ?_
   refine c_region ?_
   refine g_v rfl (r_eql rfl rfl) ?_
   refine g_v rfl r_assign ?_
   refine g_nil ?_
   refine d_then ?_
   refine c_cond rfl (fun h18 => ?_) (fun h18 => ?_)
   ·
    replace hm := ite_t hm (of_decide_eq_true h18)
    refine c_seq ?_
    refine c_region ?_
    refine g_v rfl r_move ?_
    refine g_v rfl (r_len Try.underlying9 rfl) ?_
    refine g_v rfl (r_eql rfl rfl) ?_
    refine g_v rfl r_assign ?_
    refine g_nil ?_
    refine d_then ?_
    refine c_flat [(4, .bool (decide ((p1.size : Int) = 16)))] ⟨rfl, trivial⟩ (fun u => ?_)
    refine c_sta ⟨w0, M, H, R, φ⟩ (fun _ h => h) ?_
    refine c_ret ?_
    refine d_ret_block ?_
    refine d_ret_then ?_
    replace hm := Option.some.inj hm
    subst hm
    refine d_retC () Try.results82 ?_ trivial (fun W h => ok_pre (H1 := []) (R1 := []) h (fun W hφ => hφ)) (.inr rfl)
    refine res_tmp ?_
    refine res_nil ?_
    exact rfl
   ·
    replace hm := ite_f hm (of_decide_eq_false h18)
    refine c_seq ?_
    refine c_region ?_
    refine g_v rfl (r_eql rfl rfl) ?_
    refine g_v rfl r_assign ?_
    refine g_nil ?_
    refine d_then ?_
    refine c_cond rfl (fun h19 => ?_) (fun h19 => ?_)
    ·
     replace hm := ite_t hm (of_decide_eq_true h19)
     refine c_seq ?_
     refine c_region ?_
     refine g_v rfl r_assign ?_
     refine g_nil ?_
     refine d_then ?_
     refine c_flat [(1, .string p1), (13, .int .i64 0)] ⟨rfl, rfl, trivial⟩ (fun u => ?_)
     refine c_sta ⟨w0, M, H, R, φ⟩ (fun _ h => h) ?_
     refine c_seq ?_
     refine c_cut (ι := Int) [1, 13] (fun i28 => [(13, .int .i64 i28)]) (fun i28 => ⟨w0, M, H, R, φ⟩) (fun i28 => m_ref05_Right_j1 p1 i28 = some r) ?_ (fun i28 u hm => ?_)
     ·
      refine c_block ?_
      replace hm := bnd hm
      obtain ⟨out2, hl2, hr2⟩ := hm
      obtain ⟨n37', hl2⟩ := loop_lp hl2
      refine c_loopU (ι := Nat × Int) [1, 13] (fun ⟨n37, i33⟩ => [(13, .int .i64 i33)]) (fun ⟨n37, i33⟩ => ⟨w0, M, H, R, φ⟩) (fun ⟨n37, i33⟩ => Lp (fun s => m_ref05_Right_s2 p1 s) n37 i33 out2) (fun ⟨n37, i33⟩ => n37) (n37', 0) hl2 ⟨rfl, rfl, trivial⟩ (fun W h => h.phi (fun W hφ => hφ)) (fun ⟨n37, i33⟩ u hlp => ?_)
      obtain ⟨o2, hm, hnx2⟩ := lp_step hlp
      clear hlp
      replace hm : m_ref05_Right_s2 p1 i33 = some o2 := hm
      unfold m_ref05_Right_s2 at hm
      refine c_flat [(1, .string p1), (13, .int .i64 i33)] ⟨rfl, rfl, trivial⟩ (fun u => ?_)
      refine c_sta ⟨w0, M, H, R, φ⟩ (fun _ h => h) ?_
      refine c_seq ?_
      refine c_seq ?_
      refine c_region ?_
      refine g_v rfl r_move ?_
      refine g_v rfl r_move ?_
      refine g_v rfl (r_len Try.underlying9 rfl) ?_
      refine g_v rfl (r_lss rfl rfl) ?_
      refine g_nil ?_
      refine d_then ?_
      refine c_cond rfl (fun h38 => ?_) (fun h38 => ?_)
      ·
       replace hm := ite_t hm (of_decide_eq_true h38)
       refine c_skip ?_
       refine d_then ?_
       refine c_block ?_
       refine c_region ?_
       refine g_v rfl r_move ?_
       refine g_v rfl (r_add rfl rfl rfl) ?_
       refine g_v rfl r_move ?_
       refine g_v rfl r_move ?_
       replace hm := bnd hm
       obtain ⟨b39, hb39, hm⟩ := hm
       refine g_v rfl (r_sat Try.underlying9 rfl rfl hb39) ?_
       refine g_v rfl (r_conv Try.underlying5 Try.underlying3 rfl rfl) ?_
       refine g_v rfl (r_add rfl rfl rfl) ?_
       refine g_v rfl r_assign ?_
       refine g_nil ?_
       refine d_normal_block ?_
       obtain ⟨n40, hn40, hlp⟩ := nx_inl hm hnx2
       exact d_round (n40, w64 ((w64 (i33 + 1)) + (w64 b39))) hlp hn40 ⟨rfl, rfl, trivial⟩ (fun W h => h.phi (fun W hφ => hφ))
      ·
       replace hm := ite_f hm (of_decide_eq_false h38)
       refine c_exit ?_
       refine d_exit_then ?_
       refine d_exit_then ?_
       refine d_exit_block ?_
       replace hm := nx_out (C := (fun e => m_ref05_Right_j1 p1 e = some r)) hm hnx2 hr2
       exact d_round i33 hm Nat.zero_lt_one ⟨rfl, rfl, trivial⟩ (fun W h => h.phi (fun W hφ => hφ))
     ·
      unfold m_ref05_Right_j1 at hm
      refine d_flat [(1, .string p1), (13, .int .i64 i28)] ⟨rfl, rfl, trivial⟩ (fun u => ?_)
      refine d_sta ⟨w0, M, H, R, φ⟩ (fun _ h => h) ?_
      refine d_then ?_
      refine c_seq ?_
      refine c_region ?_
      refine g_v rfl r_move ?_
      refine g_v rfl r_move ?_
      refine g_v rfl (r_len Try.underlying9 rfl) ?_
      refine g_v rfl (r_eql rfl rfl) ?_
      refine g_v rfl r_move ?_
      refine g_if rfl rfl rfl rfl rfl (fun h29 => ?_) (fun h29 => ?_)
      ·
       replace hm := ite_t hm (of_decide_eq_true h29)
       refine g_v rfl r_move ?_
       refine g_do rfl rfl rfl rfl rfl h29 ?_
       refine g_v rfl (r_gtr rfl rfl) ?_
       refine g_v rfl (r_pick1 rfl h29) ?_
       refine g_v rfl r_assign ?_
       refine g_nil ?_
       refine d_then ?_
       refine c_flat [(4, .bool (decide (0 < i28)))] ⟨rfl, trivial⟩ (fun u => ?_)
       refine c_sta ⟨w0, M, H, R, φ⟩ (fun _ h => h) ?_
       refine c_ret ?_
       refine d_ret_block ?_
       refine d_ret_then ?_
       replace hm := Option.some.inj hm
       subst hm
       refine d_retC () Try.results82 ?_ trivial (fun W h => ok_pre (H1 := []) (R1 := []) h (fun W hφ => hφ)) (.inr rfl)
       refine res_tmp ?_
       refine res_nil ?_
       exact rfl
      ·
       replace hm := ite_f hm (of_decide_eq_false h29)
       refine g_no rfl rfl rfl rfl rfl h29 ?_
       refine g_v rfl (r_pick0 rfl h29) ?_
       refine g_v rfl r_assign ?_
       refine g_nil ?_
       refine d_then ?_
       refine c_ret ?_
       refine d_ret_block ?_
       refine d_ret_then ?_
       replace hm := Option.some.inj hm
       subst hm
       refine d_retC () Try.results82 ?_ trivial (fun W h => ok_pre (H1 := []) (R1 := []) h (fun W hφ => hφ)) (.inr rfl)
       refine res_tmp ?_
       refine res_nil ?_
       exact rfl
    ·
     replace hm := ite_f hm (of_decide_eq_false h19)
     refine c_skip ?_
     refine d_normal_block ?_
     refine d_then ?_
     refine c_seq ?_
     refine c_region ?_
     refine g_v rfl r_assign ?_
     refine g_nil ?_
     refine d_then ?_
     refine c_flat [(4, .bool true)] ⟨rfl, trivial⟩ (fun u => ?_)
     refine c_sta ⟨w0, M, H, R, φ⟩ (fun _ h => h) ?_
     refine c_ret ?_
     replace hm := Option.some.inj hm
     subst hm
     refine d_retC () Try.results82 ?_ trivial (fun W h => ok_pre (H1 := []) (R1 := []) h (fun W hφ => hφ)) (.inr rfl)
     refine res_tmp ?_
     refine res_nil ?_
     exact rfl

noncomputable def m_ref05_Check (p0 : GRR) : Option Int :=
  (m_ref03_Check p0.fName).bind fun x2 =>
  if x2 ≠ 0 then
    some x2
  else
    if 2000 < (p0.fData.size : Int) then
      some 11
    else
      (m_ref05_Right p0.fType p0.fData).bind fun x6 =>
      if x6 = true then
        some 0
      else
        some 10
theorem c_ref05_Check {w0 : World} {M : Nat → Prop} {H : List (Nat × Nat × Obj)} {R : List (Nat × Row)} {φ : World → Prop} (p0 : GRR) (r : Int) (hm : m_ref05_Check p0 = some r) :
    Cn Try.prog 32 #[.agg #[.string p0.fName, .int .u16 p0.fType, .int .u16 p0.fClass, .int .u32 p0.fTTL, .string p0.fData]] ⟨w0, M, H, R, φ⟩ (fun x : Unit => .int .i64 r) (fun x => True) (fun x => ⟨w0, M, H, R, φ⟩) := by
 unfold m_ref05_Check at hm
 refine cn_intro (fn := Try.f32) (N := 22) Try.func32 rfl Try.ntmps32 rfl ?_
 refine c_seq ?_
 refine c_region ?_
 refine g_e rfl (e_box 100010 rfl) (fun g1 _ => ?_)
 refine g_v rfl r_assign ?_
 refine g_nil ?_
 refine d_then ?_
 refine c_seq ?_
 refine c_region ?_
 refine g_v rfl (r_field (n := 0) Try.underlying27 rfl Try.sizeOf9 rfl rfl) ?_
 refine g_v rfl (r_load (tag := 100010) rfl rfl rfl Try.isAgg9) ?_
 replace hm := bnd hm
 obtain ⟨x2, hx3, hm⟩ := hm
 refine g_cn ⟨w0, M, _, _, φ⟩ (fun _ h => h) Try.call81 rfl rfl (c_ref03_Check p0.fName _ hx3) (fun _ _ => ?_)
 refine g_v rfl r_assign ?_
 refine g_nil ?_
 refine d_then ?_
 refine c_seq ?_
 refine c_seq ?_
 refine c_region ?_
 refine g_v rfl r_move ?_
 refine g_v rfl (r_neq rfl rfl) ?_
 refine g_nil ?_
 refine d_then ?_
 refine c_cond rfl (fun h4 => ?_) (fun h4 => ?_)
 ·
  replace hm := ite_t hm (of_decide_eq_true h4)
  refine c_seq ?_
  refine c_region ?_
  refine g_v rfl r_move ?_
  refine g_v rfl r_assign ?_
  refine g_nil ?_
  refine d_then ?_
  refine c_flat [(2, .int .i64 x2)] ⟨rfl, trivial⟩ (fun u => ?_)
  refine c_sta ⟨w0, M, (100010, g1, .cells #[.string p0.fName, .int .u16 p0.fType, .int .u16 p0.fClass, .int .u32 p0.fTTL, .string p0.fData] 27 (0, 0)) :: H, R, φ⟩ (fun _ h => h) ?_
  refine c_ret ?_
  refine d_ret_then ?_
  replace hm := Option.some.inj hm
  subst hm
  refine d_retC () Try.results32 ?_ trivial (fun W h => ok_pre (H1 := [_]) (R1 := []) h (fun W hφ => hφ)) (.inr rfl)
  refine res_tmp ?_
  refine res_nil ?_
  exact rfl
 ·
  replace hm := ite_f hm (of_decide_eq_false h4)
  refine c_skip ?_
  refine d_then ?_
  refine c_seq ?_
  refine c_seq ?_
  refine c_region ?_
  refine g_v rfl (r_field (n := 4) Try.underlying27 rfl Try.sizeOf9 rfl rfl) ?_
  refine g_v rfl (r_load (tag := 100010) rfl rfl rfl Try.isAgg9) ?_
  refine g_v rfl (r_len Try.underlying9 rfl) ?_
  refine g_v rfl (r_gtr rfl rfl) ?_
  refine g_nil ?_
  refine d_then ?_
  refine c_flat [(1, .pointer (some ⟨g1, 0, none⟩)), (14, .bool (decide (2000 < (p0.fData.size : Int))))] ⟨rfl, rfl, trivial⟩ (fun u => ?_)
  refine c_sta ⟨w0, M, (100010, g1, .cells #[.string p0.fName, .int .u16 p0.fType, .int .u16 p0.fClass, .int .u32 p0.fTTL, .string p0.fData] 27 (0, 0)) :: H, R, φ⟩ (fun _ h => h) ?_
  refine c_cond rfl (fun h5 => ?_) (fun h5 => ?_)
  ·
   replace hm := ite_t hm (of_decide_eq_true h5)
   refine c_seq ?_
   refine c_region ?_
   refine g_v rfl r_assign ?_
   refine g_nil ?_
   refine d_then ?_
   refine c_ret ?_
   refine d_ret_then ?_
   replace hm := Option.some.inj hm
   subst hm
   refine d_retC () Try.results32 ?_ trivial (fun W h => ok_pre (H1 := [_]) (R1 := []) h (fun W hφ => hφ)) (.inr rfl)
   refine res_tmp ?_
   refine res_nil ?_
   exact rfl
  ·
   replace hm := ite_f hm (of_decide_eq_false h5)
   refine c_skip ?_
   refine d_then ?_
   refine c_seq ?_
   refine c_region ?_
   refine g_v rfl (r_field (n := 1) Try.underlying27 rfl Try.sizeOf24 rfl rfl) ?_
   refine g_v rfl (r_load (tag := 100010) rfl rfl rfl Try.isAgg24) ?_
   refine g_v rfl (r_field (n := 4) Try.underlying27 rfl Try.sizeOf9 rfl rfl) ?_
   refine g_v rfl (r_load (tag := 100010) rfl rfl rfl Try.isAgg9) ?_
   replace hm := bnd hm
   obtain ⟨x6, hx7, hm⟩ := hm
   refine g_cn ⟨w0, M, _, _, φ⟩ (fun _ h => h) Try.call82 rfl rfl (c_ref05_Right p0.fType p0.fData _ hx7) (fun _ _ => ?_)
   refine g_v rfl r_assign ?_
   refine g_nil ?_
   refine d_then ?_
   refine c_seq ?_
   refine c_seq ?_
   refine c_region ?_
   refine g_v rfl r_move ?_
   refine g_v rfl (r_not rfl) ?_
   refine g_nil ?_
   refine d_then ?_
   refine c_cond rfl (fun h8 => ?_) (fun h8 => ?_)
   ·
    have h8' : x6 = false := by revert h8; cases x6 <;> simp
    replace hm := ite_f hm (bool_nt h8')
    refine c_seq ?_
    refine c_region ?_
    refine g_v rfl r_assign ?_
    refine g_nil ?_
    refine d_then ?_
    refine c_flat [(2, .int .i64 10)] ⟨rfl, trivial⟩ (fun u => ?_)
    refine c_sta ⟨w0, M, (100010, g1, .cells #[.string p0.fName, .int .u16 p0.fType, .int .u16 p0.fClass, .int .u32 p0.fTTL, .string p0.fData] 27 (0, 0)) :: H, R, φ⟩ (fun _ h => h) ?_
    refine c_ret ?_
    refine d_ret_then ?_
    replace hm := Option.some.inj hm
    subst hm
    refine d_retC () Try.results32 ?_ trivial (fun W h => ok_pre (H1 := [_]) (R1 := []) h (fun W hφ => hφ)) (.inr rfl)
    refine res_tmp ?_
    refine res_nil ?_
    exact rfl
   ·
    have h8' : x6 = true := by revert h8; cases x6 <;> simp
    replace hm := ite_t hm h8'
    refine c_skip ?_
    refine d_then ?_
    refine c_seq ?_
    refine c_region ?_
    refine g_v rfl r_assign ?_
    refine g_nil ?_
    refine d_then ?_
    refine c_flat [(2, .int .i64 0)] ⟨rfl, trivial⟩ (fun u => ?_)
    refine c_sta ⟨w0, M, (100010, g1, .cells #[.string p0.fName, .int .u16 p0.fType, .int .u16 p0.fClass, .int .u32 p0.fTTL, .string p0.fData] 27 (0, 0)) :: H, R, φ⟩ (fun _ h => h) ?_
    refine c_ret ?_
    replace hm := Option.some.inj hm
    subst hm
    refine d_retC () Try.results32 ?_ trivial (fun W h => ok_pre (H1 := [_]) (R1 := []) h (fun W hφ => hφ)) (.inr rfl)
    refine res_tmp ?_
    refine res_nil ?_
    exact rfl

noncomputable def m_ref05_Alike_j2  (b106 : Bool) : Option Bool :=
  some b106
noncomputable def m_ref05_Alike_s3 (x15 : List ByteArray) (x25 : List ByteArray) (b141 : Bool) (i142 : Int) : Option ((Bool × Int) ⊕ Bool) :=
  if i142 < (x15.length : Int) then
    (at_ x15 i142).bind fun x199 =>
    (at_ x25 i142).bind fun x203 =>
    (m_ref03_Same x199 x203).bind fun x207 =>
    if b141 = true then
      some (.inl (x207, w64 (i142 + 1)))
    else
      some (.inl (false, w64 (i142 + 1)))
  else
    some (.inr b141)
noncomputable def m_ref05_Alike_j1 (x15 : List ByteArray) (x25 : List ByteArray) (b34 : Bool) : Option Bool :=
  (loop (fun s => m_ref05_Alike_s3 x15 x25 s.1 s.2) (b34, 0)).bind fun e => m_ref05_Alike_j2 e
noncomputable def m_ref05_Alike (p0 : GRR) (p1 : GRR) : Option Bool :=
  (m_ref03_Same p0.fName p1.fName).bind fun x3 =>
  (m_ref05_Check p0).bind fun x5 =>
  if x5 ≠ 0 then
    some false
  else
    (m_ref05_Check p1).bind fun x8 =>
    if x8 ≠ 0 then
      some false
    else
      if x3 = true then
        if p0.fType ≠ p1.fType then
          some false
        else
          if p0.fClass ≠ p1.fClass then
            some false
          else
            (m_ref05_Names p0.fType p0.fData).bind fun (z22 : ByteArray × (List ByteArray) × ByteArray × Bool) =>
            if z22.2.2.2 = true then
              (m_ref05_Names p1.fType p1.fData).bind fun (z32 : ByteArray × (List ByteArray) × ByteArray × Bool) =>
              if z22.1 = z32.1 then
                m_ref05_Alike_j1 z22.2.1 z32.2.1 (decide (z22.2.2.1 = z32.2.2.1))
              else
                m_ref05_Alike_j1 z22.2.1 z32.2.1 false
            else
              some (decide (p0.fData = p1.fData))
      else
        some false
theorem c_ref05_Alike {w0 : World} {M : Nat → Prop} {H : List (Nat × Nat × Obj)} {R : List (Nat × Row)} {φ : World → Prop} (p0 : GRR) (p1 : GRR) (r : Bool) (hm : m_ref05_Alike p0 p1 = some r) :
    Cn Try.prog 35 #[.agg #[.string p0.fName, .int .u16 p0.fType, .int .u16 p0.fClass, .int .u32 p0.fTTL, .string p0.fData], .agg #[.string p1.fName, .int .u16 p1.fType, .int .u16 p1.fClass, .int .u32 p1.fTTL, .string p1.fData]] ⟨w0, M, H, R, φ⟩ (fun x : Unit => .bool r) (fun x => True) (fun x => ⟨w0, M, H, R, φ⟩) := by
 unfold m_ref05_Alike at hm
 refine cn_intro (fn := Try.f35) (N := 103) Try.func35 rfl Try.ntmps35 rfl ?_
 refine c_seq ?_
 refine c_region ?_
 refine g_e rfl (e_box 100020 rfl) (fun g1 _ => ?_)
 refine g_e rfl (e_box 100030 rfl) (fun g2 _ => ?_)
 refine g_v rfl r_assign ?_
 refine g_nil ?_
 refine d_then ?_
 refine c_seq ?_
 refine c_region ?_
 refine g_v rfl (r_field (n := 0) Try.underlying27 rfl Try.sizeOf9 rfl rfl) ?_
 refine g_v rfl (r_load (tag := 100020) rfl rfl rfl Try.isAgg9) ?_
 refine g_v rfl (r_field (n := 0) Try.underlying27 rfl Try.sizeOf9 rfl rfl) ?_
 refine g_v rfl (r_load (tag := 100030) rfl rfl rfl Try.isAgg9) ?_
 replace hm := bnd hm
 obtain ⟨x3, hx4, hm⟩ := hm
 refine g_cn ⟨w0, M, _, _, φ⟩ (fun _ h => h) Try.call84 rfl rfl (c_ref03_Same p0.fName p1.fName _ hx4) (fun _ _ => ?_)
 refine g_v rfl r_assign ?_
 refine g_nil ?_
 refine d_then ?_
 refine c_flat [(2, .pointer (some ⟨g1, 0, none⟩)), (3, .pointer (some ⟨g2, 0, none⟩)), (5, .bool x3)] ⟨rfl, rfl, rfl, trivial⟩ (fun u => ?_)
 refine c_sta ⟨w0, M, (100030, g2, .cells #[.string p1.fName, .int .u16 p1.fType, .int .u16 p1.fClass, .int .u32 p1.fTTL, .string p1.fData] 27 (0, 0)) :: (100020, g1, .cells #[.string p0.fName, .int .u16 p0.fType, .int .u16 p0.fClass, .int .u32 p0.fTTL, .string p0.fData] 27 (0, 0)) :: H, R, φ⟩ (fun _ h => h) ?_
 refine c_seq ?_
 refine c_seq ?_
 refine c_region ?_
 refine g_v rfl (r_loadA (tag := 100020) rfl rfl Try.isAgg27 Try.sizeOf27 rfl rfl) ?_
 replace hm := bnd hm
 obtain ⟨x5, hx6, hm⟩ := hm
 refine g_cn ⟨w0, M, _, _, φ⟩ (fun _ h => h) Try.call32 rfl rfl (c_ref05_Check p0 _ hx6) (fun _ _ => ?_)
 refine g_v rfl (r_neq rfl rfl) ?_
 refine g_v rfl r_move ?_
 refine g_if rfl rfl rfl rfl rfl (fun h7 => ?_) (fun h7 => ?_)
 ·
  replace hm := ite_f hm (of_decide_eq_false h7)
  refine g_v rfl (r_loadA (tag := 100030) rfl rfl Try.isAgg27 Try.sizeOf27 rfl rfl) ?_
  refine g_do rfl rfl rfl rfl rfl h7 ?_
  replace hm := bnd hm
  obtain ⟨x8, hx9, hm⟩ := hm
  refine g_cn ⟨w0, M, _, _, φ⟩ (fun _ h => h) Try.call32 rfl rfl (c_ref05_Check p1 _ hx9) (fun _ _ => ?_)
  refine g_do rfl rfl rfl rfl rfl h7 ?_
  refine g_v rfl (r_neq rfl rfl) ?_
  refine g_v rfl (r_pick0 rfl h7) ?_
  refine g_v rfl r_move ?_
  refine g_if rfl rfl rfl rfl rfl (fun h10 => ?_) (fun h10 => ?_)
  ·
   replace hm := ite_f hm (of_decide_eq_false h10)
   refine g_v rfl r_move ?_
   refine g_do rfl rfl rfl rfl rfl h10 ?_
   refine g_v rfl (r_not rfl) ?_
   refine g_v rfl (r_pick0 rfl h10) ?_
   refine g_v rfl r_move ?_
   refine g_if rfl rfl rfl rfl rfl (fun h11 => ?_) (fun h11 => ?_)
   ·
    have h11' : x3 = true := by revert h11; cases x3 <;> simp
    replace hm := ite_t hm h11'
    refine g_v rfl (r_field (n := 1) Try.underlying27 rfl Try.sizeOf24 rfl rfl) ?_
    refine g_do rfl rfl rfl rfl rfl h11 ?_
    refine g_v rfl (r_load (tag := 100020) rfl rfl rfl Try.isAgg24) ?_
    refine g_do rfl rfl rfl rfl rfl h11 ?_
    refine g_v rfl (r_field (n := 1) Try.underlying27 rfl Try.sizeOf24 rfl rfl) ?_
    refine g_do rfl rfl rfl rfl rfl h11 ?_
    refine g_v rfl (r_load (tag := 100030) rfl rfl rfl Try.isAgg24) ?_
    refine g_do rfl rfl rfl rfl rfl h11 ?_
    refine g_v rfl (r_neq rfl rfl) ?_
    refine g_v rfl (r_pick0 rfl h11) ?_
    refine g_v rfl r_move ?_
    refine g_if rfl rfl rfl rfl rfl (fun h12 => ?_) (fun h12 => ?_)
    ·
     replace hm := ite_f hm (of_decide_eq_false h12)
     refine g_v rfl (r_field (n := 2) Try.underlying27 rfl Try.sizeOf24 rfl rfl) ?_
     refine g_do rfl rfl rfl rfl rfl h12 ?_
     refine g_v rfl (r_load (tag := 100020) rfl rfl rfl Try.isAgg24) ?_
     refine g_do rfl rfl rfl rfl rfl h12 ?_
     refine g_v rfl (r_field (n := 2) Try.underlying27 rfl Try.sizeOf24 rfl rfl) ?_
     refine g_do rfl rfl rfl rfl rfl h12 ?_
     refine g_v rfl (r_load (tag := 100030) rfl rfl rfl Try.isAgg24) ?_
     refine g_do rfl rfl rfl rfl rfl h12 ?_
     refine g_v rfl (r_neq rfl rfl) ?_
     refine g_v rfl (r_pick0 rfl h12) ?_
     refine g_nil ?_
     refine d_then ?_
     refine c_flat [(2, .pointer (some ⟨g1, 0, none⟩)), (3, .pointer (some ⟨g2, 0, none⟩)), (47, .bool (decide (p0.fClass ≠ p1.fClass)))] ⟨rfl, rfl, rfl, trivial⟩ (fun u => ?_)
     refine c_sta ⟨w0, M, (100030, g2, .cells #[.string p1.fName, .int .u16 p1.fType, .int .u16 p1.fClass, .int .u32 p1.fTTL, .string p1.fData] 27 (0, 0)) :: (100020, g1, .cells #[.string p0.fName, .int .u16 p0.fType, .int .u16 p0.fClass, .int .u32 p0.fTTL, .string p0.fData] 27 (0, 0)) :: H, R, φ⟩ (fun _ h => h) ?_
     refine c_cond rfl (fun h13 => ?_) (fun h13 => ?_)
     ·
      replace hm := ite_t hm (of_decide_eq_true h13)
      refine c_seq ?_
      refine c_region ?_
      refine g_v rfl r_assign ?_
      refine g_nil ?_
      refine d_then ?_
      refine c_ret ?_
      refine d_ret_then ?_
      replace hm := Option.some.inj hm
      subst hm
      refine d_retC () Try.results35 ?_ trivial (fun W h => ok_pre (H1 := [_, _]) (R1 := []) h (fun W hφ => hφ)) (.inr rfl)
      refine res_tmp ?_
      refine res_nil ?_
      exact rfl
     ·
      replace hm := ite_f hm (of_decide_eq_false h13)
      refine c_skip ?_
      refine d_then ?_
      refine c_seq ?_
      refine c_region ?_
      refine g_v rfl (r_field (n := 1) Try.underlying27 rfl Try.sizeOf24 rfl rfl) ?_
      refine g_v rfl (r_load (tag := 100020) rfl rfl rfl Try.isAgg24) ?_
      refine g_v rfl (r_field (n := 4) Try.underlying27 rfl Try.sizeOf9 rfl rfl) ?_
      refine g_v rfl (r_load (tag := 100020) rfl rfl rfl Try.isAgg9) ?_
      replace hm := bnd hm
      obtain ⟨⟨x14, x15, x16, x17⟩, hx18, hm⟩ := hm
      refine g_cn ⟨w0, M, _, _, φ⟩ (fun _ h => h) Try.call75 rfl rfl (c_ref05_Names p0.fType p0.fData _ hx18) (fun ⟨A19, c20⟩ hc20 => ?_)
      refine g_sta _ (fun W h => (ok_frontR (t := 2000) (t' := 100530) h rfl)) ?_
      refine g_v rfl r_move ?_
      refine g_v rfl (r_extract rfl rfl) ?_
      refine g_v rfl (r_extract rfl rfl) ?_
      refine g_v rfl (r_extract rfl rfl) ?_
      refine g_v rfl (r_extract rfl rfl) ?_
      refine g_v rfl r_assign ?_
      refine g_v rfl r_assign ?_
      refine g_v rfl r_assign ?_
      refine g_v rfl r_assign ?_
      refine g_nil ?_
      refine d_then ?_
      refine c_flat [(2, .pointer (some ⟨g1, 0, none⟩)), (3, .pointer (some ⟨g2, 0, none⟩)), (6, .string x14), (7, .slice A19 x15.length c20), (8, .string x16), (9, .bool x17)] ⟨rfl, rfl, rfl, rfl, rfl, rfl, trivial⟩ (fun u => ?_)
      refine c_sta ⟨w0, M, (100030, g2, .cells #[.string p1.fName, .int .u16 p1.fType, .int .u16 p1.fClass, .int .u32 p1.fTTL, .string p1.fData] 27 (0, 0)) :: (100020, g1, .cells #[.string p0.fName, .int .u16 p0.fType, .int .u16 p0.fClass, .int .u32 p0.fTTL, .string p0.fData] 27 (0, 0)) :: H, (100530, ⟨.slice A19 x15.length c20, 9, 1, x15.length, x15.flatMap (fun x : ByteArray => [Value.string x])⟩) :: R, φ⟩ (fun _ h => h) ?_
      refine c_seq ?_
      refine c_seq ?_
      refine c_region ?_
      refine g_v rfl r_move ?_
      refine g_v rfl (r_not rfl) ?_
      refine g_nil ?_
      refine d_then ?_
      refine c_cond rfl (fun h23 => ?_) (fun h23 => ?_)
      ·
       have h23' : x17 = false := by revert h23; cases x17 <;> simp
       replace hm := ite_f hm (bool_nt h23')
       refine c_seq ?_
       refine c_region ?_
       refine g_v rfl (r_field (n := 4) Try.underlying27 rfl Try.sizeOf9 rfl rfl) ?_
       refine g_v rfl (r_load (tag := 100020) rfl rfl rfl Try.isAgg9) ?_
       refine g_v rfl (r_field (n := 4) Try.underlying27 rfl Try.sizeOf9 rfl rfl) ?_
       refine g_v rfl (r_load (tag := 100030) rfl rfl rfl Try.isAgg9) ?_
       refine g_v rfl (r_eqlT rfl rfl) ?_
       refine g_v rfl r_assign ?_
       refine g_nil ?_
       refine d_then ?_
       refine c_ret ?_
       refine d_ret_then ?_
       replace hm := Option.some.inj hm
       subst hm
       refine d_retC () Try.results35 ?_ trivial (fun W h => ok_pre (H1 := [_, _]) (R1 := [_]) h (fun W hφ => hφ)) (.inr rfl)
       refine res_tmp ?_
       refine res_nil ?_
       exact rfl
      ·
       have h23' : x17 = true := by revert h23; cases x17 <;> simp
       replace hm := ite_t hm h23'
       refine c_skip ?_
       refine d_then ?_
       refine c_seq ?_
       refine c_region ?_
       refine g_v rfl (r_field (n := 1) Try.underlying27 rfl Try.sizeOf24 rfl rfl) ?_
       refine g_v rfl (r_load (tag := 100030) rfl rfl rfl Try.isAgg24) ?_
       refine g_v rfl (r_field (n := 4) Try.underlying27 rfl Try.sizeOf9 rfl rfl) ?_
       refine g_v rfl (r_load (tag := 100030) rfl rfl rfl Try.isAgg9) ?_
       replace hm := bnd hm
       obtain ⟨⟨x24, x25, x26, x27⟩, hx28, hm⟩ := hm
       refine g_cn ⟨w0, M, _, _, φ⟩ (fun _ h => h) Try.call75 rfl rfl (c_ref05_Names p1.fType p1.fData _ hx28) (fun ⟨A29, c30⟩ hc30 => ?_)
       refine g_sta _ (fun W h => (ok_frontR (t := 2000) (t' := 100700) h rfl)) ?_
       refine g_v rfl r_move ?_
       refine g_v rfl (r_extract rfl rfl) ?_
       refine g_v rfl (r_extract rfl rfl) ?_
       refine g_v rfl (r_extract rfl rfl) ?_
       refine g_v rfl (r_extract rfl rfl) ?_
       refine g_v rfl r_assign ?_
       refine g_v rfl r_assign ?_
       refine g_v rfl r_assign ?_
       refine g_v rfl r_assign ?_
       refine g_nil ?_
       refine d_then ?_
       refine c_flat [(6, .string x14), (7, .slice A19 x15.length c20), (8, .string x16), (10, .string x24), (11, .slice A29 x25.length c30), (12, .string x26)] ⟨rfl, rfl, rfl, rfl, rfl, rfl, trivial⟩ (fun u => ?_)
       refine c_sta ⟨w0, M, (100030, g2, .cells #[.string p1.fName, .int .u16 p1.fType, .int .u16 p1.fClass, .int .u32 p1.fTTL, .string p1.fData] 27 (0, 0)) :: (100020, g1, .cells #[.string p0.fName, .int .u16 p0.fType, .int .u16 p0.fClass, .int .u32 p0.fTTL, .string p0.fData] 27 (0, 0)) :: H, (100700, ⟨.slice A29 x25.length c30, 9, 1, x25.length, x25.flatMap (fun x : ByteArray => [Value.string x])⟩) :: (100530, ⟨.slice A19 x15.length c20, 9, 1, x15.length, x15.flatMap (fun x : ByteArray => [Value.string x])⟩) :: R, φ⟩ (fun _ h => h) ?_
       refine c_seq ?_
       refine c_cut (ι := Bool) [7, 11, 14] (fun b34 => [(14, .bool b34)]) (fun b34 => ⟨w0, M, H, (100700, ⟨.slice A29 x25.length c30, 9, 1, x25.length, x25.flatMap (fun x : ByteArray => [Value.string x])⟩) :: (100530, ⟨.slice A19 x15.length c20, 9, 1, x15.length, x15.flatMap (fun x : ByteArray => [Value.string x])⟩) :: R, φ⟩) (fun b34 => m_ref05_Alike_j1 x15 x25 b34 = some r) ?_ (fun b34 u hm => ?_)
       ·
        refine c_region ?_
        refine g_v rfl r_move ?_
        refine g_v rfl r_move ?_
        refine g_v rfl (r_eqlT rfl rfl) ?_
        refine g_v rfl r_move ?_
        refine g_if rfl rfl rfl rfl rfl (fun h212 => ?_) (fun h212 => ?_)
        ·
         replace hm := ite_t hm (of_decide_eq_true h212)
         refine g_v rfl r_move ?_
         refine g_do rfl rfl rfl rfl rfl h212 ?_
         refine g_v rfl r_move ?_
         refine g_do rfl rfl rfl rfl rfl h212 ?_
         refine g_v rfl (r_eqlT rfl rfl) ?_
         refine g_v rfl (r_pick1 rfl h212) ?_
         refine g_v rfl r_assign ?_
         refine g_nil ?_
         exact d_round (decide (x16 = x26)) hm Nat.zero_lt_one ⟨rfl, rfl, rfl, trivial⟩ (fun W h => ((h.dropH (t := 100030) rfl).dropH (t := 100020) rfl).phi (fun W hφ => hφ))
        ·
         replace hm := ite_f hm (of_decide_eq_false h212)
         refine g_no rfl rfl rfl rfl rfl h212 ?_
         refine g_no rfl rfl rfl rfl rfl h212 ?_
         refine g_v rfl (r_pick0 rfl h212) ?_
         refine g_v rfl r_assign ?_
         refine g_nil ?_
         exact d_round false hm Nat.zero_lt_one ⟨rfl, rfl, rfl, trivial⟩ (fun W h => ((h.dropH (t := 100030) rfl).dropH (t := 100020) rfl).phi (fun W hφ => hφ))
       ·
        unfold m_ref05_Alike_j1 at hm
        refine d_flat [(7, .slice A19 x15.length c20), (11, .slice A29 x25.length c30), (14, .bool b34)] ⟨rfl, rfl, rfl, trivial⟩ (fun u => ?_)
        refine d_sta ⟨w0, M, H, (100700, ⟨.slice A29 x25.length c30, 9, 1, x25.length, x25.flatMap (fun x : ByteArray => [Value.string x])⟩) :: (100530, ⟨.slice A19 x15.length c20, 9, 1, x15.length, x15.flatMap (fun x : ByteArray => [Value.string x])⟩) :: R, φ⟩ (fun _ h => h) ?_
        refine d_then ?_
        refine c_seq ?_
        refine c_seq ?_
        refine c_region ?_
        refine g_v rfl r_assign ?_
        refine g_nil ?_
        refine d_then ?_
        refine c_cut (ι := Bool) [14] (fun b106 => [(14, .bool b106)]) (fun b106 => ⟨w0, M, H, R, φ⟩) (fun b106 => m_ref05_Alike_j2 b106 = some r) ?_ (fun b106 u hm => ?_)
        ·
         refine c_block ?_
         replace hm := bnd hm
         obtain ⟨out3, hl3, hr3⟩ := hm
         obtain ⟨n177', hl3⟩ := loop_lp hl3
         refine c_loopU (ι := Nat × Bool × Int) [7, 11, 14, 15] (fun ⟨n177, b141, i142⟩ => [(14, .bool b141), (15, .int .i64 i142)]) (fun ⟨n177, b141, i142⟩ => ⟨w0, M, H, (100700, ⟨.slice A29 x25.length c30, 9, 1, x25.length, x25.flatMap (fun x : ByteArray => [Value.string x])⟩) :: (100530, ⟨.slice A19 x15.length c20, 9, 1, x15.length, x15.flatMap (fun x : ByteArray => [Value.string x])⟩) :: R, φ⟩) (fun ⟨n177, b141, i142⟩ => Lp (fun s => m_ref05_Alike_s3 x15 x25 s.1 s.2) n177 (b141, i142) out3) (fun ⟨n177, b141, i142⟩ => n177) (n177', b34, 0) hl3 ⟨rfl, rfl, rfl, rfl, trivial⟩ (fun W h => h.phi (fun W hφ => hφ)) (fun ⟨n177, b141, i142⟩ u hlp => ?_)
         obtain ⟨o3, hm, hnx3⟩ := lp_step hlp
         clear hlp
         replace hm : m_ref05_Alike_s3 x15 x25 b141 i142 = some o3 := hm
         unfold m_ref05_Alike_s3 at hm
         refine c_flat [(7, .slice A19 x15.length c20), (11, .slice A29 x25.length c30), (14, .bool b141), (15, .int .i64 i142)] ⟨rfl, rfl, rfl, rfl, trivial⟩ (fun u => ?_)
         refine c_sta ⟨w0, M, H, (100700, ⟨.slice A29 x25.length c30, 9, 1, x25.length, x25.flatMap (fun x : ByteArray => [Value.string x])⟩) :: (100530, ⟨.slice A19 x15.length c20, 9, 1, x15.length, x15.flatMap (fun x : ByteArray => [Value.string x])⟩) :: R, φ⟩ (fun _ h => h) ?_
         refine c_seq ?_
         refine c_seq ?_
         refine c_region ?_
         refine g_v rfl r_move ?_
         refine g_v rfl r_move ?_
         refine g_v rfl (r_lenL Try.underlying105 rfl) ?_
         refine g_v rfl (r_lss rfl rfl) ?_
         refine g_nil ?_
         refine d_then ?_
         refine c_cond rfl (fun h178 => ?_) (fun h178 => ?_)
         ·
          replace hm := ite_t hm (of_decide_eq_true h178)
          refine c_skip ?_
          refine d_then ?_
          refine c_seq ?_
          refine c_block ?_
          refine c_seq ?_
          refine ga_start (n := 10) ⟨w0, M, H, (100700, ⟨.slice A29 x25.length c30, 9, 1, x25.length, x25.flatMap (fun x : ByteArray => [Value.string x])⟩) :: (100530, ⟨.slice A19 x15.length c20, 9, 1, x15.length, x15.flatMap (fun x : ByteArray => [Value.string x])⟩) :: R, φ⟩ [] #[false, false, false, false, false, false, false, false, false, false] (fun W h => h.phi (fun W hφ => hφ)) mixed rfl rfl ?_
          refine ga_v (i := 0) #[true, false, false, false, false, false, false, false, false, false] rfl (by kernel_rfl) (fun _ _ _ _ h => h) rfl (r_move) ?_
          refine ga_v (i := 1) #[true, true, false, false, false, false, false, false, false, false] rfl (by kernel_rfl) (fun _ _ _ _ h => h) rfl (r_move) ?_
          replace hm := bnd hm
          obtain ⟨x199, hx199, hm⟩ := hm
          refine ga_know _ (fun W hS => cl_at (p := (Sta.ok ⟨w0, M, H, (100700, ⟨.slice A29 x25.length c30, 9, 1, x25.length, x25.flatMap (fun x : ByteArray => [Value.string x])⟩) :: (100530, ⟨.slice A19 x15.length c20, 9, 1, x15.length, x15.flatMap (fun x : ByteArray => [Value.string x])⟩) :: R, φ⟩)) (sz := 1) (fun _ => rfl) (by decide) (hS.phi (fun W hφ => hφ)) (fun W hS => rowCl (S := ⟨w0, M, H, (100700, ⟨.slice A29 x25.length c30, 9, 1, x25.length, x25.flatMap (fun x : ByteArray => [Value.string x])⟩) :: (100530, ⟨.slice A19 x15.length c20, 9, 1, x15.length, x15.flatMap (fun x : ByteArray => [Value.string x])⟩) :: R, φ⟩) (tag := 100530) rfl W hS) hx199) ?_
          rintro ⟨ad200, hA202, f201⟩
          refine ga_v (i := 2) #[true, true, true, false, false, false, false, false, false, false] rfl (by kernel_rfl) (fun _ _ _ _ h => h) rfl (r_ix Try.underlying105 Try.sizeOf9 rfl hA202 rfl hx199) ?_
          refine ga_v (i := 3) #[true, true, true, true, false, false, false, false, false, false] rfl (by kernel_rfl) (fun _ _ _ _ h => h) rfl (r_ld rfl Try.isAgg9 (fun W hS => Cl.head (f201 W hS))) ?_
          refine ga_v (i := 4) #[true, true, true, true, true, false, false, false, false, false] rfl (by kernel_rfl) (fun _ _ _ _ h => h) rfl (r_move) ?_
          refine ga_r (i := 5) #[true, true, true, true, true, true, false, false, false, false] rfl (by kernel_rfl) (by decide) rfl (r_move) ?_
          replace hm := bnd hm
          obtain ⟨x203, hx203, hm⟩ := hm
          refine ga_know _ (fun W hS => cl_at (p := (Sta.ok ⟨w0, M, H, (100700, ⟨.slice A29 x25.length c30, 9, 1, x25.length, x25.flatMap (fun x : ByteArray => [Value.string x])⟩) :: (100530, ⟨.slice A19 x15.length c20, 9, 1, x15.length, x15.flatMap (fun x : ByteArray => [Value.string x])⟩) :: R, φ⟩)) (sz := 1) (fun _ => rfl) (by decide) hS (fun W hS => rowCl (S := ⟨w0, M, H, (100700, ⟨.slice A29 x25.length c30, 9, 1, x25.length, x25.flatMap (fun x : ByteArray => [Value.string x])⟩) :: (100530, ⟨.slice A19 x15.length c20, 9, 1, x15.length, x15.flatMap (fun x : ByteArray => [Value.string x])⟩) :: R, φ⟩) (tag := 100700) rfl W hS) hx203) ?_
          rintro ⟨ad204, hA206, f205⟩
          refine ga_r (i := 6) #[true, true, true, true, true, true, true, false, false, false] rfl (by kernel_rfl) (by decide) rfl (r_ix Try.underlying105 Try.sizeOf9 rfl hA206 rfl hx203) ?_
          refine ga_r (i := 7) #[true, true, true, true, true, true, true, true, false, false] rfl (by kernel_rfl) (by decide) rfl (r_ld rfl Try.isAgg9 (fun W hS => Cl.head (f205 W hS))) ?_
          replace hm := bnd hm
          obtain ⟨x207, hx208, hm⟩ := hm
          refine ga_cn (first := #[]) (i := 8) #[true, true, true, true, true, true, true, true, true, false] rfl (by kernel_rfl) (by decide)  ⟨w0, M, _, _, φ⟩ (fun _ h => h) Try.call84 rfl rfl rfl (c_ref03_Same x199 x203 _ hx208) (fun _ W _ h => h.phi (fun W hφ => hφ)) (fun _ _ => ?_)
          refine ga_r (i := 9) #[true, true, true, true, true, true, true, true, true, true] rfl (by kernel_rfl) (by decide) rfl (r_assign) ?_
          refine ga_done (by kernel_rfl) ?_
          refine d_then ?_
          refine c_flat [(7, .slice A19 x15.length c20), (11, .slice A29 x25.length c30), (14, .bool b141), (15, .int .i64 i142), (16, .bool x207)] ⟨rfl, rfl, rfl, rfl, rfl, trivial⟩ (fun u => ?_)
          refine c_sta ⟨w0, M, H, (100700, ⟨.slice A29 x25.length c30, 9, 1, x25.length, x25.flatMap (fun x : ByteArray => [Value.string x])⟩) :: (100530, ⟨.slice A19 x15.length c20, 9, 1, x15.length, x15.flatMap (fun x : ByteArray => [Value.string x])⟩) :: R, φ⟩ (fun _ h => h) ?_
          refine c_region ?_
          refine g_v rfl r_move ?_
          refine g_v rfl r_move ?_
          refine g_if rfl rfl rfl rfl rfl (fun h209 => ?_) (fun h209 => ?_)
          ·
           replace hm := ite_t hm h209
           refine g_v rfl r_move ?_
           refine g_v rfl (r_pick1 rfl h209) ?_
           refine g_v rfl r_assign ?_
           refine g_nil ?_
           refine d_normal_block ?_
           refine d_then ?_
           refine c_region ?_
           refine g_v rfl r_move ?_
           refine g_v rfl (r_add rfl rfl rfl) ?_
           refine g_v rfl r_assign ?_
           refine g_nil ?_
           obtain ⟨n210, hn210, hlp⟩ := nx_inl hm hnx3
           exact d_round (n210, x207, w64 (i142 + 1)) hlp hn210 ⟨rfl, rfl, rfl, rfl, trivial⟩ (fun W h => h.phi (fun W hφ => hφ))
          ·
           replace hm := ite_f hm (bool_nt h209)
           refine g_v rfl (r_pick0 rfl h209) ?_
           refine g_v rfl r_assign ?_
           refine g_nil ?_
           refine d_normal_block ?_
           refine d_then ?_
           refine c_region ?_
           refine g_v rfl r_move ?_
           refine g_v rfl (r_add rfl rfl rfl) ?_
           refine g_v rfl r_assign ?_
           refine g_nil ?_
           obtain ⟨n211, hn211, hlp⟩ := nx_inl hm hnx3
           exact d_round (n211, false, w64 (i142 + 1)) hlp hn211 ⟨rfl, rfl, rfl, rfl, trivial⟩ (fun W h => h.phi (fun W hφ => hφ))
         ·
          replace hm := ite_f hm (of_decide_eq_false h178)
          refine c_exit ?_
          refine d_exit_then ?_
          refine d_exit_then ?_
          refine d_exit_block ?_
          replace hm := nx_out (C := (fun e => m_ref05_Alike_j2 e = some r)) hm hnx3 hr3
          exact d_round b141 hm Nat.zero_lt_one ⟨rfl, trivial⟩ (fun W h => ((h.dropR (t := 100700) rfl).dropR (t := 100530) rfl).phi (fun W hφ => hφ))
        ·
         unfold m_ref05_Alike_j2 at hm
         refine d_flat [(14, .bool b106)] ⟨rfl, trivial⟩ (fun u => ?_)
         refine d_sta ⟨w0, M, H, R, φ⟩ (fun _ h => h) ?_
         refine d_then ?_
         refine c_seq ?_
         refine c_region ?_
         refine g_v rfl r_move ?_
         refine g_v rfl r_assign ?_
         refine g_nil ?_
         refine d_then ?_
         refine c_ret ?_
         replace hm := Option.some.inj hm
         subst hm
         refine d_retC () Try.results35 ?_ trivial (fun W h => ok_pre (H1 := []) (R1 := []) h (fun W hφ => hφ)) (.inr rfl)
         refine res_tmp ?_
         refine res_nil ?_
         exact rfl
    ·
     replace hm := ite_t hm (of_decide_eq_true h12)
     refine g_no rfl rfl rfl rfl rfl h12 ?_
     refine g_no rfl rfl rfl rfl rfl h12 ?_
     refine g_no rfl rfl rfl rfl rfl h12 ?_
     refine g_no rfl rfl rfl rfl rfl h12 ?_
     refine g_v rfl (r_pick1 rfl h12) ?_
     refine g_nil ?_
     refine d_then ?_
     refine c_flat [(2, .pointer (some ⟨g1, 0, none⟩)), (3, .pointer (some ⟨g2, 0, none⟩)), (47, .bool true)] ⟨rfl, rfl, rfl, trivial⟩ (fun u => ?_)
     refine c_sta ⟨w0, M, (100030, g2, .cells #[.string p1.fName, .int .u16 p1.fType, .int .u16 p1.fClass, .int .u32 p1.fTTL, .string p1.fData] 27 (0, 0)) :: (100020, g1, .cells #[.string p0.fName, .int .u16 p0.fType, .int .u16 p0.fClass, .int .u32 p0.fTTL, .string p0.fData] 27 (0, 0)) :: H, R, φ⟩ (fun _ h => h) ?_
     refine c_cond1 rfl rfl ?_
     refine c_seq ?_
     refine c_region ?_
     refine g_v rfl r_assign ?_
     refine g_nil ?_
     refine d_then ?_
     refine c_ret ?_
     refine d_ret_then ?_
     replace hm := Option.some.inj hm
     subst hm
     refine d_retC () Try.results35 ?_ trivial (fun W h => ok_pre (H1 := [_, _]) (R1 := []) h (fun W hφ => hφ)) (.inr rfl)
     refine res_tmp ?_
     refine res_nil ?_
     exact rfl
   ·
    have h11' : x3 = false := by revert h11; cases x3 <;> simp
    replace hm := ite_f hm (bool_nt h11')
    refine g_no rfl rfl rfl rfl rfl h11 ?_
    refine g_no rfl rfl rfl rfl rfl h11 ?_
    refine g_no rfl rfl rfl rfl rfl h11 ?_
    refine g_no rfl rfl rfl rfl rfl h11 ?_
    refine g_v rfl (r_pick1 rfl h11) ?_
    refine g_v rfl r_move ?_
    refine g_no rfl rfl rfl rfl rfl rfl ?_
    refine g_no rfl rfl rfl rfl rfl rfl ?_
    refine g_no rfl rfl rfl rfl rfl rfl ?_
    refine g_no rfl rfl rfl rfl rfl rfl ?_
    refine g_no rfl rfl rfl rfl rfl rfl ?_
    refine g_v rfl (r_pick1 rfl rfl) ?_
    refine g_nil ?_
    refine d_then ?_
    refine c_flat [(2, .pointer (some ⟨g1, 0, none⟩)), (3, .pointer (some ⟨g2, 0, none⟩)), (47, .bool true)] ⟨rfl, rfl, rfl, trivial⟩ (fun u => ?_)
    refine c_sta ⟨w0, M, (100030, g2, .cells #[.string p1.fName, .int .u16 p1.fType, .int .u16 p1.fClass, .int .u32 p1.fTTL, .string p1.fData] 27 (0, 0)) :: (100020, g1, .cells #[.string p0.fName, .int .u16 p0.fType, .int .u16 p0.fClass, .int .u32 p0.fTTL, .string p0.fData] 27 (0, 0)) :: H, R, φ⟩ (fun _ h => h) ?_
    refine c_cond1 rfl rfl ?_
    refine c_seq ?_
    refine c_region ?_
    refine g_v rfl r_assign ?_
    refine g_nil ?_
    refine d_then ?_
    refine c_ret ?_
    refine d_ret_then ?_
    replace hm := Option.some.inj hm
    subst hm
    refine d_retC () Try.results35 ?_ trivial (fun W h => ok_pre (H1 := [_, _]) (R1 := []) h (fun W hφ => hφ)) (.inr rfl)
    refine res_tmp ?_
    refine res_nil ?_
    exact rfl
  ·
   replace hm := ite_t hm (of_decide_eq_true h10)
   refine g_no rfl rfl rfl rfl rfl h10 ?_
   refine g_v rfl (r_pick1 rfl h10) ?_
   refine g_v rfl r_move ?_
   refine g_no rfl rfl rfl rfl rfl rfl ?_
   refine g_no rfl rfl rfl rfl rfl rfl ?_
   refine g_no rfl rfl rfl rfl rfl rfl ?_
   refine g_no rfl rfl rfl rfl rfl rfl ?_
   refine g_no rfl rfl rfl rfl rfl rfl ?_
   refine g_v rfl (r_pick1 rfl rfl) ?_
   refine g_v rfl r_move ?_
   refine g_no rfl rfl rfl rfl rfl rfl ?_
   refine g_no rfl rfl rfl rfl rfl rfl ?_
   refine g_no rfl rfl rfl rfl rfl rfl ?_
   refine g_no rfl rfl rfl rfl rfl rfl ?_
   refine g_no rfl rfl rfl rfl rfl rfl ?_
   refine g_v rfl (r_pick1 rfl rfl) ?_
   refine g_nil ?_
   refine d_then ?_
   refine c_flat [(2, .pointer (some ⟨g1, 0, none⟩)), (3, .pointer (some ⟨g2, 0, none⟩)), (47, .bool true)] ⟨rfl, rfl, rfl, trivial⟩ (fun u => ?_)
   refine c_sta ⟨w0, M, (100030, g2, .cells #[.string p1.fName, .int .u16 p1.fType, .int .u16 p1.fClass, .int .u32 p1.fTTL, .string p1.fData] 27 (0, 0)) :: (100020, g1, .cells #[.string p0.fName, .int .u16 p0.fType, .int .u16 p0.fClass, .int .u32 p0.fTTL, .string p0.fData] 27 (0, 0)) :: H, R, φ⟩ (fun _ h => h) ?_
   refine c_cond1 rfl rfl ?_
   refine c_seq ?_
   refine c_region ?_
   refine g_v rfl r_assign ?_
   refine g_nil ?_
   refine d_then ?_
   refine c_ret ?_
   refine d_ret_then ?_
   replace hm := Option.some.inj hm
   subst hm
   refine d_retC () Try.results35 ?_ trivial (fun W h => ok_pre (H1 := [_, _]) (R1 := []) h (fun W hφ => hφ)) (.inr rfl)
   refine res_tmp ?_
   refine res_nil ?_
   exact rfl
 ·
  replace hm := ite_t hm (of_decide_eq_true h7)
  refine g_no rfl rfl rfl rfl rfl h7 ?_
  refine g_no rfl rfl rfl rfl rfl h7 ?_
  refine g_v rfl (r_pick1 rfl h7) ?_
  refine g_v rfl r_move ?_
  refine g_no rfl rfl rfl rfl rfl rfl ?_
  refine g_no rfl rfl rfl rfl rfl rfl ?_
  refine g_v rfl (r_pick1 rfl rfl) ?_
  refine g_v rfl r_move ?_
  refine g_no rfl rfl rfl rfl rfl rfl ?_
  refine g_no rfl rfl rfl rfl rfl rfl ?_
  refine g_no rfl rfl rfl rfl rfl rfl ?_
  refine g_no rfl rfl rfl rfl rfl rfl ?_
  refine g_no rfl rfl rfl rfl rfl rfl ?_
  refine g_v rfl (r_pick1 rfl rfl) ?_
  refine g_v rfl r_move ?_
  refine g_no rfl rfl rfl rfl rfl rfl ?_
  refine g_no rfl rfl rfl rfl rfl rfl ?_
  refine g_no rfl rfl rfl rfl rfl rfl ?_
  refine g_no rfl rfl rfl rfl rfl rfl ?_
  refine g_no rfl rfl rfl rfl rfl rfl ?_
  refine g_v rfl (r_pick1 rfl rfl) ?_
  refine g_nil ?_
  refine d_then ?_
  refine c_flat [(2, .pointer (some ⟨g1, 0, none⟩)), (3, .pointer (some ⟨g2, 0, none⟩)), (47, .bool true)] ⟨rfl, rfl, rfl, trivial⟩ (fun u => ?_)
  refine c_sta ⟨w0, M, (100030, g2, .cells #[.string p1.fName, .int .u16 p1.fType, .int .u16 p1.fClass, .int .u32 p1.fTTL, .string p1.fData] 27 (0, 0)) :: (100020, g1, .cells #[.string p0.fName, .int .u16 p0.fType, .int .u16 p0.fClass, .int .u32 p0.fTTL, .string p0.fData] 27 (0, 0)) :: H, R, φ⟩ (fun _ h => h) ?_
  refine c_cond1 rfl rfl ?_
  refine c_seq ?_
  refine c_region ?_
  refine g_v rfl r_assign ?_
  refine g_nil ?_
  refine d_then ?_
  refine c_ret ?_
  refine d_ret_then ?_
  replace hm := Option.some.inj hm
  subst hm
  refine d_retC () Try.results35 ?_ trivial (fun W h => ok_pre (H1 := [_, _]) (R1 := []) h (fun W hφ => hφ)) (.inr rfl)
  refine res_tmp ?_
  refine res_nil ?_
  exact rfl

end Go.Proofs.Ytpdhdpefdgndeaa
