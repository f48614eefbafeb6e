import Derived.Test.YtpdhdpefdgndeaaWRWB
set_option maxRecDepth 100000
set_option maxHeartbeats 4000000
set_option linter.unusedVariables false
set_option linter.unusedSimpArgs false
namespace Go.Proofs.Ytpdhdpefdgndeaa
open Go.RowKit Go.Proofs.YtpdhdpefdgndeaaW.PrintLast
noncomputable def m_law05_RecordWrites_j1 (x1 : Bool) (l776 : List Gref04_Place) (l779 : List Int) (l782 : List (ByteArray × Int)) (s785 : ByteArray) : Option Bool :=
  if x1 = true then
    (m_pack_Packer_Bytes (⟨l779, l782⟩ : Gpack_Packer)).bind fun x793 =>
    some (decide (x793 = s785))
  else
    some false
noncomputable def m_law05_RecordWrites_j3 (i935 : Int) (l1179 : List Gref04_Place) (l1182 : List Int) (l1185 : List (ByteArray × Int)) (b1188 : Bool) (s1189 : ByteArray) : Option (((List Gref04_Place) × (List Int) × (List (ByteArray × Int)) × Int × ByteArray) ⊕ (((List Gref04_Place) × (List Int) × (List (ByteArray × Int)) × ByteArray) ⊕ Bool)) :=
  if b1188 = true then
    some (.inr (.inr false))
  else
    some (.inl (l1179, l1182, l1185, w64 (i935 + 1), s1189))
noncomputable def m_law05_RecordWrites_s2 (p1 : List GRR) (l926 : List Gref04_Place) (l929 : List Int) (l932 : List (ByteArray × Int)) (i935 : Int) (s936 : ByteArray) : Option (((List Gref04_Place) × (List Int) × (List (ByteArray × Int)) × Int × ByteArray) ⊕ (((List Gref04_Place) × (List Int) × (List (ByteArray × Int)) × ByteArray) ⊕ Bool)) :=
  if i935 < (p1.length : Int) then
    if i935 < 20 then
      (at_ p1 i935).bind fun x1072 =>
      (m_law05_small x1072).bind fun x1076 =>
      (m_record_Put x1076 (⟨l929, l932⟩ : Gpack_Packer)).bind fun (z1241 : Int × Gpack_Packer) =>
      (m_ref05_Put x1076 (⟨s936, l926⟩ : Gref04_Packer)).bind fun (z1248 : Int × Gref04_Packer) =>
      if z1241.1 ≠ z1248.1 then
        m_law05_RecordWrites_j3 i935 z1248.2.fL z1241.2.fb z1241.2.fplaces true z1248.2.fB
      else
        (m_pack_Packer_Len z1241.2).bind fun x1250 =>
        m_law05_RecordWrites_j3 i935 z1248.2.fL z1241.2.fb z1241.2.fplaces (decide (x1250 ≠ (z1248.2.fB.size : Int))) z1248.2.fB
    else
      some (.inr (.inl (l926, l929, l932, s936)))
  else
    some (.inr (.inl (l926, l929, l932, s936)))
noncomputable def m_law05_RecordWrites (p0 : ByteArray) (p1 : List GRR) : Option Bool :=
  (m_law05_awake).bind fun x1 =>
  (m_law05_short p0 50).bind fun x3 =>
  (m_pack_New).bind fun x5 =>
  (m_pack_Packer_Raw x3 x5).bind fun x15 =>
  (loop (fun s => m_law05_RecordWrites_s2 p1 s.1 s.2.1 s.2.2.1 s.2.2.2.1 s.2.2.2.2) (([] : List Gref04_Place), x15.fb, x15.fplaces, 0, x3)).bind fun e => Sum.elim (fun e => m_law05_RecordWrites_j1 x1 e.1 e.2.1 e.2.2.1 e.2.2.2) (fun x => some x) e
theorem c_law05_RecordWrites {w0 : World} {M : Nat → Prop} {H : List (Nat × Nat × Obj)} {R : List (Nat × Row)} {φ : World → Prop} (p0 : ByteArray) (p1 : List GRR) (Ap1_0 : Option Addr) (cp1_0 : Nat) (hcp1_0 : p1.length ≤ cp1_0) (fp1_0 : ∀ W, (Sta.mk w0 M H R φ).ok W → Cl W Ap1_0 (p1.flatMap GRR.enc)) (r : Bool) (hm : m_law05_RecordWrites p0 p1 = some r) :
    Cn Try.prog 4 #[.string p0, .slice Ap1_0 p1.length cp1_0] ⟨w0, M, H, R, φ⟩ (fun x : Unit => .bool r) (fun x => True) (fun x => ⟨w0, M, H, R, φ⟩) := by
 unfold m_law05_RecordWrites at hm
 refine cn_intro (fn := Try.f4) (N := 64) Try.func4 rfl Try.ntmps4 rfl ?_
 refine c_seq ?_
 refine c_region ?_
 refine g_v rfl r_assign ?_
 refine g_nil ?_
 refine d_then ?_
 refine c_seq ?_
 refine c_region ?_
 replace hm := bnd hm
 obtain ⟨x1, hx2, hm⟩ := hm
 refine g_cn ⟨w0, M, _, _, φ⟩ (fun _ h => h) Try.call16 rfl rfl (c_law05_awake  _ hx2) (fun _ _ => ?_)
 refine g_v rfl r_assign ?_
 refine g_nil ?_
 refine d_then ?_
 refine c_seq ?_
 refine c_region ?_
 refine g_v rfl r_move ?_
 replace hm := bnd hm
 obtain ⟨x3, hx4, hm⟩ := hm
 refine g_cn ⟨w0, M, _, _, φ⟩ (fun _ h => h) Try.call17 rfl rfl (c_law05_short p0 50 _ hx4) (fun _ _ => ?_)
 refine g_v rfl r_assign ?_
 refine g_nil ?_
 refine d_then ?_
 refine c_seq ?_
 refine c_region ?_
 replace hm := bnd hm
 obtain ⟨x5, hx6, hm⟩ := hm
 refine g_cn ⟨w0, M, _, _, φ⟩ (fun _ h => h) Try.call20 rfl rfl (c_pack_New  _ hx6) (fun ⟨A7, c8, A10, c11, g13⟩ ⟨hc8, hc11⟩ => ?_)
 refine g_sta _ (fun W h => (ok_frontR (t := 2000) (t' := 100130) (ok_frontR (t := 2001) (t' := 100131) (ok_front (t := 3000) (t' := 100135) h rfl) rfl) rfl)) ?_
 refine g_v rfl r_assign ?_
 refine g_nil ?_
 refine d_then ?_
 refine c_seq ?_
 refine c_region ?_
 refine g_v rfl r_move ?_
 refine g_v rfl (r_build _ rfl (bld38_16 _)) ?_
 refine g_e rfl (e_box 100160 rfl) (fun g14 _ => ?_)
 refine g_v rfl r_assign ?_
 refine g_nil ?_
 refine d_then ?_
 refine c_flat [(0, .string x3), (1, .slice Ap1_0 p1.length cp1_0), (5, .bool x1), (6, .pointer (some ⟨g13, 0, none⟩)), (7, .pointer (some ⟨g14, 0, none⟩))] ⟨rfl, rfl, rfl, rfl, rfl, trivial⟩ (fun u => ?_)
 refine c_sta ⟨w0, M, (100160, g14, .cells #[.string x3, .slice none 0 0] 38 (0, 0)) :: (100135, g13, .cells #[.slice A7 x5.fb.length c8, mapV A10] 100 (0, 0)) :: H, (100130, ⟨.slice A7 x5.fb.length c8, 5, 1, x5.fb.length, x5.fb.flatMap (fun x : Int => [Value.int .u8 x])⟩) :: (100131, ⟨mapV A10, 98, 2, x5.fplaces.length, x5.fplaces.flatMap (mcell (fun x : ByteArray => Value.string x) (fun x : Int => Value.int .i64 x))⟩) :: R, φ⟩ (fun _ h => h) ?_
 refine c_seq ?_
 refine c_seq ?_
 refine c_region ?_
 refine g_v rfl r_move ?_
 refine g_v rfl (r_eqlP1 Try.underlying33 rfl rfl) ?_
 refine g_nil ?_
 refine d_then ?_
 refine c_cond0 rfl rfl ?_
 refine c_skip ?_
 refine d_then ?_
 refine c_seq ?_
 refine c_region ?_
 refine g_v rfl r_move ?_
 refine g_v rfl r_move ?_
 replace hm := bnd hm
 obtain ⟨x15, hx16, hm⟩ := hm
 refine g_cn ⟨w0, M, (1000, g13, .cells #[.slice A7 x5.fb.length c8, mapV A10] 100 (0, 0)) :: (100160, g14, .cells #[.string x3, .slice none 0 0] 38 (0, 0)) :: H, (1000, ⟨.slice A7 x5.fb.length c8, 5, 1, x5.fb.length, x5.fb.flatMap (fun x : Int => [Value.int .u8 x])⟩) :: (1001, ⟨mapV A10, 98, 2, x5.fplaces.length, x5.fplaces.flatMap (mcell (fun x : ByteArray => Value.string x) (fun x : Int => Value.int .i64 x))⟩) :: R, φ⟩ (fun W h => (ok_front (t := 100135) (t' := 1000) (ok_frontR (t := 100130) (t' := 1000) (ok_frontR (t := 100131) (t' := 1001) h rfl) rfl) rfl)) Try.call21 rfl rfl (c_pack_Packer_Raw x3 g13 x5 A7 c8 hc8 A10 c11 trivial _ hx16) (fun ⟨A17, c18, A20, c21⟩ ⟨hc18, hc21⟩ => ?_)
 refine g_sta _ (fun W h => (ok_frontR (t := 2000) (t' := 100130) (ok_frontR (t := 2001) (t' := 100131) (ok_front (t := 1000) (t' := 100135) h rfl) rfl) rfl)) ?_
 refine g_nil ?_
 refine d_then ?_
 refine c_seq ?_
 refine c_sta _ (fun W h => nilR h 18 145 2) ?_
 refine c_cut (ι := (List Gref04_Place) × (List Int) × (List (ByteArray × Int)) × ByteArray × Option Addr × Nat × Option Addr × Nat × Option Addr × Nat) [5, 6, 7] (fun ⟨l776, l779, l782, s785, A777, c778, A780, c781, A783, c784⟩ => []) (fun ⟨l776, l779, l782, s785, A777, c778, A780, c781, A783, c784⟩ => ⟨w0, M, (100135, g13, .cells #[.slice A780 l779.length c781, mapV A783] 100 (0, 0)) :: (100160, g14, .cells #[.string s785, .slice A777 l776.length c778] 38 (0, 0)) :: H, (18, ⟨.slice A777 l776.length c778, 145, 2, l776.length, l776.flatMap Gref04_Place.enc⟩) :: (100130, ⟨.slice A780 l779.length c781, 5, 1, l779.length, l779.flatMap (fun x : Int => [Value.int .u8 x])⟩) :: (100131, ⟨mapV A783, 98, 2, l782.length, l782.flatMap (mcell (fun x : ByteArray => Value.string x) (fun x : Int => Value.int .i64 x))⟩) :: R, φ⟩) (fun ⟨l776, l779, l782, s785, A777, c778, A780, c781, A783, c784⟩ => m_law05_RecordWrites_j1 x1 l776 l779 l782 s785 = some r ∧ l776.length ≤ c778 ∧ l779.length ≤ c781 ∧ True) ?_ (fun ⟨l776, l779, l782, s785, A777, c778, A780, c781, A783, c784⟩ u ⟨hm, hc778, hc781, hc784⟩ => ?_)
 ·
  refine c_seq ?_
  refine c_region ?_
  refine g_v rfl r_assign ?_
  refine g_nil ?_
  refine d_then ?_
  refine c_block ?_
  replace hm := bnd hm
  obtain ⟨out2, hl2, hr2⟩ := hm
  obtain ⟨n1069', hl2⟩ := loop_lp hl2
  refine c_loopU (ι := Nat × (List Gref04_Place) × (List Int) × (List (ByteArray × Int)) × Int × ByteArray × Option Addr × Nat × Option Addr × Nat × Option Addr × Nat) [1, 5, 6, 7, 8] (fun ⟨n1069, l926, l929, l932, i935, s936, A927, c928, A930, c931, A933, c934⟩ => [(8, .int .i64 i935)]) (fun ⟨n1069, l926, l929, l932, i935, s936, A927, c928, A930, c931, A933, c934⟩ => ⟨w0, M, (100135, g13, .cells #[.slice A930 l929.length c931, mapV A933] 100 (0, 0)) :: (100160, g14, .cells #[.string s936, .slice A927 l926.length c928] 38 (0, 0)) :: H, (18, ⟨.slice A927 l926.length c928, 145, 2, l926.length, l926.flatMap Gref04_Place.enc⟩) :: (100130, ⟨.slice A930 l929.length c931, 5, 1, l929.length, l929.flatMap (fun x : Int => [Value.int .u8 x])⟩) :: (100131, ⟨mapV A933, 98, 2, l932.length, l932.flatMap (mcell (fun x : ByteArray => Value.string x) (fun x : Int => Value.int .i64 x))⟩) :: R, φ⟩) (fun ⟨n1069, l926, l929, l932, i935, s936, A927, c928, A930, c931, A933, c934⟩ => Lp (fun s => m_law05_RecordWrites_s2 p1 s.1 s.2.1 s.2.2.1 s.2.2.2.1 s.2.2.2.2) n1069 (l926, l929, l932, i935, s936) out2 ∧ l926.length ≤ c928 ∧ l929.length ≤ c931 ∧ True) (fun ⟨n1069, l926, l929, l932, i935, s936, A927, c928, A930, c931, A933, c934⟩ => n1069) (n1069', ([] : List Gref04_Place), x15.fb, x15.fplaces, 0, x3, none, 0, A17, c18, A20, c21) ⟨hl2, (Nat.le_refl 0), hc18, trivial⟩ ⟨rfl, rfl, rfl, rfl, rfl, trivial⟩ (fun W h => h.phi (fun W hφ => hφ)) (fun ⟨n1069, l926, l929, l932, i935, s936, A927, c928, A930, c931, A933, c934⟩ u ⟨hlp, hc928, hc931, hc934⟩ => ?_)
  obtain ⟨o2, hm, hnx2⟩ := lp_step hlp
  clear hlp
  replace hm : m_law05_RecordWrites_s2 p1 l926 l929 l932 i935 s936 = some o2 := hm
  unfold m_law05_RecordWrites_s2 at hm
  refine c_flat [(1, .slice Ap1_0 p1.length cp1_0), (5, .bool x1), (6, .pointer (some ⟨g13, 0, none⟩)), (7, .pointer (some ⟨g14, 0, none⟩)), (8, .int .i64 i935)] ⟨rfl, rfl, rfl, rfl, rfl, trivial⟩ (fun u => ?_)
  refine c_sta ⟨w0, M, (100135, g13, .cells #[.slice A930 l929.length c931, mapV A933] 100 (0, 0)) :: (100160, g14, .cells #[.string s936, .slice A927 l926.length c928] 38 (0, 0)) :: H, (18, ⟨.slice A927 l926.length c928, 145, 2, l926.length, l926.flatMap Gref04_Place.enc⟩) :: (100130, ⟨.slice A930 l929.length c931, 5, 1, l929.length, l929.flatMap (fun x : Int => [Value.int .u8 x])⟩) :: (100131, ⟨mapV A933, 98, 2, l932.length, l932.flatMap (mcell (fun x : ByteArray => Value.string x) (fun x : Int => Value.int .i64 x))⟩) :: R, φ⟩ (fun _ h => h) ?_
  refine c_seq ?_
  refine c_seq ?_
  refine c_region ?_
  refine g_v rfl r_move ?_
  refine g_v rfl r_move ?_
  refine g_v rfl (r_lenL Try.underlying32 rfl) ?_
  refine g_v rfl (r_lss rfl rfl) ?_
  refine g_v rfl r_move ?_
  refine g_if rfl rfl rfl rfl rfl (fun h1070 => ?_) (fun h1070 => ?_)
  ·
   replace hm := ite_t hm (of_decide_eq_true h1070)
   refine g_v rfl r_move ?_
   refine g_do rfl rfl rfl rfl rfl h1070 ?_
   refine g_v rfl (r_lss rfl rfl) ?_
   refine g_v rfl (r_pick1 rfl h1070) ?_
   refine g_nil ?_
   refine d_then ?_
   refine c_cond rfl (fun h1071 => ?_) (fun h1071 => ?_)
   ·
    replace hm := ite_t hm (of_decide_eq_true h1071)
    refine c_skip ?_
    refine d_then ?_
    refine c_seq ?_
    refine c_block ?_
    refine c_seq ?_
    refine c_region ?_
    refine g_v rfl r_move ?_
    refine g_v rfl r_move ?_
    replace hm := bnd hm
    obtain ⟨x1072, hx1072, hm⟩ := hm
    refine g_know _ (fun W hS => cl_at (p := (Sta.mk w0 M H R φ).ok) (sz := 5) (fun _ => rfl) (by decide) (ok_pre (H1 := [_, _]) (R1 := [_, _, _]) hS (fun W h => h)) fp1_0 hx1072) ?_
    rintro ⟨ad1073, hA1075, f1074⟩
    refine g_v rfl (r_ix Try.underlying32 Try.sizeOf27 rfl hA1075 rfl hx1072) ?_
    refine g_v rfl (r_ldA rfl Try.isAgg27 Try.sizeOf27 (fun W hS => (f1074 W (ok_pre (H1 := [_, _]) (R1 := [_, _, _]) hS (fun W h => h))).take 5) rfl) ?_
    replace hm := bnd hm
    obtain ⟨x1076, hx1077, hm⟩ := hm
    refine g_cn ⟨w0, M, _, _, φ⟩ (fun _ h => h) Try.call22 rfl rfl (c_law05_small x1072 _ hx1077) (fun _ _ => ?_)
    refine g_e rfl (e_alloc 100090 Try.zeroValue27) (fun g1078 _ => ?_)
    refine g_storeL (tag := 100090) rfl rfl rfl rfl Try.sizeOf27 rfl rfl ?_
    refine g_nil ?_
    refine d_then ?_
    refine c_flat [(1, .slice Ap1_0 p1.length cp1_0), (5, .bool x1), (6, .pointer (some ⟨g13, 0, none⟩)), (7, .pointer (some ⟨g14, 0, none⟩)), (8, .int .i64 i935), (9, .pointer (some ⟨g1078, 0, none⟩))] ⟨rfl, rfl, rfl, rfl, rfl, rfl, trivial⟩ (fun u => ?_)
    refine c_sta ⟨w0, M, (100090, g1078, .cells #[.string x1076.fName, .int .u16 x1076.fType, .int .u16 x1076.fClass, .int .u32 x1076.fTTL, .string x1076.fData] 27 (0, 0)) :: (100135, g13, .cells #[.slice A930 l929.length c931, mapV A933] 100 (0, 0)) :: (100160, g14, .cells #[.string s936, .slice A927 l926.length c928] 38 (0, 0)) :: H, (18, ⟨.slice A927 l926.length c928, 145, 2, l926.length, l926.flatMap Gref04_Place.enc⟩) :: (100130, ⟨.slice A930 l929.length c931, 5, 1, l929.length, l929.flatMap (fun x : Int => [Value.int .u8 x])⟩) :: (100131, ⟨mapV A933, 98, 2, l932.length, l932.flatMap (mcell (fun x : ByteArray => Value.string x) (fun x : Int => Value.int .i64 x))⟩) :: R, φ⟩ (fun _ h => h) ?_
    refine c_seq ?_
    refine c_cut (ι := (List Gref04_Place) × (List Int) × (List (ByteArray × Int)) × Bool × ByteArray × Option Addr × Nat × Option Addr × Nat × Option Addr × Nat) [1, 5, 6, 7, 8, 53] (fun ⟨l1179, l1182, l1185, b1188, s1189, A1180, c1181, A1183, c1184, A1186, c1187⟩ => [(53, .bool b1188)]) (fun ⟨l1179, l1182, l1185, b1188, s1189, A1180, c1181, A1183, c1184, A1186, c1187⟩ => ⟨w0, M, (100135, g13, .cells #[.slice A1183 l1182.length c1184, mapV A1186] 100 (0, 0)) :: (100160, g14, .cells #[.string s1189, .slice A1180 l1179.length c1181] 38 (0, 0)) :: H, (18, ⟨.slice A1180 l1179.length c1181, 145, 2, l1179.length, l1179.flatMap Gref04_Place.enc⟩) :: (100130, ⟨.slice A1183 l1182.length c1184, 5, 1, l1182.length, l1182.flatMap (fun x : Int => [Value.int .u8 x])⟩) :: (100131, ⟨mapV A1186, 98, 2, l1185.length, l1185.flatMap (mcell (fun x : ByteArray => Value.string x) (fun x : Int => Value.int .i64 x))⟩) :: R, φ⟩) (fun ⟨l1179, l1182, l1185, b1188, s1189, A1180, c1181, A1183, c1184, A1186, c1187⟩ => m_law05_RecordWrites_j3 i935 l1179 l1182 l1185 b1188 s1189 = some o2 ∧ l1179.length ≤ c1181 ∧ l1182.length ≤ c1184 ∧ True) ?_ (fun ⟨l1179, l1182, l1185, b1188, s1189, A1180, c1181, A1183, c1184, A1186, c1187⟩ u ⟨hm, hc1181, hc1184, hc1187⟩ => ?_)
    ·
     refine ga_start (n := 17) ⟨w0, M, (100090, g1078, .cells #[.string x1076.fName, .int .u16 x1076.fType, .int .u16 x1076.fClass, .int .u32 x1076.fTTL, .string x1076.fData] 27 (0, 0)) :: H, R, φ⟩ [] #[false, false, false, false, false, false, false, false, false, false, false, false, false, false, false, false, false] (fun W h => (((((h.dropR (t := 18) rfl).dropR (t := 100130) rfl).dropR (t := 100131) rfl).dropH (t := 100135) rfl).dropH (t := 100160) rfl).phi (fun W hφ => hφ)) mixed rfl rfl ?_
     refine ga_v (i := 0) #[true, false, false, false, false, false, false, false, false, false, false, false, false, false, false, false, false] rfl (by kernel_rfl) (fun _ _ _ _ h => h) rfl (r_move) ?_
     refine ga_v (i := 1) #[true, true, false, false, false, false, false, false, false, false, false, false, false, false, false, false, false] rfl (by kernel_rfl) (fun _ _ _ _ h => h) rfl (r_loadA (tag := 100090) rfl rfl Try.isAgg27 Try.sizeOf27 rfl rfl) ?_
     refine ga_v (i := 3) #[true, true, false, true, false, false, false, false, false, false, false, false, false, false, false, false, false] rfl (by kernel_rfl) (fun _ _ _ _ h => h) rfl (r_move) ?_
     refine ga_v (i := 4) #[true, true, false, true, true, false, false, false, false, false, false, false, false, false, false, false, false] rfl (by kernel_rfl) (fun _ _ _ _ h => h) rfl (r_loadA (tag := 100090) rfl rfl Try.isAgg27 Try.sizeOf27 rfl rfl) ?_
     replace hm := bnd hm
     obtain ⟨⟨x1232, x1233⟩, hx1234, hm⟩ := hm
     refine ga_cn (first := #[]) (i := 2) #[true, true, true, true, true, false, false, false, false, false, false, false, false, false, false, false, false] rfl (by kernel_rfl) (by decide)  ⟨w0, M, (1000, g13, .cells #[.slice A930 l929.length c931, mapV A933] 100 (0, 0)) :: (100090, g1078, .cells #[.string x1076.fName, .int .u16 x1076.fType, .int .u16 x1076.fClass, .int .u32 x1076.fTTL, .string x1076.fData] 27 (0, 0)) :: (100160, g14, .cells #[.string s936, .slice A927 l926.length c928] 38 (0, 0)) :: H, (1000, ⟨.slice A930 l929.length c931, 5, 1, l929.length, l929.flatMap (fun x : Int => [Value.int .u8 x])⟩) :: (1001, ⟨mapV A933, 98, 2, l932.length, l932.flatMap (mcell (fun x : ByteArray => Value.string x) (fun x : Int => Value.int .i64 x))⟩) :: (18, ⟨.slice A927 l926.length c928, 145, 2, l926.length, l926.flatMap Gref04_Place.enc⟩) :: R, φ⟩ (fun W h => (ok_front (t := 100135) (t' := 1000) (ok_frontR (t := 100130) (t' := 1000) (ok_frontR (t := 100131) (t' := 1001) h rfl) rfl) rfl)) Try.call23 rfl rfl rfl (c_record_Put x1076 g13 (⟨l929, l932⟩ : Gpack_Packer) A930 c931 hc931 A933 c934 trivial _ hx1234) (fun ⟨A1235, c1236, A1238, c1239⟩ W ⟨hc1236, hc1239⟩ h => ((((((ok_frontR (t := 2000) (t' := 100130) (ok_frontR (t := 2001) (t' := 100131) (ok_front (t := 1000) (t' := 100135) h rfl) rfl) rfl).dropR (t := 100130) rfl).dropR (t := 100131) rfl).dropR (t := 18) rfl).dropH (t := 100135) rfl).dropH (t := 100160) rfl).phi (fun W hφ => hφ)) (fun ⟨A1235, c1236, A1238, c1239⟩ ⟨hc1236, hc1239⟩ => ?_)
     refine ga_sta _ (fun W h => (ok_frontR (t := 2000) (t' := 100130) (ok_frontR (t := 2001) (t' := 100131) (ok_front (t := 1000) (t' := 100135) h rfl) rfl) rfl)) ?_
     replace hm := bnd hm
     obtain ⟨⟨x1242, x1243⟩, hx1244, hm⟩ := hm
     refine ga_cn (first := #[]) (i := 5) #[true, true, true, true, true, true, false, false, false, false, false, false, false, false, false, false, false] rfl (by kernel_rfl) (by decide)  ⟨w0, M, (1000, g14, .cells #[.string s936, .slice A927 l926.length c928] 38 (0, 0)) :: (100135, g13, .cells #[.slice A1235 x1233.fb.length c1236, mapV A1238] 100 (0, 0)) :: (100090, g1078, .cells #[.string x1076.fName, .int .u16 x1076.fType, .int .u16 x1076.fClass, .int .u32 x1076.fTTL, .string x1076.fData] 27 (0, 0)) :: H, (1000, ⟨.slice A927 l926.length c928, 145, 2, l926.length, l926.flatMap Gref04_Place.enc⟩) :: (100130, ⟨.slice A1235 x1233.fb.length c1236, 5, 1, x1233.fb.length, x1233.fb.flatMap (fun x : Int => [Value.int .u8 x])⟩) :: (100131, ⟨mapV A1238, 98, 2, x1233.fplaces.length, x1233.fplaces.flatMap (mcell (fun x : ByteArray => Value.string x) (fun x : Int => Value.int .i64 x))⟩) :: R, φ⟩ (fun W h => (ok_front (t := 100160) (t' := 1000) (ok_frontR (t := 18) (t' := 1000) h rfl) rfl)) Try.call24 rfl rfl rfl (c_ref05_Put x1076 g14 (⟨s936, l926⟩ : Gref04_Packer) A927 c928 hc928 _ hx1244) (fun ⟨A1245, c1246⟩ W hc1246 h => ((((((ok_frontR (t := 2000) (t' := 18) (ok_front (t := 1000) (t' := 100160) h rfl) rfl).dropR (t := 18) rfl).dropR (t := 100130) rfl).dropR (t := 100131) rfl).dropH (t := 100160) rfl).dropH (t := 100135) rfl).phi (fun W hφ => hφ)) (fun ⟨A1245, c1246⟩ hc1246 => ?_)
     refine ga_sta _ (fun W h => (ok_frontR (t := 2000) (t' := 18) (ok_front (t := 1000) (t' := 100160) h rfl) rfl)) ?_
     refine ga_r (i := 6) #[true, true, true, true, true, true, true, false, false, false, false, false, false, false, false, false, false] rfl (by kernel_rfl) (by decide) rfl (r_neq rfl rfl) ?_
     refine ga_r (i := 7) #[true, true, true, true, true, true, true, true, false, false, false, false, false, false, false, false, false] rfl (by kernel_rfl) (by decide) rfl (r_move) ?_
     refine ga_if (t := 44) rfl (fun h1249 => ?_) (fun h1249 => ?_)
     ·
      replace hm := ite_t hm (of_decide_eq_true h1249)
      refine ga_no (i := 8) #[true, true, true, true, true, true, true, true, true, false, false, false, false, false, false, false, false] rfl (by kernel_rfl) (fun _ _ _ _ h => h) rfl rfl rfl rfl rfl h1249 ?_
      refine ga_no (i := 9) #[true, true, true, true, true, true, true, true, true, true, false, false, false, false, false, false, false] rfl (by kernel_rfl) (fun _ _ _ _ h => h) rfl rfl rfl rfl rfl h1249 ?_
      refine ga_no (i := 10) #[true, true, true, true, true, true, true, true, true, true, true, false, false, false, false, false, false] rfl (by kernel_rfl) (fun _ _ _ _ h => h) rfl rfl rfl rfl rfl h1249 ?_
      refine ga_no (i := 11) #[true, true, true, true, true, true, true, true, true, true, true, true, false, false, false, false, false] rfl (by kernel_rfl) (fun _ _ _ _ h => h) rfl rfl rfl rfl rfl h1249 ?_
      refine ga_no (i := 12) #[true, true, true, true, true, true, true, true, true, true, true, true, true, false, false, false, false] rfl (by kernel_rfl) (fun _ _ _ _ h => h) rfl rfl rfl rfl rfl h1249 ?_
      refine ga_no (i := 13) #[true, true, true, true, true, true, true, true, true, true, true, true, true, true, false, false, false] rfl (by kernel_rfl) (fun _ _ _ _ h => h) rfl rfl rfl rfl rfl h1249 ?_
      refine ga_no (i := 14) #[true, true, true, true, true, true, true, true, true, true, true, true, true, true, true, false, false] rfl (by kernel_rfl) (fun _ _ _ _ h => h) rfl rfl rfl rfl rfl h1249 ?_
      refine ga_no (i := 15) #[true, true, true, true, true, true, true, true, true, true, true, true, true, true, true, true, false] rfl (by kernel_rfl) (fun _ _ _ _ h => h) rfl rfl rfl rfl rfl h1249 ?_
      refine ga_r (i := 16) #[true, true, true, true, true, true, true, true, true, true, true, true, true, true, true, true, true] rfl (by kernel_rfl) (by decide) rfl (r_pick1 rfl h1249) ?_
      refine ga_done (by kernel_rfl) ?_
      exact d_round (x1243.fL, x1233.fb, x1233.fplaces, true, x1243.fB, A1245, c1246, A1235, c1236, A1238, c1239) ⟨hm, hc1246, hc1236, trivial⟩ Nat.zero_lt_one ⟨rfl, rfl, rfl, rfl, rfl, rfl, trivial⟩ (fun W h => (ok_front (t := 100135) (t' := 100135) (ok_front (t := 100160) (t' := 100160) (h.dropH (t := 100090) rfl) rfl) rfl).phi (fun W hφ => hφ))
     ·
      replace hm := ite_f hm (of_decide_eq_false h1249)
      refine ga_do (i := 8) #[true, true, true, true, true, true, true, true, true, false, false, false, false, false, false, false, false] rfl (by kernel_rfl) (fun _ _ _ _ h => h) rfl rfl rfl rfl rfl h1249 (r_move) ?_
      refine ga_do (i := 10) #[true, true, true, true, true, true, true, true, true, false, true, false, false, false, false, false, false] rfl (by kernel_rfl) (fun _ _ _ _ h => h) rfl rfl rfl rfl rfl h1249 (r_move) ?_
      refine ga_do (i := 11) #[true, true, true, true, true, true, true, true, true, false, true, true, false, false, false, false, false] rfl (by kernel_rfl) (fun _ _ _ _ h => h) rfl rfl rfl rfl rfl h1249 (r_nilck rfl) ?_
      refine ga_do (i := 12) #[true, true, true, true, true, true, true, true, true, false, true, true, true, false, false, false, false] rfl (by kernel_rfl) (fun _ _ _ _ h => h) rfl rfl rfl rfl rfl h1249 (r_field (n := 0) Try.underlying38 rfl Try.sizeOf9 rfl rfl) ?_
      replace hm := bnd hm
      obtain ⟨x1250, hx1251, hm⟩ := hm
      refine ga_two (i := 9) (j := 13) #[true, true, true, true, true, true, true, true, true, true, true, true, true, false, false, false, false] #[true, true, true, true, true, true, true, true, true, false, true, true, true, true, false, false, false] rfl rfl (by kernel_rfl) (by decide) (by decide) ?_ ?_
      ·
       refine ex_do rfl rfl rfl rfl h1249 ?_
       refine ex_cn (first := #[]) ⟨w0, M, (1000, g13, .cells #[.slice A1235 x1233.fb.length c1236, mapV A1238] 100 (0, 0)) :: (100160, g14, .cells #[.string x1243.fB, .slice A1245 x1243.fL.length c1246] 38 (0, 0)) :: (100090, g1078, .cells #[.string x1076.fName, .int .u16 x1076.fType, .int .u16 x1076.fClass, .int .u32 x1076.fTTL, .string x1076.fData] 27 (0, 0)) :: H, (1000, ⟨.slice A1235 x1233.fb.length c1236, 5, 1, x1233.fb.length, x1233.fb.flatMap (fun x : Int => [Value.int .u8 x])⟩) :: (1001, ⟨mapV A1238, 98, 2, x1233.fplaces.length, x1233.fplaces.flatMap (mcell (fun x : ByteArray => Value.string x) (fun x : Int => Value.int .i64 x))⟩) :: (18, ⟨.slice A1245 x1243.fL.length c1246, 145, 2, x1243.fL.length, x1243.fL.flatMap Gref04_Place.enc⟩) :: R, φ⟩ (fun W h => (ok_front (t := 100135) (t' := 1000) (ok_frontR (t := 100130) (t' := 1000) (ok_frontR (t := 100131) (t' := 1001) h rfl) rfl) rfl)) Try.call25 rfl rfl rfl (c_pack_Packer_Len g13 x1233 A1235 c1236 hc1236 A1238 c1239 trivial _ hx1251) (fun _ W _ h => ((((((ok_frontR (t := 1000) (t' := 100130) (ok_frontR (t := 1001) (t' := 100131) (ok_front (t := 1000) (t' := 100135) h rfl) rfl) rfl).dropR (t := 100130) rfl).dropR (t := 100131) rfl).dropR (t := 18) rfl).dropH (t := 100135) rfl).dropH (t := 100160) rfl).phi (fun W hφ => hφ)) (fun _ _ => ?_)
       refine ga_sta _ (fun W h => (ok_frontR (t := 1000) (t' := 100130) (ok_frontR (t := 1001) (t' := 100131) (ok_front (t := 1000) (t' := 100135) h rfl) rfl) rfl)) ?_
       refine ga_rG (i := 13) #[true, true, true, true, true, true, true, true, true, true, true, true, true, true, false, false, false] rfl (by kernel_rfl) (by decide) rfl rfl rfl rfl rfl h1249 (r_load (tag := 100160) rfl rfl rfl Try.isAgg9) ?_
       refine ga_rG (i := 14) #[true, true, true, true, true, true, true, true, true, true, true, true, true, true, true, false, false] rfl (by kernel_rfl) (by decide) rfl rfl rfl rfl rfl h1249 (r_len Try.underlying9 rfl) ?_
       refine ga_rG (i := 15) #[true, true, true, true, true, true, true, true, true, true, true, true, true, true, true, true, false] rfl (by kernel_rfl) (by decide) rfl rfl rfl rfl rfl h1249 (r_neq rfl rfl) ?_
       refine ga_r (i := 16) #[true, true, true, true, true, true, true, true, true, true, true, true, true, true, true, true, true] rfl (by kernel_rfl) (by decide) rfl (r_pick0 rfl h1249) ?_
       refine ga_done (by kernel_rfl) ?_
       exact d_round (x1243.fL, x1233.fb, x1233.fplaces, decide (x1250 ≠ (x1243.fB.size : Int)), x1243.fB, A1245, c1246, A1235, c1236, A1238, c1239) ⟨hm, hc1246, hc1236, trivial⟩ Nat.zero_lt_one ⟨rfl, rfl, rfl, rfl, rfl, rfl, trivial⟩ (fun W h => (ok_frontR (t := 18) (t' := 18) (ok_frontR (t := 100130) (t' := 100130) (ok_frontR (t := 100131) (t' := 100131) (h.dropH (t := 100090) rfl) rfl) rfl) rfl).phi (fun W hφ => hφ))
      ·
       refine ex_do rfl rfl rfl rfl h1249 ?_
       refine ex_r rfl (r_load (tag := 100160) rfl rfl rfl Try.isAgg9) ?_
       refine ga_do (i := 14) #[true, true, true, true, true, true, true, true, true, false, true, true, true, true, true, false, false] rfl (by kernel_rfl) (fun _ _ _ _ h => h) rfl rfl rfl rfl rfl h1249 (r_len Try.underlying9 rfl) ?_
       refine ga_cnG (first := #[]) (i := 9) #[true, true, true, true, true, true, true, true, true, true, true, true, true, true, true, false, false] rfl (by kernel_rfl) (by decide) rfl rfl rfl rfl h1249  ⟨w0, M, (1000, g13, .cells #[.slice A1235 x1233.fb.length c1236, mapV A1238] 100 (0, 0)) :: (100160, g14, .cells #[.string x1243.fB, .slice A1245 x1243.fL.length c1246] 38 (0, 0)) :: (100090, g1078, .cells #[.string x1076.fName, .int .u16 x1076.fType, .int .u16 x1076.fClass, .int .u32 x1076.fTTL, .string x1076.fData] 27 (0, 0)) :: H, (1000, ⟨.slice A1235 x1233.fb.length c1236, 5, 1, x1233.fb.length, x1233.fb.flatMap (fun x : Int => [Value.int .u8 x])⟩) :: (1001, ⟨mapV A1238, 98, 2, x1233.fplaces.length, x1233.fplaces.flatMap (mcell (fun x : ByteArray => Value.string x) (fun x : Int => Value.int .i64 x))⟩) :: (18, ⟨.slice A1245 x1243.fL.length c1246, 145, 2, x1243.fL.length, x1243.fL.flatMap Gref04_Place.enc⟩) :: R, φ⟩ (fun W h => (ok_front (t := 100135) (t' := 1000) (ok_frontR (t := 100130) (t' := 1000) (ok_frontR (t := 100131) (t' := 1001) h rfl) rfl) rfl)) Try.call25 rfl rfl rfl (c_pack_Packer_Len g13 x1233 A1235 c1236 hc1236 A1238 c1239 trivial _ hx1251) (fun _ W _ h => ((((((ok_frontR (t := 1000) (t' := 100130) (ok_frontR (t := 1001) (t' := 100131) (ok_front (t := 1000) (t' := 100135) h rfl) rfl) rfl).dropR (t := 100130) rfl).dropR (t := 100131) rfl).dropR (t := 18) rfl).dropH (t := 100135) rfl).dropH (t := 100160) rfl).phi (fun W hφ => hφ)) (fun _ _ => ?_)
       refine ga_sta _ (fun W h => (ok_frontR (t := 1000) (t' := 100130) (ok_frontR (t := 1001) (t' := 100131) (ok_front (t := 1000) (t' := 100135) h rfl) rfl) rfl)) ?_
       refine ga_rG (i := 15) #[true, true, true, true, true, true, true, true, true, true, true, true, true, true, true, true, false] rfl (by kernel_rfl) (by decide) rfl rfl rfl rfl rfl h1249 (r_neq rfl rfl) ?_
       refine ga_r (i := 16) #[true, true, true, true, true, true, true, true, true, true, true, true, true, true, true, true, true] rfl (by kernel_rfl) (by decide) rfl (r_pick0 rfl h1249) ?_
       refine ga_done (by kernel_rfl) ?_
       exact d_round (x1243.fL, x1233.fb, x1233.fplaces, decide (x1250 ≠ (x1243.fB.size : Int)), x1243.fB, A1245, c1246, A1235, c1236, A1238, c1239) ⟨hm, hc1246, hc1236, trivial⟩ Nat.zero_lt_one ⟨rfl, rfl, rfl, rfl, rfl, rfl, trivial⟩ (fun W h => (ok_frontR (t := 18) (t' := 18) (ok_frontR (t := 100130) (t' := 100130) (ok_frontR (t := 100131) (t' := 100131) (h.dropH (t := 100090) rfl) rfl) rfl) rfl).phi (fun W hφ => hφ))
    ·
     unfold m_law05_RecordWrites_j3 at hm
     refine d_flat [(1, .slice Ap1_0 p1.length cp1_0), (5, .bool x1), (6, .pointer (some ⟨g13, 0, none⟩)), (7, .pointer (some ⟨g14, 0, none⟩)), (8, .int .i64 i935), (53, .bool b1188)] ⟨rfl, rfl, rfl, rfl, rfl, rfl, trivial⟩ (fun u => ?_)
     refine d_sta ⟨w0, M, (100135, g13, .cells #[.slice A1183 l1182.length c1184, mapV A1186] 100 (0, 0)) :: (100160, g14, .cells #[.string s1189, .slice A1180 l1179.length c1181] 38 (0, 0)) :: H, (18, ⟨.slice A1180 l1179.length c1181, 145, 2, l1179.length, l1179.flatMap Gref04_Place.enc⟩) :: (100130, ⟨.slice A1183 l1182.length c1184, 5, 1, l1182.length, l1182.flatMap (fun x : Int => [Value.int .u8 x])⟩) :: (100131, ⟨mapV A1186, 98, 2, l1185.length, l1185.flatMap (mcell (fun x : ByteArray => Value.string x) (fun x : Int => Value.int .i64 x))⟩) :: R, φ⟩ (fun _ h => h) ?_
     refine d_then ?_
     refine c_cond rfl (fun h1190 => ?_) (fun h1190 => ?_)
     ·
      replace hm := ite_t hm h1190
      refine c_seq ?_
      refine c_region ?_
      refine g_v rfl r_assign ?_
      refine g_nil ?_
      refine d_then ?_
      refine c_ret ?_
      refine d_ret_block ?_
      refine d_ret_then ?_
      refine d_ret_then ?_
      refine d_ret_block ?_
      refine d_ret_then ?_
      refine d_ret_then ?_
      replace hm := nx_out (C := (fun e => Sum.elim (fun e => m_law05_RecordWrites_j1 x1 e.1 e.2.1 e.2.2.1 e.2.2.2) (fun x => some x) e = some r)) hm hnx2 hr2
      replace hm : some false = some r := hm
      replace hm := Option.some.inj hm
      subst hm
      refine d_retC () Try.results4 ?_ trivial (fun W h => ok_pre (H1 := [_, _]) (R1 := [_, _, _]) h (fun W hφ => hφ)) (.inr rfl)
      refine res_tmp ?_
      refine res_nil ?_
      exact rfl
     ·
      replace hm := ite_f hm (bool_nt h1190)
      refine c_skip ?_
      refine d_normal_block ?_
      refine d_then ?_
      refine c_region ?_
      refine g_v rfl r_move ?_
      refine g_v rfl (r_add rfl rfl rfl) ?_
      refine g_v rfl r_assign ?_
      refine g_nil ?_
      obtain ⟨n1191, hn1191, hlp⟩ := nx_inl hm hnx2
      exact d_round (n1191, l1179, l1182, l1185, w64 (i935 + 1), s1189, A1180, c1181, A1183, c1184, A1186, c1187) ⟨hlp, hc1181, hc1184, trivial⟩ hn1191 ⟨rfl, rfl, rfl, rfl, rfl, trivial⟩ (fun W h => h.phi (fun W hφ => hφ))
   ·
    replace hm := ite_f hm (of_decide_eq_false h1071)
    refine c_exit ?_
    refine d_exit_then ?_
    refine d_exit_then ?_
    refine d_exit_block ?_
    replace hm := nx_out (C := (fun e => Sum.elim (fun e => m_law05_RecordWrites_j1 x1 e.1 e.2.1 e.2.2.1 e.2.2.2) (fun x => some x) e = some r)) hm hnx2 hr2
    exact d_round (l926, l929, l932, s936, A927, c928, A930, c931, A933, c934) ⟨hm, hc928, hc931, trivial⟩ Nat.zero_lt_one ⟨rfl, rfl, rfl, trivial⟩ (fun W h => h.phi (fun W hφ => hφ))
  ·
   replace hm := ite_f hm (of_decide_eq_false h1070)
   refine g_no rfl rfl rfl rfl rfl h1070 ?_
   refine g_v rfl (r_pick0 rfl h1070) ?_
   refine g_nil ?_
   refine d_then ?_
   refine c_cond0 rfl rfl ?_
   refine c_exit ?_
   refine d_exit_then ?_
   refine d_exit_then ?_
   refine d_exit_block ?_
   replace hm := nx_out (C := (fun e => Sum.elim (fun e => m_law05_RecordWrites_j1 x1 e.1 e.2.1 e.2.2.1 e.2.2.2) (fun x => some x) e = some r)) hm hnx2 hr2
   exact d_round (l926, l929, l932, s936, A927, c928, A930, c931, A933, c934) ⟨hm, hc928, hc931, trivial⟩ Nat.zero_lt_one ⟨rfl, rfl, rfl, trivial⟩ (fun W h => h.phi (fun W hφ => hφ))
 ·
  unfold m_law05_RecordWrites_j1 at hm
  refine d_flat [(5, .bool x1), (6, .pointer (some ⟨g13, 0, none⟩)), (7, .pointer (some ⟨g14, 0, none⟩))] ⟨rfl, rfl, rfl, trivial⟩ (fun u => ?_)
  refine d_sta ⟨w0, M, (100135, g13, .cells #[.slice A780 l779.length c781, mapV A783] 100 (0, 0)) :: (100160, g14, .cells #[.string s785, .slice A777 l776.length c778] 38 (0, 0)) :: H, (18, ⟨.slice A777 l776.length c778, 145, 2, l776.length, l776.flatMap Gref04_Place.enc⟩) :: (100130, ⟨.slice A780 l779.length c781, 5, 1, l779.length, l779.flatMap (fun x : Int => [Value.int .u8 x])⟩) :: (100131, ⟨mapV A783, 98, 2, l782.length, l782.flatMap (mcell (fun x : ByteArray => Value.string x) (fun x : Int => Value.int .i64 x))⟩) :: R, φ⟩ (fun _ h => h) ?_
  refine d_then ?_
  refine c_seq ?_
  refine ga_start (n := 11) ⟨w0, M, (100135, g13, .cells #[.slice A780 l779.length c781, mapV A783] 100 (0, 0)) :: (100160, g14, .cells #[.string s785, .slice A777 l776.length c778] 38 (0, 0)) :: H, (18, ⟨.slice A777 l776.length c778, 145, 2, l776.length, l776.flatMap Gref04_Place.enc⟩) :: R, φ⟩ [] #[false, false, false, false, false, false, false, false, false, false, false] (fun W h => ((h.dropR (t := 100130) rfl).dropR (t := 100131) rfl).phi (fun W hφ => hφ)) mixed rfl rfl ?_
  refine ga_r (i := 0) #[true, false, false, false, false, false, false, false, false, false, false] rfl (by kernel_rfl) (by decide) rfl (r_move) ?_
  refine ga_r (i := 1) #[true, true, false, false, false, false, false, false, false, false, false] rfl (by kernel_rfl) (by decide) rfl (r_move) ?_
  refine ga_if (t := 55) rfl (fun h792 => ?_) (fun h792 => ?_)
  ·
   replace hm := ite_t hm h792
   refine ga_do (i := 2) #[true, true, true, false, false, false, false, false, false, false, false] rfl (by kernel_rfl) (fun _ _ _ _ h => h) rfl rfl rfl rfl rfl h792 (r_move) ?_
   refine ga_do (i := 4) #[true, true, true, false, true, false, false, false, false, false, false] rfl (by kernel_rfl) (fun _ _ _ _ h => h) rfl rfl rfl rfl rfl h792 (r_move) ?_
   refine ga_do (i := 5) #[true, true, true, false, true, true, false, false, false, false, false] rfl (by kernel_rfl) (fun _ _ _ _ h => h) rfl rfl rfl rfl rfl h792 (r_nilck rfl) ?_
   refine ga_do (i := 6) #[true, true, true, false, true, true, true, false, false, false, false] rfl (by kernel_rfl) (fun _ _ _ _ h => h) rfl rfl rfl rfl rfl h792 (r_field (n := 0) Try.underlying38 rfl Try.sizeOf9 rfl rfl) ?_
   refine ga_do (i := 7) #[true, true, true, false, true, true, true, true, false, false, false] rfl (by kernel_rfl) (fun _ _ _ _ h => h) rfl rfl rfl rfl rfl h792 (r_load (tag := 100160) rfl rfl rfl Try.isAgg9) ?_
   replace hm := bnd hm
   obtain ⟨x793, hx794, hm⟩ := hm
   refine ga_cnG (first := #[]) (i := 3) #[true, true, true, true, true, true, true, true, false, false, false] rfl (by kernel_rfl) (by decide) rfl rfl rfl rfl h792  ⟨w0, M, (1000, g13, .cells #[.slice A780 l779.length c781, mapV A783] 100 (0, 0)) :: (100160, g14, .cells #[.string s785, .slice A777 l776.length c778] 38 (0, 0)) :: H, (1000, ⟨.slice A780 l779.length c781, 5, 1, l779.length, l779.flatMap (fun x : Int => [Value.int .u8 x])⟩) :: (1001, ⟨mapV A783, 98, 2, l782.length, l782.flatMap (mcell (fun x : ByteArray => Value.string x) (fun x : Int => Value.int .i64 x))⟩) :: (18, ⟨.slice A777 l776.length c778, 145, 2, l776.length, l776.flatMap Gref04_Place.enc⟩) :: R, φ⟩ (fun W h => (ok_front (t := 100135) (t' := 1000) (ok_frontR (t := 100130) (t' := 1000) (ok_frontR (t := 100131) (t' := 1001) h rfl) rfl) rfl)) Try.call26 rfl rfl rfl (c_pack_Packer_Bytes g13 (⟨l779, l782⟩ : Gpack_Packer) A780 c781 hc781 A783 c784 trivial _ hx794) (fun _ W _ h => (((ok_frontR (t := 1000) (t' := 100130) (ok_frontR (t := 1001) (t' := 100131) (ok_front (t := 1000) (t' := 100135) h rfl) rfl) rfl).dropR (t := 100130) rfl).dropR (t := 100131) rfl).phi (fun W hφ => hφ)) (fun _ _ => ?_)
   refine ga_sta _ (fun W h => (ok_frontR (t := 1000) (t' := 100130) (ok_frontR (t := 1001) (t' := 100131) (ok_front (t := 1000) (t' := 100135) h rfl) rfl) rfl)) ?_
   refine ga_rG (i := 8) #[true, true, true, true, true, true, true, true, true, false, false] rfl (by kernel_rfl) (by decide) rfl rfl rfl rfl rfl h792 (r_eqlT rfl rfl) ?_
   refine ga_r (i := 9) #[true, true, true, true, true, true, true, true, true, true, false] rfl (by kernel_rfl) (by decide) rfl (r_pick1 rfl h792) ?_
   refine ga_r (i := 10) #[true, true, true, true, true, true, true, true, true, true, true] rfl (by kernel_rfl) (by decide) rfl (r_assign) ?_
   refine ga_done (by kernel_rfl) ?_
   refine d_then ?_
   refine c_flat [(4, .bool (decide (x793 = s785)))] ⟨rfl, trivial⟩ (fun u => ?_)
   refine c_sta ⟨w0, M, (100135, g13, .cells #[.slice A780 l779.length c781, mapV A783] 100 (0, 0)) :: (100160, g14, .cells #[.string s785, .slice A777 l776.length c778] 38 (0, 0)) :: H, (100130, ⟨.slice A780 l779.length c781, 5, 1, l779.length, l779.flatMap (fun x : Int => [Value.int .u8 x])⟩) :: (100131, ⟨mapV A783, 98, 2, l782.length, l782.flatMap (mcell (fun x : ByteArray => Value.string x) (fun x : Int => Value.int .i64 x))⟩) :: (18, ⟨.slice A777 l776.length c778, 145, 2, l776.length, l776.flatMap Gref04_Place.enc⟩) :: R, φ⟩ (fun _ h => h) ?_
   refine c_ret ?_
   replace hm := Option.some.inj hm
   subst hm
   refine d_retC () Try.results4 ?_ trivial (fun W h => ok_pre (H1 := [_, _]) (R1 := [_, _, _]) h (fun W hφ => hφ)) (.inr rfl)
   refine res_tmp ?_
   refine res_nil ?_
   exact rfl
  ·
   replace hm := ite_f hm (bool_nt h792)
   refine ga_no (i := 2) #[true, true, true, false, false, false, false, false, false, false, false] rfl (by kernel_rfl) (fun _ _ _ _ h => h) rfl rfl rfl rfl rfl h792 ?_
   refine ga_no (i := 3) #[true, true, true, true, false, false, false, false, false, false, false] rfl (by kernel_rfl) (fun _ _ _ _ h => h) rfl rfl rfl rfl rfl h792 ?_
   refine ga_no (i := 4) #[true, true, true, true, true, false, false, false, false, false, false] rfl (by kernel_rfl) (fun _ _ _ _ h => h) rfl rfl rfl rfl rfl h792 ?_
   refine ga_no (i := 5) #[true, true, true, true, true, true, false, false, false, false, false] rfl (by kernel_rfl) (fun _ _ _ _ h => h) rfl rfl rfl rfl rfl h792 ?_
   refine ga_no (i := 6) #[true, true, true, true, true, true, true, false, false, false, false] rfl (by kernel_rfl) (fun _ _ _ _ h => h) rfl rfl rfl rfl rfl h792 ?_
   refine ga_no (i := 7) #[true, true, true, true, true, true, true, true, false, false, false] rfl (by kernel_rfl) (fun _ _ _ _ h => h) rfl rfl rfl rfl rfl h792 ?_
   refine ga_no (i := 8) #[true, true, true, true, true, true, true, true, true, false, false] rfl (by kernel_rfl) (fun _ _ _ _ h => h) rfl rfl rfl rfl rfl h792 ?_
   refine ga_r (i := 9) #[true, true, true, true, true, true, true, true, true, true, false] rfl (by kernel_rfl) (by decide) rfl (r_pick0 rfl h792) ?_
   refine ga_r (i := 10) #[true, true, true, true, true, true, true, true, true, true, true] rfl (by kernel_rfl) (by decide) rfl (r_assign) ?_
   refine ga_done (by kernel_rfl) ?_
   refine d_then ?_
   refine c_ret ?_
   replace hm := Option.some.inj hm
   subst hm
   refine d_retC () Try.results4 ?_ trivial (fun W h => ok_pre (H1 := [_, _]) (R1 := [_, _, _]) h (fun W hφ => hφ)) (.inr rfl)
   refine res_tmp ?_
   refine res_nil ?_
   exact rfl

end Go.Proofs.Ytpdhdpefdgndeaa
