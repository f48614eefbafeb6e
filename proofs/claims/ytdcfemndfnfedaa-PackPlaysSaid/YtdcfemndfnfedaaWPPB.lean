import Derived.Test.YtdcfemndfnfedaaWPPA
set_option maxRecDepth 100000
set_option maxHeartbeats 4000000
set_option linter.unusedVariables false
set_option linter.unusedSimpArgs false
namespace Go.Proofs.Ytdcfemndfnfedaa
open Go.RowKit Go.Proofs.YtdcfemndfnfedaaW.PrintLast
noncomputable def m_law04_PackPlays_j2 (x1 : Bool) (l1203 : List Gref04_Place) (l1206 : List Int) (l1209 : List (ByteArray × Int)) (s1212 : ByteArray) : Option Bool :=
  if x1 = true then
    (m_pack_Packer_Bytes (⟨l1206, l1209⟩ : Gpack_Packer)).bind fun x1220 =>
    some (decide (x1220 = s1212))
  else
    some false
noncomputable def m_law04_PackPlays_j5 (i1427 : Int) (l1792 : List Gref04_Place) (l1795 : List Int) (l1798 : List (ByteArray × Int)) (b1801 : Bool) (s1802 : ByteArray) : Option (((List Gref04_Place) × (List Int) × (List (ByteArray × Int)) × Int × ByteArray) ⊕ (((List Gref04_Place) × (List Int) × (List (ByteArray × Int)) × ByteArray) ⊕ Bool)) :=
  if b1801 = true then
    (m_pack_Packer_Len (⟨l1795, l1798⟩ : Gpack_Packer)).bind fun x1810 =>
    if x1810 ≠ (s1802.size : Int) then
      some (.inr (.inr false))
    else
      some (.inl (l1792, l1795, l1798, w64 (i1427 + 1), s1802))
  else
    some (.inr (.inr false))
noncomputable def m_law04_PackPlays_j4 (x1629 : Glaw04_Op) (l1421 : List Int) (l1424 : List (ByteArray × Int)) (s1428 : ByteArray) (i1427 : Int) (l1418 : List Gref04_Place) (i1635 : Int) : Option (((List Gref04_Place) × (List Int) × (List (ByteArray × Int)) × Int × ByteArray) ⊕ (((List Gref04_Place) × (List Int) × (List (ByteArray × Int)) × ByteArray) ⊕ Bool)) :=
  (m_law04_short x1629.fText 300).bind fun x1636 =>
  if i1635 = 2 then
    (m_pack_Packer_Raw x1636 (⟨l1421, l1424⟩ : Gpack_Packer)).bind fun x1815 =>
    (sadd s1428 x1636).bind fun s1823 =>
    m_law04_PackPlays_j5 i1427 l1418 x1815.fb x1815.fplaces true s1823
  else
    if i1635 = 3 then
      (m_pack_Packer_Word (IntKind.u16.wrap x1629.fN) (⟨l1421, l1424⟩ : Gpack_Packer)).bind fun x1825 =>
      (m_pack_Packer_Byte (IntKind.u8.wrap x1629.fN) x1825).bind fun x1833 =>
      (m_ref04_Packer_Number (w64 (x1629.fN.tmod 65536)) 2 (⟨s1428, l1418⟩ : Gref04_Packer)).bind fun x1841 =>
      (m_ref04_Packer_Number (w64 (x1629.fN.tmod 256)) 1 x1841).bind fun x1846 =>
      m_law04_PackPlays_j5 i1427 x1846.fL x1833.fb x1833.fplaces true x1846.fB
    else
      if i1635 = 4 then
        (m_pack_Packer_Long x1629.fN (⟨l1421, l1424⟩ : Gpack_Packer)).bind fun x1852 =>
        (m_ref04_Packer_Number (w64 x1629.fN) 4 (⟨s1428, l1418⟩ : Gref04_Packer)).bind fun x1860 =>
        m_law04_PackPlays_j5 i1427 x1860.fL x1852.fb x1852.fplaces true x1860.fB
      else
        if i1635 = 5 then
          (m_pack_Packer_Patch x1629.fAt (IntKind.u16.wrap x1629.fN) (⟨l1421, l1424⟩ : Gpack_Packer)).bind fun (z1909 : Int × Gpack_Packer) =>
          (m_ref04_Packer_Patch x1629.fAt (IntKind.u16.wrap x1629.fN) (⟨s1428, l1418⟩ : Gref04_Packer)).bind fun (z1916 : Int × Gref04_Packer) =>
          m_law04_PackPlays_j5 i1427 z1916.2.fL z1909.2.fb z1909.2.fplaces (decide (z1909.1 = z1916.1)) z1916.2.fB
        else
          (m_pack_Packer_Name x1636 x1629.fPoints (⟨l1421, l1424⟩ : Gpack_Packer)).bind fun (z1960 : Int × Gpack_Packer) =>
          (m_ref04_Packer_Name x1636 x1629.fPoints (⟨s1428, l1418⟩ : Gref04_Packer)).bind fun (z1967 : Int × Gref04_Packer) =>
          m_law04_PackPlays_j5 i1427 z1967.2.fL z1960.2.fb z1960.2.fplaces (decide (z1960.1 = z1967.1)) z1967.2.fB
noncomputable def m_law04_PackPlays_s3 (p1 : List Glaw04_Op) (l1418 : List Gref04_Place) (l1421 : List Int) (l1424 : List (ByteArray × Int)) (i1427 : Int) (s1428 : ByteArray) : Option (((List Gref04_Place) × (List Int) × (List (ByteArray × Int)) × Int × ByteArray) ⊕ (((List Gref04_Place) × (List Int) × (List (ByteArray × Int)) × ByteArray) ⊕ Bool)) :=
  if i1427 < (p1.length : Int) then
    if i1427 < 60 then
      (at_ p1 i1427).bind fun x1629 =>
      if x1629.fKind.tmod 6 < 0 then
        m_law04_PackPlays_j4 x1629 l1421 l1424 s1428 i1427 l1418 (w64 ((x1629.fKind.tmod 6) + 6))
      else
        m_law04_PackPlays_j4 x1629 l1421 l1424 s1428 i1427 l1418 (x1629.fKind.tmod 6)
    else
      some (.inr (.inl (l1418, l1421, l1424, s1428)))
  else
    some (.inr (.inl (l1418, l1421, l1424, s1428)))
noncomputable def m_law04_PackPlays_j1 (p1 : List Glaw04_Op) (x1 : Bool) (l24 : List Int) (l27 : List (ByteArray × Int)) (s30 : ByteArray) : Option Bool :=
  (loop (fun s => m_law04_PackPlays_s3 p1 s.1 s.2.1 s.2.2.1 s.2.2.2.1 s.2.2.2.2) (([] : List Gref04_Place), l24, l27, 0, s30)).bind fun e => Sum.elim (fun e => m_law04_PackPlays_j2 x1 e.1 e.2.1 e.2.2.1 e.2.2.2) (fun x => some x) e
noncomputable def m_law04_PackPlays (p0 : Bool) (p1 : List Glaw04_Op) : Option Bool :=
  (m_law04_awake).bind fun x1 =>
  (m_pack_New).bind fun x3 =>
  if p0 = true then
    (mkL 1 16380 0).bind fun l1970 =>
    (m_pack_Packer_Raw (strOfNums l1970) x3).bind fun x1972 =>
    m_law04_PackPlays_j1 p1 x1 x1972.fb x1972.fplaces (strOfNums l1970)
  else
    m_law04_PackPlays_j1 p1 x1 x3.fb x3.fplaces (⟨#[]⟩ : ByteArray)
theorem c_law04_PackPlays {w0 : World} {M : Nat → Prop} {H : List (Nat × Nat × Obj)} {R : List (Nat × Row)} {φ : World → Prop} (p0 : Bool) (p1 : List Glaw04_Op) (Ap1_0 : Option Addr) (cp1_0 : Nat) (hcp1_0 : p1.length ≤ cp1_0) (fp1_0 : ∀ W, (Sta.mk w0 M H R φ).ok W → Cl W Ap1_0 (p1.flatMap Glaw04_Op.enc)) (r : Bool) (hm : m_law04_PackPlays p0 p1 = some r) :
    Cn Try.prog 7 #[.bool p0, .slice Ap1_0 p1.length cp1_0] ⟨w0, M, H, R, φ⟩ (fun x : Unit => .bool r) (fun x => True) (fun x => ⟨w0, M, H, R, φ⟩) := by
 unfold m_law04_PackPlays at hm
 refine cn_intro (fn := Try.f7) (N := 154) Try.func7 rfl Try.ntmps7 rfl ?_
 refine c_seq ?_
 refine c_region ?_
 refine g_v rfl r_assign ?_
 refine g_nil ?_
 refine d_then ?_
 refine c_seq ?_
 refine c_region ?_
 replace hm := bnd hm
 obtain ⟨x1, hx2, hm⟩ := hm
 refine g_cn ⟨w0, M, _, _, φ⟩ (fun _ h => h) Try.call14 rfl rfl (c_law04_awake  _ hx2) (fun _ _ => ?_)
 refine g_v rfl r_assign ?_
 refine g_nil ?_
 refine d_then ?_
 refine c_seq ?_
 refine c_region ?_
 replace hm := bnd hm
 obtain ⟨x3, hx4, hm⟩ := hm
 refine g_cn ⟨w0, M, _, _, φ⟩ (fun _ h => h) Try.call25 rfl rfl (c_pack_New  _ hx4) (fun ⟨A5, c6, A8, c9, g11⟩ ⟨hc6, hc9⟩ => ?_)
 refine g_sta _ (fun W h => (ok_frontR (t := 2000) (t' := 100150) (ok_frontR (t := 2001) (t' := 100151) (ok_front (t := 3000) (t' := 100155) h rfl) rfl) rfl)) ?_
 refine g_v rfl r_assign ?_
 refine g_nil ?_
 refine d_then ?_
 refine c_seq ?_
 refine c_region ?_
 refine g_v rfl (r_build _ rfl (bld57_7)) ?_
 refine g_e rfl (e_box 100170 rfl) (fun g12 _ => ?_)
 refine g_v rfl r_assign ?_
 refine g_nil ?_
 refine d_then ?_
 refine c_seq ?_
 refine c_seq ?_
 refine c_region ?_
 refine g_v rfl r_move ?_
 refine g_v rfl (r_eqlP1 Try.underlying42 rfl rfl) ?_
 refine g_nil ?_
 refine d_then ?_
 refine c_flat [(0, .bool p0), (1, .slice Ap1_0 p1.length cp1_0), (5, .bool x1), (6, .pointer (some ⟨g11, 0, none⟩)), (7, .pointer (some ⟨g12, 0, none⟩)), (19, .bool false)] ⟨rfl, rfl, rfl, rfl, rfl, rfl, trivial⟩ (fun u => ?_)
 refine c_sta ⟨w0, M, (100170, g12, .cells #[.string (⟨#[]⟩ : ByteArray), .slice none 0 0] 57 (0, 0)) :: (100155, g11, .cells #[.slice A5 x3.fb.length c6, mapV A8] 67 (0, 0)) :: H, (100150, ⟨.slice A5 x3.fb.length c6, 5, 1, x3.fb.length, x3.fb.flatMap (fun x : Int => [Value.int .u8 x])⟩) :: (100151, ⟨mapV A8, 65, 2, x3.fplaces.length, x3.fplaces.flatMap (mcell (fun x : ByteArray => Value.string x) (fun x : Int => Value.int .i64 x))⟩) :: R, φ⟩ (fun _ h => h) ?_
 refine c_cond0 rfl rfl ?_
 refine c_skip ?_
 refine d_then ?_
 refine c_seq ?_
 refine c_cut (ι := (List Int) × (List (ByteArray × Int)) × ByteArray × Option Addr × Nat × Option Addr × Nat) [1, 5, 6, 7] (fun ⟨l24, l27, s30, A25, c26, A28, c29⟩ => []) (fun ⟨l24, l27, s30, A25, c26, A28, c29⟩ => ⟨w0, M, (100170, g12, .cells #[.string s30, .slice none 0 0] 57 (0, 0)) :: (100155, g11, .cells #[.slice A25 l24.length c26, mapV A28] 67 (0, 0)) :: H, (100150, ⟨.slice A25 l24.length c26, 5, 1, l24.length, l24.flatMap (fun x : Int => [Value.int .u8 x])⟩) :: (100151, ⟨mapV A28, 65, 2, l27.length, l27.flatMap (mcell (fun x : ByteArray => Value.string x) (fun x : Int => Value.int .i64 x))⟩) :: R, φ⟩) (fun ⟨l24, l27, s30, A25, c26, A28, c29⟩ => m_law04_PackPlays_j1 p1 x1 l24 l27 s30 = some r ∧ l24.length ≤ c26 ∧ True) ?_ (fun ⟨l24, l27, s30, A25, c26, A28, c29⟩ u ⟨hm, hc26, hc29⟩ => ?_)
 ·
  refine c_seq ?_
  refine c_region ?_
  refine g_v rfl r_move ?_
  refine g_nil ?_
  refine d_then ?_
  refine c_cond rfl (fun h1969 => ?_) (fun h1969 => ?_)
  ·
   replace hm := ite_t hm h1969
   refine c_seq ?_
   refine c_region ?_
   replace hm := bnd hm
   obtain ⟨l1970, hl1970, hm⟩ := hm
   refine g_e rfl (e_make (tag := 23) (enc := (fun x : Int => [Value.int .u8 x])) Try.underlying58 inf5_5 rfl rfl rfl rfl hl1970) (fun g1971 _ => ?_)
   refine g_v rfl (r_textE Try.underlying58 Try.underlying5 Try.underlying9 rfl (fun W hS => rowCl (tag := 23) rfl W hS)) ?_
   refine g_v rfl r_assign ?_
   refine g_nil ?_
   refine d_then ?_
   refine c_seq ?_
   refine c_region ?_
   refine g_v rfl r_move ?_
   refine g_v rfl r_move ?_
   replace hm := bnd hm
   obtain ⟨x1972, hx1973, hm⟩ := hm
   refine g_cn ⟨w0, M, (1000, g11, .cells #[.slice A5 x3.fb.length c6, mapV A8] 67 (0, 0)) :: (100170, g12, .cells #[.string (⟨#[]⟩ : ByteArray), .slice none 0 0] 57 (0, 0)) :: H, (1000, ⟨.slice A5 x3.fb.length c6, 5, 1, x3.fb.length, x3.fb.flatMap (fun x : Int => [Value.int .u8 x])⟩) :: (1001, ⟨mapV A8, 65, 2, x3.fplaces.length, x3.fplaces.flatMap (mcell (fun x : ByteArray => Value.string x) (fun x : Int => Value.int .i64 x))⟩) :: (23, ⟨.slice (some ⟨g1971, 0, none⟩) l1970.length l1970.length, 5, 1, l1970.length, l1970.flatMap (fun x : Int => [Value.int .u8 x])⟩) :: R, φ⟩ (fun W h => (ok_front (t := 100155) (t' := 1000) (ok_frontR (t := 100150) (t' := 1000) (ok_frontR (t := 100151) (t' := 1001) h rfl) rfl) rfl)) Try.call28 rfl rfl (c_pack_Packer_Raw (strOfNums l1970) g11 x3 A5 c6 hc6 A8 c9 trivial _ hx1973) (fun ⟨A1974, c1975, A1977, c1978⟩ ⟨hc1975, hc1978⟩ => ?_)
   refine g_sta _ (fun W h => (ok_frontR (t := 2000) (t' := 100150) (ok_frontR (t := 2001) (t' := 100151) (ok_front (t := 1000) (t' := 100155) h rfl) rfl) rfl)) ?_
   refine g_nil ?_
   refine d_then ?_
   refine c_region ?_
   refine g_v rfl r_move ?_
   refine g_v rfl r_move ?_
   refine g_v rfl (r_nilck rfl) ?_
   refine g_v rfl (r_field (n := 0) Try.underlying57 rfl Try.sizeOf9 rfl rfl) ?_
   refine g_storeL (tag := 100170) rfl rfl rfl rfl Try.sizeOf9 rfl rfl ?_
   refine g_nil ?_
   exact d_round (x1972.fb, x1972.fplaces, strOfNums l1970, A1974, c1975, A1977, c1978) ⟨hm, hc1975, trivial⟩ Nat.zero_lt_one ⟨rfl, rfl, rfl, rfl, trivial⟩ (fun W h => (ok_front (t := 100170) (t' := 100170) (ok_front (t := 100155) (t' := 100155) (h.dropR (t := 23) rfl) rfl) rfl).phi (fun W hφ => hφ))
  ·
   replace hm := ite_f hm (bool_nt h1969)
   refine c_skip ?_
   exact d_round (x3.fb, x3.fplaces, (⟨#[]⟩ : ByteArray), A5, c6, A8, c9) ⟨hm, hc6, trivial⟩ Nat.zero_lt_one ⟨rfl, rfl, rfl, rfl, trivial⟩ (fun W h => h.phi (fun W hφ => hφ))
 ·
  unfold m_law04_PackPlays_j1 at hm
  refine d_flat [(1, .slice Ap1_0 p1.length cp1_0), (5, .bool x1), (6, .pointer (some ⟨g11, 0, none⟩)), (7, .pointer (some ⟨g12, 0, none⟩))] ⟨rfl, rfl, rfl, rfl, trivial⟩ (fun u => ?_)
  refine d_sta ⟨w0, M, (100170, g12, .cells #[.string s30, .slice none 0 0] 57 (0, 0)) :: (100155, g11, .cells #[.slice A25 l24.length c26, mapV A28] 67 (0, 0)) :: H, (100150, ⟨.slice A25 l24.length c26, 5, 1, l24.length, l24.flatMap (fun x : Int => [Value.int .u8 x])⟩) :: (100151, ⟨mapV A28, 65, 2, l27.length, l27.flatMap (mcell (fun x : ByteArray => Value.string x) (fun x : Int => Value.int .i64 x))⟩) :: R, φ⟩ (fun _ h => h) ?_
  refine d_then ?_
  refine c_seq ?_
  refine c_sta _ (fun W h => nilR h 22 91 2) ?_
  refine c_cut (ι := (List Gref04_Place) × (List Int) × (List (ByteArray × Int)) × ByteArray × Option Addr × Nat × Option Addr × Nat × Option Addr × Nat) [5, 6, 7] (fun ⟨l1203, l1206, l1209, s1212, A1204, c1205, A1207, c1208, A1210, c1211⟩ => []) (fun ⟨l1203, l1206, l1209, s1212, A1204, c1205, A1207, c1208, A1210, c1211⟩ => ⟨w0, M, (100170, g12, .cells #[.string s1212, .slice A1204 l1203.length c1205] 57 (0, 0)) :: (100155, g11, .cells #[.slice A1207 l1206.length c1208, mapV A1210] 67 (0, 0)) :: H, (22, ⟨.slice A1204 l1203.length c1205, 91, 2, l1203.length, l1203.flatMap Gref04_Place.enc⟩) :: (100150, ⟨.slice A1207 l1206.length c1208, 5, 1, l1206.length, l1206.flatMap (fun x : Int => [Value.int .u8 x])⟩) :: (100151, ⟨mapV A1210, 65, 2, l1209.length, l1209.flatMap (mcell (fun x : ByteArray => Value.string x) (fun x : Int => Value.int .i64 x))⟩) :: R, φ⟩) (fun ⟨l1203, l1206, l1209, s1212, A1204, c1205, A1207, c1208, A1210, c1211⟩ => m_law04_PackPlays_j2 x1 l1203 l1206 l1209 s1212 = some r ∧ l1203.length ≤ c1205 ∧ l1206.length ≤ c1208 ∧ True) ?_ (fun ⟨l1203, l1206, l1209, s1212, A1204, c1205, A1207, c1208, A1210, c1211⟩ u ⟨hm, hc1205, hc1208, hc1211⟩ => ?_)
  ·
   refine c_seq ?_
   refine c_region ?_
   refine g_v rfl r_assign ?_
   refine g_nil ?_
   refine d_then ?_
   refine c_block ?_
   replace hm := bnd hm
   obtain ⟨out3, hl3, hr3⟩ := hm
   obtain ⟨n1626', hl3⟩ := loop_lp hl3
   refine c_loopU (ι := Nat × (List Gref04_Place) × (List Int) × (List (ByteArray × Int)) × Int × ByteArray × Option Addr × Nat × Option Addr × Nat × Option Addr × Nat) [1, 5, 6, 7, 9] (fun ⟨n1626, l1418, l1421, l1424, i1427, s1428, A1419, c1420, A1422, c1423, A1425, c1426⟩ => [(9, .int .i64 i1427)]) (fun ⟨n1626, l1418, l1421, l1424, i1427, s1428, A1419, c1420, A1422, c1423, A1425, c1426⟩ => ⟨w0, M, (100170, g12, .cells #[.string s1428, .slice A1419 l1418.length c1420] 57 (0, 0)) :: (100155, g11, .cells #[.slice A1422 l1421.length c1423, mapV A1425] 67 (0, 0)) :: H, (22, ⟨.slice A1419 l1418.length c1420, 91, 2, l1418.length, l1418.flatMap Gref04_Place.enc⟩) :: (100150, ⟨.slice A1422 l1421.length c1423, 5, 1, l1421.length, l1421.flatMap (fun x : Int => [Value.int .u8 x])⟩) :: (100151, ⟨mapV A1425, 65, 2, l1424.length, l1424.flatMap (mcell (fun x : ByteArray => Value.string x) (fun x : Int => Value.int .i64 x))⟩) :: R, φ⟩) (fun ⟨n1626, l1418, l1421, l1424, i1427, s1428, A1419, c1420, A1422, c1423, A1425, c1426⟩ => Lp (fun s => m_law04_PackPlays_s3 p1 s.1 s.2.1 s.2.2.1 s.2.2.2.1 s.2.2.2.2) n1626 (l1418, l1421, l1424, i1427, s1428) out3 ∧ l1418.length ≤ c1420 ∧ l1421.length ≤ c1423 ∧ True) (fun ⟨n1626, l1418, l1421, l1424, i1427, s1428, A1419, c1420, A1422, c1423, A1425, c1426⟩ => n1626) (n1626', ([] : List Gref04_Place), l24, l27, 0, s30, none, 0, A25, c26, A28, c29) ⟨hl3, (Nat.le_refl 0), hc26, trivial⟩ ⟨rfl, rfl, rfl, rfl, rfl, trivial⟩ (fun W h => h.phi (fun W hφ => hφ)) (fun ⟨n1626, l1418, l1421, l1424, i1427, s1428, A1419, c1420, A1422, c1423, A1425, c1426⟩ u ⟨hlp, hc1420, hc1423, hc1426⟩ => ?_)
   obtain ⟨o3, hm, hnx3⟩ := lp_step hlp
   clear hlp
   replace hm : m_law04_PackPlays_s3 p1 l1418 l1421 l1424 i1427 s1428 = some o3 := hm
   unfold m_law04_PackPlays_s3 at hm
   refine c_flat [(1, .slice Ap1_0 p1.length cp1_0), (5, .bool x1), (6, .pointer (some ⟨g11, 0, none⟩)), (7, .pointer (some ⟨g12, 0, none⟩)), (9, .int .i64 i1427)] ⟨rfl, rfl, rfl, rfl, rfl, trivial⟩ (fun u => ?_)
   refine c_sta ⟨w0, M, (100170, g12, .cells #[.string s1428, .slice A1419 l1418.length c1420] 57 (0, 0)) :: (100155, g11, .cells #[.slice A1422 l1421.length c1423, mapV A1425] 67 (0, 0)) :: H, (22, ⟨.slice A1419 l1418.length c1420, 91, 2, l1418.length, l1418.flatMap Gref04_Place.enc⟩) :: (100150, ⟨.slice A1422 l1421.length c1423, 5, 1, l1421.length, l1421.flatMap (fun x : Int => [Value.int .u8 x])⟩) :: (100151, ⟨mapV A1425, 65, 2, l1424.length, l1424.flatMap (mcell (fun x : ByteArray => Value.string x) (fun x : Int => Value.int .i64 x))⟩) :: R, φ⟩ (fun _ h => h) ?_
   refine c_seq ?_
   refine c_seq ?_
   refine c_region ?_
   refine g_v rfl r_move ?_
   refine g_v rfl r_move ?_
   refine g_v rfl (r_lenL Try.underlying41 rfl) ?_
   refine g_v rfl (r_lss rfl rfl) ?_
   refine g_v rfl r_move ?_
   refine g_if rfl rfl rfl rfl rfl (fun h1627 => ?_) (fun h1627 => ?_)
   ·
    replace hm := ite_t hm (of_decide_eq_true h1627)
    refine g_v rfl r_move ?_
    refine g_do rfl rfl rfl rfl rfl h1627 ?_
    refine g_v rfl (r_lss rfl rfl) ?_
    refine g_v rfl (r_pick1 rfl h1627) ?_
    refine g_nil ?_
    refine d_then ?_
    refine c_cond rfl (fun h1628 => ?_) (fun h1628 => ?_)
    ·
     replace hm := ite_t hm (of_decide_eq_true h1628)
     refine c_skip ?_
     refine d_then ?_
     refine c_seq ?_
     refine c_block ?_
     refine c_seq ?_
     refine c_region ?_
     refine g_v rfl r_move ?_
     refine g_v rfl r_move ?_
     replace hm := bnd hm
     obtain ⟨x1629, hx1629, hm⟩ := hm
     refine g_know _ (fun W hS => cl_at (p := (Sta.mk w0 M H R φ).ok) (sz := 5) (fun _ => rfl) (by decide) (ok_pre (H1 := [_, _]) (R1 := [_, _, _]) hS (fun W h => h)) fp1_0 hx1629) ?_
     rintro ⟨ad1630, hA1632, f1631⟩
     refine g_v rfl (r_ix Try.underlying41 Try.sizeOf47 rfl hA1632 rfl hx1629) ?_
     refine g_v rfl (r_ldA rfl Try.isAgg47 Try.sizeOf47 (fun W hS => (f1631 W (ok_pre (H1 := [_, _]) (R1 := [_, _, _]) hS (fun W h => h))).take 5) rfl) ?_
     refine g_e rfl (e_alloc 100100 Try.zeroValue47) (fun g1633 _ => ?_)
     refine g_storeL (tag := 100100) rfl rfl rfl rfl Try.sizeOf47 rfl rfl ?_
     refine g_nil ?_
     refine d_then ?_
     refine c_flat [(1, .slice Ap1_0 p1.length cp1_0), (5, .bool x1), (6, .pointer (some ⟨g11, 0, none⟩)), (7, .pointer (some ⟨g12, 0, none⟩)), (9, .int .i64 i1427), (10, .pointer (some ⟨g1633, 0, none⟩))] ⟨rfl, rfl, rfl, rfl, rfl, rfl, trivial⟩ (fun u => ?_)
     refine c_sta ⟨w0, M, (100100, g1633, .cells #[.int .i64 x1629.fKind, .int .i64 x1629.fAt, .int .u32 x1629.fN, .string x1629.fText, .bool x1629.fPoints] 47 (0, 0)) :: (100170, g12, .cells #[.string s1428, .slice A1419 l1418.length c1420] 57 (0, 0)) :: (100155, g11, .cells #[.slice A1422 l1421.length c1423, mapV A1425] 67 (0, 0)) :: H, (22, ⟨.slice A1419 l1418.length c1420, 91, 2, l1418.length, l1418.flatMap Gref04_Place.enc⟩) :: (100150, ⟨.slice A1422 l1421.length c1423, 5, 1, l1421.length, l1421.flatMap (fun x : Int => [Value.int .u8 x])⟩) :: (100151, ⟨mapV A1425, 65, 2, l1424.length, l1424.flatMap (mcell (fun x : ByteArray => Value.string x) (fun x : Int => Value.int .i64 x))⟩) :: R, φ⟩ (fun _ h => h) ?_
     refine c_seq ?_
     refine c_region ?_
     refine g_v rfl (r_field (n := 0) Try.underlying47 rfl Try.sizeOf3 rfl rfl) ?_
     refine g_v rfl (r_load (tag := 100100) rfl rfl rfl Try.isAgg3) ?_
     refine g_v rfl (r_rem rfl rfl (by decide) rfl) ?_
     refine g_v rfl r_assign ?_
     refine g_nil ?_
     refine d_then ?_
     refine c_seq ?_
     refine c_cut (ι := Int) [1, 5, 6, 7, 9, 10, 11] (fun i1635 => [(11, .int .i64 i1635)]) (fun i1635 => ⟨w0, M, (100100, g1633, .cells #[.int .i64 x1629.fKind, .int .i64 x1629.fAt, .int .u32 x1629.fN, .string x1629.fText, .bool x1629.fPoints] 47 (0, 0)) :: (100170, g12, .cells #[.string s1428, .slice A1419 l1418.length c1420] 57 (0, 0)) :: (100155, g11, .cells #[.slice A1422 l1421.length c1423, mapV A1425] 67 (0, 0)) :: H, (22, ⟨.slice A1419 l1418.length c1420, 91, 2, l1418.length, l1418.flatMap Gref04_Place.enc⟩) :: (100150, ⟨.slice A1422 l1421.length c1423, 5, 1, l1421.length, l1421.flatMap (fun x : Int => [Value.int .u8 x])⟩) :: (100151, ⟨mapV A1425, 65, 2, l1424.length, l1424.flatMap (mcell (fun x : ByteArray => Value.string x) (fun x : Int => Value.int .i64 x))⟩) :: R, φ⟩) (fun i1635 => m_law04_PackPlays_j4 x1629 l1421 l1424 s1428 i1427 l1418 i1635 = some o3) ?_ (fun i1635 u hm => ?_)
     ·
      refine c_seq ?_
      refine c_region ?_
      refine g_v rfl r_move ?_
      refine g_v rfl (r_lss rfl rfl) ?_
      refine g_nil ?_
      refine d_then ?_
      refine c_cond rfl (fun h1968 => ?_) (fun h1968 => ?_)
      ·
       replace hm := ite_t hm (of_decide_eq_true h1968)
       refine c_region ?_
       refine g_v rfl r_move ?_
       refine g_v rfl (r_add rfl rfl rfl) ?_
       refine g_v rfl r_assign ?_
       refine g_nil ?_
       exact d_round (w64 ((x1629.fKind.tmod 6) + 6)) hm Nat.zero_lt_one ⟨rfl, rfl, rfl, rfl, rfl, rfl, rfl, trivial⟩ (fun W h => h.phi (fun W hφ => hφ))
      ·
       replace hm := ite_f hm (of_decide_eq_false h1968)
       refine c_skip ?_
       exact d_round (x1629.fKind.tmod 6) hm Nat.zero_lt_one ⟨rfl, rfl, rfl, rfl, rfl, rfl, rfl, trivial⟩ (fun W h => h.phi (fun W hφ => hφ))
     ·
      unfold m_law04_PackPlays_j4 at hm
      refine d_flat [(1, .slice Ap1_0 p1.length cp1_0), (5, .bool x1), (6, .pointer (some ⟨g11, 0, none⟩)), (7, .pointer (some ⟨g12, 0, none⟩)), (9, .int .i64 i1427), (10, .pointer (some ⟨g1633, 0, none⟩)), (11, .int .i64 i1635)] ⟨rfl, rfl, rfl, rfl, rfl, rfl, rfl, trivial⟩ (fun u => ?_)
      refine d_sta ⟨w0, M, (100100, g1633, .cells #[.int .i64 x1629.fKind, .int .i64 x1629.fAt, .int .u32 x1629.fN, .string x1629.fText, .bool x1629.fPoints] 47 (0, 0)) :: (100170, g12, .cells #[.string s1428, .slice A1419 l1418.length c1420] 57 (0, 0)) :: (100155, g11, .cells #[.slice A1422 l1421.length c1423, mapV A1425] 67 (0, 0)) :: H, (22, ⟨.slice A1419 l1418.length c1420, 91, 2, l1418.length, l1418.flatMap Gref04_Place.enc⟩) :: (100150, ⟨.slice A1422 l1421.length c1423, 5, 1, l1421.length, l1421.flatMap (fun x : Int => [Value.int .u8 x])⟩) :: (100151, ⟨mapV A1425, 65, 2, l1424.length, l1424.flatMap (mcell (fun x : ByteArray => Value.string x) (fun x : Int => Value.int .i64 x))⟩) :: R, φ⟩ (fun _ h => h) ?_
      refine d_then ?_
      refine c_seq ?_
      refine c_region ?_
      refine g_v rfl (r_field (n := 3) Try.underlying47 rfl Try.sizeOf9 rfl rfl) ?_
      refine g_v rfl (r_load (tag := 100100) rfl rfl rfl Try.isAgg9) ?_
      replace hm := bnd hm
      obtain ⟨x1636, hx1637, hm⟩ := hm
      refine g_cn ⟨w0, M, _, _, φ⟩ (fun _ h => h) Try.call15 rfl rfl (c_law04_short x1629.fText 300 _ hx1637) (fun _ _ => ?_)
      refine g_v rfl r_assign ?_
      refine g_nil ?_
      refine d_then ?_
      refine c_seq ?_
      refine c_region ?_
      refine g_v rfl r_assign ?_
      refine g_nil ?_
      refine d_then ?_
      refine c_seq ?_
      refine c_cut (ι := (List Gref04_Place) × (List Int) × (List (ByteArray × Int)) × Bool × ByteArray × Option Addr × Nat × Option Addr × Nat × Option Addr × Nat) [1, 5, 6, 7, 9, 13] (fun ⟨l1792, l1795, l1798, b1801, s1802, A1793, c1794, A1796, c1797, A1799, c1800⟩ => [(13, .bool b1801)]) (fun ⟨l1792, l1795, l1798, b1801, s1802, A1793, c1794, A1796, c1797, A1799, c1800⟩ => ⟨w0, M, (100170, g12, .cells #[.string s1802, .slice A1793 l1792.length c1794] 57 (0, 0)) :: (100155, g11, .cells #[.slice A1796 l1795.length c1797, mapV A1799] 67 (0, 0)) :: H, (22, ⟨.slice A1793 l1792.length c1794, 91, 2, l1792.length, l1792.flatMap Gref04_Place.enc⟩) :: (100150, ⟨.slice A1796 l1795.length c1797, 5, 1, l1795.length, l1795.flatMap (fun x : Int => [Value.int .u8 x])⟩) :: (100151, ⟨mapV A1799, 65, 2, l1798.length, l1798.flatMap (mcell (fun x : ByteArray => Value.string x) (fun x : Int => Value.int .i64 x))⟩) :: R, φ⟩) (fun ⟨l1792, l1795, l1798, b1801, s1802, A1793, c1794, A1796, c1797, A1799, c1800⟩ => m_law04_PackPlays_j5 i1427 l1792 l1795 l1798 b1801 s1802 = some o3 ∧ l1792.length ≤ c1794 ∧ l1795.length ≤ c1797 ∧ True) ?_ (fun ⟨l1792, l1795, l1798, b1801, s1802, A1793, c1794, A1796, c1797, A1799, c1800⟩ u ⟨hm, hc1794, hc1797, hc1800⟩ => ?_)
      ·
       refine c_seq ?_
       refine c_region ?_
       refine g_v rfl r_move ?_
       refine g_nil ?_
       refine d_then ?_
       refine c_block ?_
       refine c_seq ?_
       refine c_region ?_
       refine g_v rfl (r_eql rfl rfl) ?_
       refine g_v rfl r_assign ?_
       refine g_nil ?_
       refine d_then ?_
       refine c_cond rfl (fun h1814 => ?_) (fun h1814 => ?_)
       ·
        replace hm := ite_t hm (of_decide_eq_true h1814)
        refine c_seq ?_
        refine c_region ?_
        refine g_v rfl r_move ?_
        refine g_v rfl r_move ?_
        replace hm := bnd hm
        obtain ⟨x1815, hx1816, hm⟩ := hm
        refine g_cn ⟨w0, M, (1000, g11, .cells #[.slice A1422 l1421.length c1423, mapV A1425] 67 (0, 0)) :: (100100, g1633, .cells #[.int .i64 x1629.fKind, .int .i64 x1629.fAt, .int .u32 x1629.fN, .string x1629.fText, .bool x1629.fPoints] 47 (0, 0)) :: (100170, g12, .cells #[.string s1428, .slice A1419 l1418.length c1420] 57 (0, 0)) :: H, (1000, ⟨.slice A1422 l1421.length c1423, 5, 1, l1421.length, l1421.flatMap (fun x : Int => [Value.int .u8 x])⟩) :: (1001, ⟨mapV A1425, 65, 2, l1424.length, l1424.flatMap (mcell (fun x : ByteArray => Value.string x) (fun x : Int => Value.int .i64 x))⟩) :: (22, ⟨.slice A1419 l1418.length c1420, 91, 2, l1418.length, l1418.flatMap Gref04_Place.enc⟩) :: R, φ⟩ (fun W h => (ok_front (t := 100155) (t' := 1000) (ok_frontR (t := 100150) (t' := 1000) (ok_frontR (t := 100151) (t' := 1001) h rfl) rfl) rfl)) Try.call28 rfl rfl (c_pack_Packer_Raw x1636 g11 (⟨l1421, l1424⟩ : Gpack_Packer) A1422 c1423 hc1423 A1425 c1426 trivial _ hx1816) (fun ⟨A1817, c1818, A1820, c1821⟩ ⟨hc1818, hc1821⟩ => ?_)
        refine g_sta _ (fun W h => (ok_frontR (t := 2000) (t' := 100150) (ok_frontR (t := 2001) (t' := 100151) (ok_front (t := 1000) (t' := 100155) h rfl) rfl) rfl)) ?_
        refine g_nil ?_
        refine d_then ?_
        refine c_flat [(1, .slice Ap1_0 p1.length cp1_0), (5, .bool x1), (6, .pointer (some ⟨g11, 0, none⟩)), (7, .pointer (some ⟨g12, 0, none⟩)), (9, .int .i64 i1427), (12, .string x1636), (13, .bool true)] ⟨rfl, rfl, rfl, rfl, rfl, rfl, rfl, trivial⟩ (fun u => ?_)
        refine c_sta ⟨w0, M, (100155, g11, .cells #[.slice A1817 x1815.fb.length c1818, mapV A1820] 67 (0, 0)) :: (100100, g1633, .cells #[.int .i64 x1629.fKind, .int .i64 x1629.fAt, .int .u32 x1629.fN, .string x1629.fText, .bool x1629.fPoints] 47 (0, 0)) :: (100170, g12, .cells #[.string s1428, .slice A1419 l1418.length c1420] 57 (0, 0)) :: H, (100150, ⟨.slice A1817 x1815.fb.length c1818, 5, 1, x1815.fb.length, x1815.fb.flatMap (fun x : Int => [Value.int .u8 x])⟩) :: (100151, ⟨mapV A1820, 65, 2, x1815.fplaces.length, x1815.fplaces.flatMap (mcell (fun x : ByteArray => Value.string x) (fun x : Int => Value.int .i64 x))⟩) :: (22, ⟨.slice A1419 l1418.length c1420, 91, 2, l1418.length, l1418.flatMap Gref04_Place.enc⟩) :: R, φ⟩ (fun _ h => h) ?_
        refine c_region ?_
        refine g_v rfl r_move ?_
        refine g_v rfl r_move ?_
        refine g_v rfl (r_nilck rfl) ?_
        refine g_v rfl (r_field (n := 0) Try.underlying57 rfl Try.sizeOf9 rfl rfl) ?_
        refine g_v rfl (r_load (tag := 100170) rfl rfl rfl Try.isAgg9) ?_
        refine g_v rfl r_move ?_
        replace hm := bnd hm
        obtain ⟨s1823, hs1823, hm⟩ := hm
        refine g_v rfl (r_addT rfl rfl hs1823) ?_
        refine g_v rfl (r_nilck rfl) ?_
        refine g_v rfl (r_field (n := 0) Try.underlying57 rfl Try.sizeOf9 rfl rfl) ?_
        refine g_storeL (tag := 100170) rfl rfl rfl rfl Try.sizeOf9 rfl rfl ?_
        refine g_nil ?_
        refine d_normal_block ?_
        exact d_round (l1418, x1815.fb, x1815.fplaces, true, s1823, A1419, c1420, A1817, c1818, A1820, c1821) ⟨hm, hc1420, hc1818, trivial⟩ Nat.zero_lt_one ⟨rfl, rfl, rfl, rfl, rfl, rfl, trivial⟩ (fun W h => (ok_front (t := 100170) (t' := 100170) (ok_front (t := 100155) (t' := 100155) (ok_frontR (t := 22) (t' := 22) (ok_frontR (t := 100150) (t' := 100150) (ok_frontR (t := 100151) (t' := 100151) (h.dropH (t := 100100) rfl) rfl) rfl) rfl) rfl) rfl).phi (fun W hφ => hφ))
       ·
        replace hm := ite_f hm (of_decide_eq_false h1814)
        refine c_seq ?_
        refine c_region ?_
        refine g_v rfl (r_eql rfl rfl) ?_
        refine g_v rfl r_assign ?_
        refine g_nil ?_
        refine d_then ?_
        refine c_flat [(1, .slice Ap1_0 p1.length cp1_0), (5, .bool x1), (6, .pointer (some ⟨g11, 0, none⟩)), (7, .pointer (some ⟨g12, 0, none⟩)), (9, .int .i64 i1427), (10, .pointer (some ⟨g1633, 0, none⟩)), (12, .string x1636), (13, .bool true), (54, .int .i64 i1635), (80, .bool (decide (i1635 = 3)))] ⟨rfl, rfl, rfl, rfl, rfl, rfl, rfl, rfl, rfl, rfl, trivial⟩ (fun u => ?_)
        refine c_sta ⟨w0, M, (100100, g1633, .cells #[.int .i64 x1629.fKind, .int .i64 x1629.fAt, .int .u32 x1629.fN, .string x1629.fText, .bool x1629.fPoints] 47 (0, 0)) :: (100170, g12, .cells #[.string s1428, .slice A1419 l1418.length c1420] 57 (0, 0)) :: (100155, g11, .cells #[.slice A1422 l1421.length c1423, mapV A1425] 67 (0, 0)) :: H, (22, ⟨.slice A1419 l1418.length c1420, 91, 2, l1418.length, l1418.flatMap Gref04_Place.enc⟩) :: (100150, ⟨.slice A1422 l1421.length c1423, 5, 1, l1421.length, l1421.flatMap (fun x : Int => [Value.int .u8 x])⟩) :: (100151, ⟨mapV A1425, 65, 2, l1424.length, l1424.flatMap (mcell (fun x : ByteArray => Value.string x) (fun x : Int => Value.int .i64 x))⟩) :: R, φ⟩ (fun _ h => h) ?_
        refine c_cond rfl (fun h1824 => ?_) (fun h1824 => ?_)
        ·
         replace hm := ite_t hm (of_decide_eq_true h1824)
         refine c_seq ?_
         refine c_region ?_
         refine g_v rfl r_move ?_
         refine g_v rfl (r_field (n := 2) Try.underlying47 rfl Try.sizeOf36 rfl rfl) ?_
         refine g_v rfl (r_load (tag := 100100) rfl rfl rfl Try.isAgg36) ?_
         refine g_v rfl (r_conv Try.underlying36 Try.underlying33 rfl rfl) ?_
         replace hm := bnd hm
         obtain ⟨x1825, hx1826, hm⟩ := hm
         refine g_cn ⟨w0, M, (1000, g11, .cells #[.slice A1422 l1421.length c1423, mapV A1425] 67 (0, 0)) :: (100100, g1633, .cells #[.int .i64 x1629.fKind, .int .i64 x1629.fAt, .int .u32 x1629.fN, .string x1629.fText, .bool x1629.fPoints] 47 (0, 0)) :: (100170, g12, .cells #[.string s1428, .slice A1419 l1418.length c1420] 57 (0, 0)) :: H, (1000, ⟨.slice A1422 l1421.length c1423, 5, 1, l1421.length, l1421.flatMap (fun x : Int => [Value.int .u8 x])⟩) :: (1001, ⟨mapV A1425, 65, 2, l1424.length, l1424.flatMap (mcell (fun x : ByteArray => Value.string x) (fun x : Int => Value.int .i64 x))⟩) :: (22, ⟨.slice A1419 l1418.length c1420, 91, 2, l1418.length, l1418.flatMap Gref04_Place.enc⟩) :: R, φ⟩ (fun W h => (ok_front (t := 100155) (t' := 1000) (ok_frontR (t := 100150) (t' := 1000) (ok_frontR (t := 100151) (t' := 1001) h rfl) rfl) rfl)) Try.call30 rfl rfl (c_pack_Packer_Word (IntKind.u16.wrap x1629.fN) g11 (⟨l1421, l1424⟩ : Gpack_Packer) A1422 c1423 hc1423 A1425 c1426 trivial _ hx1826) (fun ⟨A1827, c1828, A1830, c1831⟩ ⟨hc1828, hc1831⟩ => ?_)
         refine g_sta _ (fun W h => (ok_frontR (t := 2000) (t' := 100150) (ok_frontR (t := 2001) (t' := 100151) (ok_front (t := 1000) (t' := 100155) h rfl) rfl) rfl)) ?_
         refine g_nil ?_
         refine d_then ?_
         refine c_seq ?_
         refine c_region ?_
         refine g_v rfl r_move ?_
         refine g_v rfl (r_field (n := 2) Try.underlying47 rfl Try.sizeOf36 rfl rfl) ?_
         refine g_v rfl (r_load (tag := 100100) rfl rfl rfl Try.isAgg36) ?_
         refine g_v rfl (r_conv Try.underlying36 Try.underlying5 rfl rfl) ?_
         replace hm := bnd hm
         obtain ⟨x1833, hx1834, hm⟩ := hm
         refine g_cn ⟨w0, M, (1000, g11, .cells #[.slice A1827 x1825.fb.length c1828, mapV A1830] 67 (0, 0)) :: (100100, g1633, .cells #[.int .i64 x1629.fKind, .int .i64 x1629.fAt, .int .u32 x1629.fN, .string x1629.fText, .bool x1629.fPoints] 47 (0, 0)) :: (100170, g12, .cells #[.string s1428, .slice A1419 l1418.length c1420] 57 (0, 0)) :: H, (1000, ⟨.slice A1827 x1825.fb.length c1828, 5, 1, x1825.fb.length, x1825.fb.flatMap (fun x : Int => [Value.int .u8 x])⟩) :: (1001, ⟨mapV A1830, 65, 2, x1825.fplaces.length, x1825.fplaces.flatMap (mcell (fun x : ByteArray => Value.string x) (fun x : Int => Value.int .i64 x))⟩) :: (22, ⟨.slice A1419 l1418.length c1420, 91, 2, l1418.length, l1418.flatMap Gref04_Place.enc⟩) :: R, φ⟩ (fun W h => (ok_front (t := 100155) (t' := 1000) (ok_frontR (t := 100150) (t' := 1000) (ok_frontR (t := 100151) (t' := 1001) h rfl) rfl) rfl)) Try.call31 rfl rfl (c_pack_Packer_Byte (IntKind.u8.wrap x1629.fN) g11 x1825 A1827 c1828 hc1828 A1830 c1831 trivial _ hx1834) (fun ⟨A1835, c1836, A1838, c1839⟩ ⟨hc1836, hc1839⟩ => ?_)
         refine g_sta _ (fun W h => (ok_frontR (t := 2000) (t' := 100150) (ok_frontR (t := 2001) (t' := 100151) (ok_front (t := 1000) (t' := 100155) h rfl) rfl) rfl)) ?_
         refine g_nil ?_
         refine d_then ?_
         refine c_flat [(1, .slice Ap1_0 p1.length cp1_0), (5, .bool x1), (6, .pointer (some ⟨g11, 0, none⟩)), (7, .pointer (some ⟨g12, 0, none⟩)), (9, .int .i64 i1427), (10, .pointer (some ⟨g1633, 0, none⟩)), (13, .bool true)] ⟨rfl, rfl, rfl, rfl, rfl, rfl, rfl, trivial⟩ (fun u => ?_)
         refine c_sta ⟨w0, M, (100155, g11, .cells #[.slice A1835 x1833.fb.length c1836, mapV A1838] 67 (0, 0)) :: (100100, g1633, .cells #[.int .i64 x1629.fKind, .int .i64 x1629.fAt, .int .u32 x1629.fN, .string x1629.fText, .bool x1629.fPoints] 47 (0, 0)) :: (100170, g12, .cells #[.string s1428, .slice A1419 l1418.length c1420] 57 (0, 0)) :: H, (100150, ⟨.slice A1835 x1833.fb.length c1836, 5, 1, x1833.fb.length, x1833.fb.flatMap (fun x : Int => [Value.int .u8 x])⟩) :: (100151, ⟨mapV A1838, 65, 2, x1833.fplaces.length, x1833.fplaces.flatMap (mcell (fun x : ByteArray => Value.string x) (fun x : Int => Value.int .i64 x))⟩) :: (22, ⟨.slice A1419 l1418.length c1420, 91, 2, l1418.length, l1418.flatMap Gref04_Place.enc⟩) :: R, φ⟩ (fun _ h => h) ?_
         refine c_seq ?_
         refine c_region ?_
         refine g_v rfl r_move ?_
         refine g_v rfl (r_field (n := 2) Try.underlying47 rfl Try.sizeOf36 rfl rfl) ?_
         refine g_v rfl (r_load (tag := 100100) rfl rfl rfl Try.isAgg36) ?_
         refine g_v rfl (r_rem rfl rfl (by decide) rfl) ?_
         refine g_v rfl (r_conv Try.underlying36 Try.underlying3 rfl rfl) ?_
         replace hm := bnd hm
         obtain ⟨x1841, hx1842, hm⟩ := hm
         refine g_cn ⟨w0, M, (1000, g12, .cells #[.string s1428, .slice A1419 l1418.length c1420] 57 (0, 0)) :: (100155, g11, .cells #[.slice A1835 x1833.fb.length c1836, mapV A1838] 67 (0, 0)) :: (100100, g1633, .cells #[.int .i64 x1629.fKind, .int .i64 x1629.fAt, .int .u32 x1629.fN, .string x1629.fText, .bool x1629.fPoints] 47 (0, 0)) :: H, (1000, ⟨.slice A1419 l1418.length c1420, 91, 2, l1418.length, l1418.flatMap Gref04_Place.enc⟩) :: (100150, ⟨.slice A1835 x1833.fb.length c1836, 5, 1, x1833.fb.length, x1833.fb.flatMap (fun x : Int => [Value.int .u8 x])⟩) :: (100151, ⟨mapV A1838, 65, 2, x1833.fplaces.length, x1833.fplaces.flatMap (mcell (fun x : ByteArray => Value.string x) (fun x : Int => Value.int .i64 x))⟩) :: R, φ⟩ (fun W h => (ok_front (t := 100170) (t' := 1000) (ok_frontR (t := 22) (t' := 1000) h rfl) rfl)) Try.call32 rfl rfl (c_ref04_Packer_Number (w64 (x1629.fN.tmod 65536)) 2 g12 (⟨s1428, l1418⟩ : Gref04_Packer) A1419 c1420 hc1420 _ hx1842) (fun ⟨A1843, c1844⟩ hc1844 => ?_)
         refine g_sta _ (fun W h => (ok_frontR (t := 2000) (t' := 22) (ok_front (t := 1000) (t' := 100170) h rfl) rfl)) ?_
         refine g_nil ?_
         refine d_then ?_
         refine c_region ?_
         refine g_v rfl r_move ?_
         refine g_v rfl (r_field (n := 2) Try.underlying47 rfl Try.sizeOf36 rfl rfl) ?_
         refine g_v rfl (r_load (tag := 100100) rfl rfl rfl Try.isAgg36) ?_
         refine g_v rfl (r_rem rfl rfl (by decide) rfl) ?_
         refine g_v rfl (r_conv Try.underlying36 Try.underlying3 rfl rfl) ?_
         replace hm := bnd hm
         obtain ⟨x1846, hx1847, hm⟩ := hm
         refine g_cn ⟨w0, M, (1000, g12, .cells #[.string x1841.fB, .slice A1843 x1841.fL.length c1844] 57 (0, 0)) :: (100155, g11, .cells #[.slice A1835 x1833.fb.length c1836, mapV A1838] 67 (0, 0)) :: (100100, g1633, .cells #[.int .i64 x1629.fKind, .int .i64 x1629.fAt, .int .u32 x1629.fN, .string x1629.fText, .bool x1629.fPoints] 47 (0, 0)) :: H, (1000, ⟨.slice A1843 x1841.fL.length c1844, 91, 2, x1841.fL.length, x1841.fL.flatMap Gref04_Place.enc⟩) :: (100150, ⟨.slice A1835 x1833.fb.length c1836, 5, 1, x1833.fb.length, x1833.fb.flatMap (fun x : Int => [Value.int .u8 x])⟩) :: (100151, ⟨mapV A1838, 65, 2, x1833.fplaces.length, x1833.fplaces.flatMap (mcell (fun x : ByteArray => Value.string x) (fun x : Int => Value.int .i64 x))⟩) :: R, φ⟩ (fun W h => (ok_front (t := 100170) (t' := 1000) (ok_frontR (t := 22) (t' := 1000) h rfl) rfl)) Try.call32 rfl rfl (c_ref04_Packer_Number (w64 (x1629.fN.tmod 256)) 1 g12 x1841 A1843 c1844 hc1844 _ hx1847) (fun ⟨A1848, c1849⟩ hc1849 => ?_)
         refine g_sta _ (fun W h => (ok_frontR (t := 2000) (t' := 22) (ok_front (t := 1000) (t' := 100170) h rfl) rfl)) ?_
         refine g_nil ?_
         refine d_normal_block ?_
         exact d_round (x1846.fL, x1833.fb, x1833.fplaces, true, x1846.fB, A1848, c1849, A1835, c1836, A1838, c1839) ⟨hm, hc1849, hc1836, trivial⟩ Nat.zero_lt_one ⟨rfl, rfl, rfl, rfl, rfl, rfl, trivial⟩ (fun W h => (h.dropH (t := 100100) rfl).phi (fun W hφ => hφ))
        ·
         replace hm := ite_f hm (of_decide_eq_false h1824)
         refine c_seq ?_
         refine c_region ?_
         refine g_v rfl (r_eql rfl rfl) ?_
         refine g_v rfl r_assign ?_
         refine g_nil ?_
         refine d_then ?_
         refine c_cond rfl (fun h1851 => ?_) (fun h1851 => ?_)
         ·
          replace hm := ite_t hm (of_decide_eq_true h1851)
          refine c_seq ?_
          refine c_region ?_
          refine g_v rfl r_move ?_
          refine g_v rfl (r_field (n := 2) Try.underlying47 rfl Try.sizeOf36 rfl rfl) ?_
          refine g_v rfl (r_load (tag := 100100) rfl rfl rfl Try.isAgg36) ?_
          replace hm := bnd hm
          obtain ⟨x1852, hx1853, hm⟩ := hm
          refine g_cn ⟨w0, M, (1000, g11, .cells #[.slice A1422 l1421.length c1423, mapV A1425] 67 (0, 0)) :: (100100, g1633, .cells #[.int .i64 x1629.fKind, .int .i64 x1629.fAt, .int .u32 x1629.fN, .string x1629.fText, .bool x1629.fPoints] 47 (0, 0)) :: (100170, g12, .cells #[.string s1428, .slice A1419 l1418.length c1420] 57 (0, 0)) :: H, (1000, ⟨.slice A1422 l1421.length c1423, 5, 1, l1421.length, l1421.flatMap (fun x : Int => [Value.int .u8 x])⟩) :: (1001, ⟨mapV A1425, 65, 2, l1424.length, l1424.flatMap (mcell (fun x : ByteArray => Value.string x) (fun x : Int => Value.int .i64 x))⟩) :: (22, ⟨.slice A1419 l1418.length c1420, 91, 2, l1418.length, l1418.flatMap Gref04_Place.enc⟩) :: R, φ⟩ (fun W h => (ok_front (t := 100155) (t' := 1000) (ok_frontR (t := 100150) (t' := 1000) (ok_frontR (t := 100151) (t' := 1001) h rfl) rfl) rfl)) Try.call33 rfl rfl (c_pack_Packer_Long x1629.fN g11 (⟨l1421, l1424⟩ : Gpack_Packer) A1422 c1423 hc1423 A1425 c1426 trivial _ hx1853) (fun ⟨A1854, c1855, A1857, c1858⟩ ⟨hc1855, hc1858⟩ => ?_)
          refine g_sta _ (fun W h => (ok_frontR (t := 2000) (t' := 100150) (ok_frontR (t := 2001) (t' := 100151) (ok_front (t := 1000) (t' := 100155) h rfl) rfl) rfl)) ?_
          refine g_nil ?_
          refine d_then ?_
          refine c_region ?_
          refine g_v rfl r_move ?_
          refine g_v rfl (r_field (n := 2) Try.underlying47 rfl Try.sizeOf36 rfl rfl) ?_
          refine g_v rfl (r_load (tag := 100100) rfl rfl rfl Try.isAgg36) ?_
          refine g_v rfl (r_conv Try.underlying36 Try.underlying3 rfl rfl) ?_
          replace hm := bnd hm
          obtain ⟨x1860, hx1861, hm⟩ := hm
          refine g_cn ⟨w0, M, (1000, g12, .cells #[.string s1428, .slice A1419 l1418.length c1420] 57 (0, 0)) :: (100155, g11, .cells #[.slice A1854 x1852.fb.length c1855, mapV A1857] 67 (0, 0)) :: (100100, g1633, .cells #[.int .i64 x1629.fKind, .int .i64 x1629.fAt, .int .u32 x1629.fN, .string x1629.fText, .bool x1629.fPoints] 47 (0, 0)) :: H, (1000, ⟨.slice A1419 l1418.length c1420, 91, 2, l1418.length, l1418.flatMap Gref04_Place.enc⟩) :: (100150, ⟨.slice A1854 x1852.fb.length c1855, 5, 1, x1852.fb.length, x1852.fb.flatMap (fun x : Int => [Value.int .u8 x])⟩) :: (100151, ⟨mapV A1857, 65, 2, x1852.fplaces.length, x1852.fplaces.flatMap (mcell (fun x : ByteArray => Value.string x) (fun x : Int => Value.int .i64 x))⟩) :: R, φ⟩ (fun W h => (ok_front (t := 100170) (t' := 1000) (ok_frontR (t := 22) (t' := 1000) h rfl) rfl)) Try.call32 rfl rfl (c_ref04_Packer_Number (w64 x1629.fN) 4 g12 (⟨s1428, l1418⟩ : Gref04_Packer) A1419 c1420 hc1420 _ hx1861) (fun ⟨A1862, c1863⟩ hc1863 => ?_)
          refine g_sta _ (fun W h => (ok_frontR (t := 2000) (t' := 22) (ok_front (t := 1000) (t' := 100170) h rfl) rfl)) ?_
          refine g_nil ?_
          refine d_normal_block ?_
          exact d_round (x1860.fL, x1852.fb, x1852.fplaces, true, x1860.fB, A1862, c1863, A1854, c1855, A1857, c1858) ⟨hm, hc1863, hc1855, trivial⟩ Nat.zero_lt_one ⟨rfl, rfl, rfl, rfl, rfl, rfl, trivial⟩ (fun W h => (h.dropH (t := 100100) rfl).phi (fun W hφ => hφ))
         ·
          replace hm := ite_f hm (of_decide_eq_false h1851)
          refine c_seq ?_
          refine c_region ?_
          refine g_v rfl (r_eql rfl rfl) ?_
          refine g_v rfl r_assign ?_
          refine g_nil ?_
          refine d_then ?_
          refine c_cond rfl (fun h1865 => ?_) (fun h1865 => ?_)
          ·
           replace hm := ite_t hm (of_decide_eq_true h1865)
           refine ga_start (n := 16) ⟨w0, M, (100100, g1633, .cells #[.int .i64 x1629.fKind, .int .i64 x1629.fAt, .int .u32 x1629.fN, .string x1629.fText, .bool x1629.fPoints] 47 (0, 0)) :: H, R, φ⟩ [] #[false, false, false, false, false, false, false, false, false, false, false, false, false, false, false, false] (fun W h => (((((h.dropR (t := 22) rfl).dropR (t := 100150) rfl).dropR (t := 100151) rfl).dropH (t := 100170) rfl).dropH (t := 100155) rfl).phi (fun W hφ => hφ)) mixed rfl rfl ?_
           refine ga_v (i := 0) #[true, false, false, false, false, false, false, false, false, false, false, false, false, false, false, false] rfl (by kernel_rfl) (fun _ _ _ _ h => h) rfl (r_move) ?_
           refine ga_v (i := 1) #[true, true, false, false, false, false, false, false, false, false, false, false, false, false, false, false] rfl (by kernel_rfl) (fun _ _ _ _ h => h) rfl (r_field (n := 1) Try.underlying47 rfl Try.sizeOf3 rfl rfl) ?_
           refine ga_v (i := 2) #[true, true, true, false, false, false, false, false, false, false, false, false, false, false, false, false] rfl (by kernel_rfl) (fun _ _ _ _ h => h) rfl (r_load (tag := 100100) rfl rfl rfl Try.isAgg3) ?_
           refine ga_v (i := 3) #[true, true, true, true, false, false, false, false, false, false, false, false, false, false, false, false] rfl (by kernel_rfl) (fun _ _ _ _ h => h) rfl (r_field (n := 2) Try.underlying47 rfl Try.sizeOf36 rfl rfl) ?_
           refine ga_v (i := 4) #[true, true, true, true, true, false, false, false, false, false, false, false, false, false, false, false] rfl (by kernel_rfl) (fun _ _ _ _ h => h) rfl (r_load (tag := 100100) rfl rfl rfl Try.isAgg36) ?_
           refine ga_v (i := 5) #[true, true, true, true, true, true, false, false, false, false, false, false, false, false, false, false] rfl (by kernel_rfl) (fun _ _ _ _ h => h) rfl (r_conv Try.underlying36 Try.underlying33 rfl rfl) ?_
           refine ga_v (i := 7) #[true, true, true, true, true, true, false, true, false, false, false, false, false, false, false, false] rfl (by kernel_rfl) (fun _ _ _ _ h => h) rfl (r_move) ?_
           refine ga_v (i := 8) #[true, true, true, true, true, true, false, true, true, false, false, false, false, false, false, false] rfl (by kernel_rfl) (fun _ _ _ _ h => h) rfl (r_field (n := 1) Try.underlying47 rfl Try.sizeOf3 rfl rfl) ?_
           refine ga_v (i := 9) #[true, true, true, true, true, true, false, true, true, true, false, false, false, false, false, false] rfl (by kernel_rfl) (fun _ _ _ _ h => h) rfl (r_load (tag := 100100) rfl rfl rfl Try.isAgg3) ?_
           refine ga_v (i := 10) #[true, true, true, true, true, true, false, true, true, true, true, false, false, false, false, false] rfl (by kernel_rfl) (fun _ _ _ _ h => h) rfl (r_field (n := 2) Try.underlying47 rfl Try.sizeOf36 rfl rfl) ?_
           refine ga_v (i := 11) #[true, true, true, true, true, true, false, true, true, true, true, true, false, false, false, false] rfl (by kernel_rfl) (fun _ _ _ _ h => h) rfl (r_load (tag := 100100) rfl rfl rfl Try.isAgg36) ?_
           refine ga_v (i := 12) #[true, true, true, true, true, true, false, true, true, true, true, true, true, false, false, false] rfl (by kernel_rfl) (fun _ _ _ _ h => h) rfl (r_conv Try.underlying36 Try.underlying33 rfl rfl) ?_
           replace hm := bnd hm
           obtain ⟨⟨x1900, x1901⟩, hx1902, hm⟩ := hm
           refine ga_cn (first := #[]) (i := 6) #[true, true, true, true, true, true, true, true, true, true, true, true, true, false, false, false] rfl (by kernel_rfl) (by decide)  ⟨w0, M, (1000, g11, .cells #[.slice A1422 l1421.length c1423, mapV A1425] 67 (0, 0)) :: (100100, g1633, .cells #[.int .i64 x1629.fKind, .int .i64 x1629.fAt, .int .u32 x1629.fN, .string x1629.fText, .bool x1629.fPoints] 47 (0, 0)) :: (100170, g12, .cells #[.string s1428, .slice A1419 l1418.length c1420] 57 (0, 0)) :: H, (1000, ⟨.slice A1422 l1421.length c1423, 5, 1, l1421.length, l1421.flatMap (fun x : Int => [Value.int .u8 x])⟩) :: (1001, ⟨mapV A1425, 65, 2, l1424.length, l1424.flatMap (mcell (fun x : ByteArray => Value.string x) (fun x : Int => Value.int .i64 x))⟩) :: (22, ⟨.slice A1419 l1418.length c1420, 91, 2, l1418.length, l1418.flatMap Gref04_Place.enc⟩) :: R, φ⟩ (fun W h => (ok_front (t := 100155) (t' := 1000) (ok_frontR (t := 100150) (t' := 1000) (ok_frontR (t := 100151) (t' := 1001) h rfl) rfl) rfl)) Try.call34 rfl rfl rfl (c_pack_Packer_Patch x1629.fAt (IntKind.u16.wrap x1629.fN) g11 (⟨l1421, l1424⟩ : Gpack_Packer) A1422 c1423 hc1423 A1425 c1426 trivial _ hx1902) (fun ⟨A1903, c1904, A1906, c1907⟩ W ⟨hc1904, hc1907⟩ h => ((((((ok_frontR (t := 2000) (t' := 100150) (ok_frontR (t := 2001) (t' := 100151) (ok_front (t := 1000) (t' := 100155) h rfl) rfl) rfl).dropR (t := 100150) rfl).dropR (t := 100151) rfl).dropR (t := 22) rfl).dropH (t := 100155) rfl).dropH (t := 100170) rfl).phi (fun W hφ => hφ)) (fun ⟨A1903, c1904, A1906, c1907⟩ ⟨hc1904, hc1907⟩ => ?_)
           refine ga_sta _ (fun W h => (ok_frontR (t := 2000) (t' := 100150) (ok_frontR (t := 2001) (t' := 100151) (ok_front (t := 1000) (t' := 100155) h rfl) rfl) rfl)) ?_
           replace hm := bnd hm
           obtain ⟨⟨x1910, x1911⟩, hx1912, hm⟩ := hm
           refine ga_cn (first := #[]) (i := 13) #[true, true, true, true, true, true, true, true, true, true, true, true, true, true, false, false] rfl (by kernel_rfl) (by decide)  ⟨w0, M, (1000, g12, .cells #[.string s1428, .slice A1419 l1418.length c1420] 57 (0, 0)) :: (100155, g11, .cells #[.slice A1903 x1901.fb.length c1904, mapV A1906] 67 (0, 0)) :: (100100, g1633, .cells #[.int .i64 x1629.fKind, .int .i64 x1629.fAt, .int .u32 x1629.fN, .string x1629.fText, .bool x1629.fPoints] 47 (0, 0)) :: H, (1000, ⟨.slice A1419 l1418.length c1420, 91, 2, l1418.length, l1418.flatMap Gref04_Place.enc⟩) :: (100150, ⟨.slice A1903 x1901.fb.length c1904, 5, 1, x1901.fb.length, x1901.fb.flatMap (fun x : Int => [Value.int .u8 x])⟩) :: (100151, ⟨mapV A1906, 65, 2, x1901.fplaces.length, x1901.fplaces.flatMap (mcell (fun x : ByteArray => Value.string x) (fun x : Int => Value.int .i64 x))⟩) :: R, φ⟩ (fun W h => (ok_front (t := 100170) (t' := 1000) (ok_frontR (t := 22) (t' := 1000) h rfl) rfl)) Try.call35 rfl rfl rfl (c_ref04_Packer_Patch x1629.fAt (IntKind.u16.wrap x1629.fN) g12 (⟨s1428, l1418⟩ : Gref04_Packer) A1419 c1420 hc1420 _ hx1912) (fun ⟨A1913, c1914⟩ W hc1914 h => ((((((ok_frontR (t := 2000) (t' := 22) (ok_front (t := 1000) (t' := 100170) h rfl) rfl).dropR (t := 22) rfl).dropR (t := 100150) rfl).dropR (t := 100151) rfl).dropH (t := 100170) rfl).dropH (t := 100155) rfl).phi (fun W hφ => hφ)) (fun ⟨A1913, c1914⟩ hc1914 => ?_)
           refine ga_sta _ (fun W h => (ok_frontR (t := 2000) (t' := 22) (ok_front (t := 1000) (t' := 100170) h rfl) rfl)) ?_
           refine ga_r (i := 14) #[true, true, true, true, true, true, true, true, true, true, true, true, true, true, true, false] rfl (by kernel_rfl) (by decide) rfl (r_eql rfl rfl) ?_
           refine ga_r (i := 15) #[true, true, true, true, true, true, true, true, true, true, true, true, true, true, true, true] rfl (by kernel_rfl) (by decide) rfl (r_assign) ?_
           refine ga_done (by kernel_rfl) ?_
           refine d_normal_block ?_
           exact d_round (x1911.fL, x1901.fb, x1901.fplaces, decide (x1900 = x1910), x1911.fB, A1913, c1914, A1903, c1904, A1906, c1907) ⟨hm, hc1914, hc1904, trivial⟩ Nat.zero_lt_one ⟨rfl, rfl, rfl, rfl, rfl, rfl, trivial⟩ (fun W h => (h.dropH (t := 100100) rfl).phi (fun W hφ => hφ))
          ·
           replace hm := ite_f hm (of_decide_eq_false h1865)
           refine ga_start (n := 12) ⟨w0, M, (100100, g1633, .cells #[.int .i64 x1629.fKind, .int .i64 x1629.fAt, .int .u32 x1629.fN, .string x1629.fText, .bool x1629.fPoints] 47 (0, 0)) :: H, R, φ⟩ [] #[false, false, false, false, false, false, false, false, false, false, false, false] (fun W h => (((((h.dropR (t := 22) rfl).dropR (t := 100150) rfl).dropR (t := 100151) rfl).dropH (t := 100170) rfl).dropH (t := 100155) rfl).phi (fun W hφ => hφ)) mixed rfl rfl ?_
           refine ga_v (i := 0) #[true, false, false, false, false, false, false, false, false, false, false, false] rfl (by kernel_rfl) (fun _ _ _ _ h => h) rfl (r_move) ?_
           refine ga_v (i := 1) #[true, true, false, false, false, false, false, false, false, false, false, false] rfl (by kernel_rfl) (fun _ _ _ _ h => h) rfl (r_move) ?_
           refine ga_v (i := 2) #[true, true, true, false, false, false, false, false, false, false, false, false] rfl (by kernel_rfl) (fun _ _ _ _ h => h) rfl (r_field (n := 4) Try.underlying47 rfl Try.sizeOf4 rfl rfl) ?_
           refine ga_v (i := 3) #[true, true, true, true, false, false, false, false, false, false, false, false] rfl (by kernel_rfl) (fun _ _ _ _ h => h) rfl (r_load (tag := 100100) rfl rfl rfl Try.isAgg4) ?_
           refine ga_v (i := 5) #[true, true, true, true, false, true, false, false, false, false, false, false] rfl (by kernel_rfl) (fun _ _ _ _ h => h) rfl (r_move) ?_
           refine ga_v (i := 6) #[true, true, true, true, false, true, true, false, false, false, false, false] rfl (by kernel_rfl) (fun _ _ _ _ h => h) rfl (r_move) ?_
           refine ga_v (i := 7) #[true, true, true, true, false, true, true, true, false, false, false, false] rfl (by kernel_rfl) (fun _ _ _ _ h => h) rfl (r_field (n := 4) Try.underlying47 rfl Try.sizeOf4 rfl rfl) ?_
           refine ga_v (i := 8) #[true, true, true, true, false, true, true, true, true, false, false, false] rfl (by kernel_rfl) (fun _ _ _ _ h => h) rfl (r_load (tag := 100100) rfl rfl rfl Try.isAgg4) ?_
           replace hm := bnd hm
           obtain ⟨⟨x1951, x1952⟩, hx1953, hm⟩ := hm
           refine ga_cn (first := #[]) (i := 4) #[true, true, true, true, true, true, true, true, true, false, false, false] rfl (by kernel_rfl) (by decide)  ⟨w0, M, (1000, g11, .cells #[.slice A1422 l1421.length c1423, mapV A1425] 67 (0, 0)) :: (100100, g1633, .cells #[.int .i64 x1629.fKind, .int .i64 x1629.fAt, .int .u32 x1629.fN, .string x1629.fText, .bool x1629.fPoints] 47 (0, 0)) :: (100170, g12, .cells #[.string s1428, .slice A1419 l1418.length c1420] 57 (0, 0)) :: H, (1000, ⟨.slice A1422 l1421.length c1423, 5, 1, l1421.length, l1421.flatMap (fun x : Int => [Value.int .u8 x])⟩) :: (1001, ⟨mapV A1425, 65, 2, l1424.length, l1424.flatMap (mcell (fun x : ByteArray => Value.string x) (fun x : Int => Value.int .i64 x))⟩) :: (22, ⟨.slice A1419 l1418.length c1420, 91, 2, l1418.length, l1418.flatMap Gref04_Place.enc⟩) :: R, φ⟩ (fun W h => (ok_front (t := 100155) (t' := 1000) (ok_frontR (t := 100150) (t' := 1000) (ok_frontR (t := 100151) (t' := 1001) h rfl) rfl) rfl)) Try.call27 rfl rfl rfl (c_pack_Packer_Name x1636 x1629.fPoints g11 (⟨l1421, l1424⟩ : Gpack_Packer) A1422 c1423 hc1423 A1425 c1426 trivial _ hx1953) (fun ⟨A1954, c1955, A1957, c1958⟩ W ⟨hc1955, hc1958⟩ h => ((((((ok_frontR (t := 2000) (t' := 100150) (ok_frontR (t := 2001) (t' := 100151) (ok_front (t := 1000) (t' := 100155) h rfl) rfl) rfl).dropR (t := 100150) rfl).dropR (t := 100151) rfl).dropR (t := 22) rfl).dropH (t := 100155) rfl).dropH (t := 100170) rfl).phi (fun W hφ => hφ)) (fun ⟨A1954, c1955, A1957, c1958⟩ ⟨hc1955, hc1958⟩ => ?_)
           refine ga_sta _ (fun W h => (ok_frontR (t := 2000) (t' := 100150) (ok_frontR (t := 2001) (t' := 100151) (ok_front (t := 1000) (t' := 100155) h rfl) rfl) rfl)) ?_
           replace hm := bnd hm
           obtain ⟨⟨x1961, x1962⟩, hx1963, hm⟩ := hm
           refine ga_cn (first := #[]) (i := 9) #[true, true, true, true, true, true, true, true, true, true, false, false] rfl (by kernel_rfl) (by decide)  ⟨w0, M, (1000, g12, .cells #[.string s1428, .slice A1419 l1418.length c1420] 57 (0, 0)) :: (100155, g11, .cells #[.slice A1954 x1952.fb.length c1955, mapV A1957] 67 (0, 0)) :: (100100, g1633, .cells #[.int .i64 x1629.fKind, .int .i64 x1629.fAt, .int .u32 x1629.fN, .string x1629.fText, .bool x1629.fPoints] 47 (0, 0)) :: H, (1000, ⟨.slice A1419 l1418.length c1420, 91, 2, l1418.length, l1418.flatMap Gref04_Place.enc⟩) :: (100150, ⟨.slice A1954 x1952.fb.length c1955, 5, 1, x1952.fb.length, x1952.fb.flatMap (fun x : Int => [Value.int .u8 x])⟩) :: (100151, ⟨mapV A1957, 65, 2, x1952.fplaces.length, x1952.fplaces.flatMap (mcell (fun x : ByteArray => Value.string x) (fun x : Int => Value.int .i64 x))⟩) :: R, φ⟩ (fun W h => (ok_front (t := 100170) (t' := 1000) (ok_frontR (t := 22) (t' := 1000) h rfl) rfl)) Try.call36 rfl rfl rfl (c_ref04_Packer_Name x1636 x1629.fPoints g12 (⟨s1428, l1418⟩ : Gref04_Packer) A1419 c1420 hc1420 _ hx1963) (fun ⟨A1964, c1965⟩ W hc1965 h => ((((((ok_frontR (t := 2000) (t' := 22) (ok_front (t := 1000) (t' := 100170) h rfl) rfl).dropR (t := 22) rfl).dropR (t := 100150) rfl).dropR (t := 100151) rfl).dropH (t := 100170) rfl).dropH (t := 100155) rfl).phi (fun W hφ => hφ)) (fun ⟨A1964, c1965⟩ hc1965 => ?_)
           refine ga_sta _ (fun W h => (ok_frontR (t := 2000) (t' := 22) (ok_front (t := 1000) (t' := 100170) h rfl) rfl)) ?_
           refine ga_r (i := 10) #[true, true, true, true, true, true, true, true, true, true, true, false] rfl (by kernel_rfl) (by decide) rfl (r_eql rfl rfl) ?_
           refine ga_r (i := 11) #[true, true, true, true, true, true, true, true, true, true, true, true] rfl (by kernel_rfl) (by decide) rfl (r_assign) ?_
           refine ga_done (by kernel_rfl) ?_
           refine d_normal_block ?_
           exact d_round (x1962.fL, x1952.fb, x1952.fplaces, decide (x1951 = x1961), x1962.fB, A1964, c1965, A1954, c1955, A1957, c1958) ⟨hm, hc1965, hc1955, trivial⟩ Nat.zero_lt_one ⟨rfl, rfl, rfl, rfl, rfl, rfl, trivial⟩ (fun W h => (h.dropH (t := 100100) rfl).phi (fun W hφ => hφ))
      ·
       unfold m_law04_PackPlays_j5 at hm
       refine d_flat [(1, .slice Ap1_0 p1.length cp1_0), (5, .bool x1), (6, .pointer (some ⟨g11, 0, none⟩)), (7, .pointer (some ⟨g12, 0, none⟩)), (9, .int .i64 i1427), (13, .bool b1801)] ⟨rfl, rfl, rfl, rfl, rfl, rfl, trivial⟩ (fun u => ?_)
       refine d_sta ⟨w0, M, (100170, g12, .cells #[.string s1802, .slice A1793 l1792.length c1794] 57 (0, 0)) :: (100155, g11, .cells #[.slice A1796 l1795.length c1797, mapV A1799] 67 (0, 0)) :: H, (22, ⟨.slice A1793 l1792.length c1794, 91, 2, l1792.length, l1792.flatMap Gref04_Place.enc⟩) :: (100150, ⟨.slice A1796 l1795.length c1797, 5, 1, l1795.length, l1795.flatMap (fun x : Int => [Value.int .u8 x])⟩) :: (100151, ⟨mapV A1799, 65, 2, l1798.length, l1798.flatMap (mcell (fun x : ByteArray => Value.string x) (fun x : Int => Value.int .i64 x))⟩) :: R, φ⟩ (fun _ h => h) ?_
       refine d_then ?_
       refine c_seq ?_
       refine ga_start (n := 12) ⟨w0, M, (100170, g12, .cells #[.string s1802, .slice A1793 l1792.length c1794] 57 (0, 0)) :: (100155, g11, .cells #[.slice A1796 l1795.length c1797, mapV A1799] 67 (0, 0)) :: H, (22, ⟨.slice A1793 l1792.length c1794, 91, 2, l1792.length, l1792.flatMap Gref04_Place.enc⟩) :: R, φ⟩ [] #[false, false, false, false, false, false, false, false, false, false, false, false] (fun W h => ((h.dropR (t := 100150) rfl).dropR (t := 100151) rfl).phi (fun W hφ => hφ)) mixed rfl rfl ?_
       refine ga_r (i := 0) #[true, false, false, false, false, false, false, false, false, false, false, false] rfl (by kernel_rfl) (by decide) rfl (r_move) ?_
       refine ga_r (i := 1) #[true, true, false, false, false, false, false, false, false, false, false, false] rfl (by kernel_rfl) (by decide) rfl (r_not rfl) ?_
       refine ga_r (i := 2) #[true, true, true, false, false, false, false, false, false, false, false, false] rfl (by kernel_rfl) (by decide) rfl (r_move) ?_
       refine ga_if (t := 134) rfl (fun h1809 => ?_) (fun h1809 => ?_)
       ·
        have h1809' : b1801 = false := by revert h1809; cases b1801 <;> simp
        replace hm := ite_f hm (bool_nt h1809')
        refine ga_no (i := 3) #[true, true, true, true, false, false, false, false, false, false, false, false] rfl (by kernel_rfl) (fun _ _ _ _ h => h) rfl rfl rfl rfl rfl h1809 ?_
        refine ga_no (i := 4) #[true, true, true, true, true, false, false, false, false, false, false, false] rfl (by kernel_rfl) (fun _ _ _ _ h => h) rfl rfl rfl rfl rfl h1809 ?_
        refine ga_no (i := 5) #[true, true, true, true, true, true, false, false, false, false, false, false] rfl (by kernel_rfl) (fun _ _ _ _ h => h) rfl rfl rfl rfl rfl h1809 ?_
        refine ga_no (i := 6) #[true, true, true, true, true, true, true, false, false, false, false, false] rfl (by kernel_rfl) (fun _ _ _ _ h => h) rfl rfl rfl rfl rfl h1809 ?_
        refine ga_no (i := 7) #[true, true, true, true, true, true, true, true, false, false, false, false] rfl (by kernel_rfl) (fun _ _ _ _ h => h) rfl rfl rfl rfl rfl h1809 ?_
        refine ga_no (i := 8) #[true, true, true, true, true, true, true, true, true, false, false, false] rfl (by kernel_rfl) (fun _ _ _ _ h => h) rfl rfl rfl rfl rfl h1809 ?_
        refine ga_no (i := 9) #[true, true, true, true, true, true, true, true, true, true, false, false] rfl (by kernel_rfl) (fun _ _ _ _ h => h) rfl rfl rfl rfl rfl h1809 ?_
        refine ga_no (i := 10) #[true, true, true, true, true, true, true, true, true, true, true, false] rfl (by kernel_rfl) (fun _ _ _ _ h => h) rfl rfl rfl rfl rfl h1809 ?_
        refine ga_r (i := 11) #[true, true, true, true, true, true, true, true, true, true, true, true] rfl (by kernel_rfl) (by decide) rfl (r_pick1 rfl h1809) ?_
        refine ga_done (by kernel_rfl) ?_
        refine d_then ?_
        refine c_cond1 rfl rfl ?_
        refine c_seq ?_
        refine c_region ?_
        refine g_v rfl r_assign ?_
        refine g_nil ?_
        refine d_then ?_
        refine c_ret ?_
        refine d_ret_block ?_
        refine d_ret_then ?_
        refine d_ret_then ?_
        refine d_ret_block ?_
        refine d_ret_then ?_
        refine d_ret_then ?_
        replace hm := nx_out (C := (fun e => Sum.elim (fun e => m_law04_PackPlays_j2 x1 e.1 e.2.1 e.2.2.1 e.2.2.2) (fun x => some x) e = some r)) hm hnx3 hr3
        replace hm : some false = some r := hm
        replace hm := Option.some.inj hm
        subst hm
        refine d_retC () Try.results7 ?_ trivial (fun W h => ok_pre (H1 := [_, _]) (R1 := [_, _, _]) h (fun W hφ => hφ)) (.inr rfl)
        refine res_tmp ?_
        refine res_nil ?_
        exact rfl
       ·
        have h1809' : b1801 = true := by revert h1809; cases b1801 <;> simp
        replace hm := ite_t hm h1809'
        refine ga_do (i := 3) #[true, true, true, true, false, false, false, false, false, false, false, false] rfl (by kernel_rfl) (fun _ _ _ _ h => h) rfl rfl rfl rfl rfl h1809 (r_move) ?_
        refine ga_do (i := 5) #[true, true, true, true, false, true, false, false, false, false, false, false] rfl (by kernel_rfl) (fun _ _ _ _ h => h) rfl rfl rfl rfl rfl h1809 (r_move) ?_
        refine ga_do (i := 6) #[true, true, true, true, false, true, true, false, false, false, false, false] rfl (by kernel_rfl) (fun _ _ _ _ h => h) rfl rfl rfl rfl rfl h1809 (r_nilck rfl) ?_
        refine ga_do (i := 7) #[true, true, true, true, false, true, true, true, false, false, false, false] rfl (by kernel_rfl) (fun _ _ _ _ h => h) rfl rfl rfl rfl rfl h1809 (r_field (n := 0) Try.underlying57 rfl Try.sizeOf9 rfl rfl) ?_
        refine ga_do (i := 8) #[true, true, true, true, false, true, true, true, true, false, false, false] rfl (by kernel_rfl) (fun _ _ _ _ h => h) rfl rfl rfl rfl rfl h1809 (r_load (tag := 100170) rfl rfl rfl Try.isAgg9) ?_
        refine ga_do (i := 9) #[true, true, true, true, false, true, true, true, true, true, false, false] rfl (by kernel_rfl) (fun _ _ _ _ h => h) rfl rfl rfl rfl rfl h1809 (r_len Try.underlying9 rfl) ?_
        replace hm := bnd hm
        obtain ⟨x1810, hx1811, hm⟩ := hm
        refine ga_cnG (first := #[]) (i := 4) #[true, true, true, true, true, true, true, true, true, true, false, false] rfl (by kernel_rfl) (by decide) rfl rfl rfl rfl h1809  ⟨w0, M, (1000, g11, .cells #[.slice A1796 l1795.length c1797, mapV A1799] 67 (0, 0)) :: (100170, g12, .cells #[.string s1802, .slice A1793 l1792.length c1794] 57 (0, 0)) :: H, (1000, ⟨.slice A1796 l1795.length c1797, 5, 1, l1795.length, l1795.flatMap (fun x : Int => [Value.int .u8 x])⟩) :: (1001, ⟨mapV A1799, 65, 2, l1798.length, l1798.flatMap (mcell (fun x : ByteArray => Value.string x) (fun x : Int => Value.int .i64 x))⟩) :: (22, ⟨.slice A1793 l1792.length c1794, 91, 2, l1792.length, l1792.flatMap Gref04_Place.enc⟩) :: R, φ⟩ (fun W h => (ok_front (t := 100155) (t' := 1000) (ok_frontR (t := 100150) (t' := 1000) (ok_frontR (t := 100151) (t' := 1001) h rfl) rfl) rfl)) Try.call26 rfl rfl rfl (c_pack_Packer_Len g11 (⟨l1795, l1798⟩ : Gpack_Packer) A1796 c1797 hc1797 A1799 c1800 trivial _ hx1811) (fun _ W _ h => (ok_front (t := 100170) (t' := 100170) (ok_front (t := 100155) (t' := 100155) (((ok_frontR (t := 1000) (t' := 100150) (ok_frontR (t := 1001) (t' := 100151) (ok_front (t := 1000) (t' := 100155) h rfl) rfl) rfl).dropR (t := 100150) rfl).dropR (t := 100151) rfl) rfl) rfl).phi (fun W hφ => hφ)) (fun _ _ => ?_)
        refine ga_sta _ (fun W h => (ok_frontR (t := 1000) (t' := 100150) (ok_frontR (t := 1001) (t' := 100151) (ok_front (t := 1000) (t' := 100155) h rfl) rfl) rfl)) ?_
        refine ga_rG (i := 10) #[true, true, true, true, true, true, true, true, true, true, true, false] rfl (by kernel_rfl) (by decide) rfl rfl rfl rfl rfl h1809 (r_neq rfl rfl) ?_
        refine ga_r (i := 11) #[true, true, true, true, true, true, true, true, true, true, true, true] rfl (by kernel_rfl) (by decide) rfl (r_pick0 rfl h1809) ?_
        refine ga_done (by kernel_rfl) ?_
        refine d_then ?_
        refine c_flat [(1, .slice Ap1_0 p1.length cp1_0), (5, .bool x1), (6, .pointer (some ⟨g11, 0, none⟩)), (7, .pointer (some ⟨g12, 0, none⟩)), (9, .int .i64 i1427), (143, .bool (decide (x1810 ≠ (s1802.size : Int))))] ⟨rfl, rfl, rfl, rfl, rfl, rfl, trivial⟩ (fun u => ?_)
        refine c_sta ⟨w0, M, (100155, g11, .cells #[.slice A1796 l1795.length c1797, mapV A1799] 67 (0, 0)) :: (100170, g12, .cells #[.string s1802, .slice A1793 l1792.length c1794] 57 (0, 0)) :: H, (100150, ⟨.slice A1796 l1795.length c1797, 5, 1, l1795.length, l1795.flatMap (fun x : Int => [Value.int .u8 x])⟩) :: (100151, ⟨mapV A1799, 65, 2, l1798.length, l1798.flatMap (mcell (fun x : ByteArray => Value.string x) (fun x : Int => Value.int .i64 x))⟩) :: (22, ⟨.slice A1793 l1792.length c1794, 91, 2, l1792.length, l1792.flatMap Gref04_Place.enc⟩) :: R, φ⟩ (fun _ h => h) ?_
        refine c_cond rfl (fun h1812 => ?_) (fun h1812 => ?_)
        ·
         replace hm := ite_t hm (of_decide_eq_true h1812)
         refine c_seq ?_
         refine c_region ?_
         refine g_v rfl r_assign ?_
         refine g_nil ?_
         refine d_then ?_
         refine c_ret ?_
         refine d_ret_block ?_
         refine d_ret_then ?_
         refine d_ret_then ?_
         refine d_ret_block ?_
         refine d_ret_then ?_
         refine d_ret_then ?_
         replace hm := nx_out (C := (fun e => Sum.elim (fun e => m_law04_PackPlays_j2 x1 e.1 e.2.1 e.2.2.1 e.2.2.2) (fun x => some x) e = some r)) hm hnx3 hr3
         replace hm : some false = some r := hm
         replace hm := Option.some.inj hm
         subst hm
         refine d_retC () Try.results7 ?_ trivial (fun W h => ok_pre (H1 := [_, _]) (R1 := [_, _, _]) h (fun W hφ => hφ)) (.inr rfl)
         refine res_tmp ?_
         refine res_nil ?_
         exact rfl
        ·
         replace hm := ite_f hm (of_decide_eq_false h1812)
         refine c_skip ?_
         refine d_normal_block ?_
         refine d_then ?_
         refine c_region ?_
         refine g_v rfl r_move ?_
         refine g_v rfl (r_add rfl rfl rfl) ?_
         refine g_v rfl r_assign ?_
         refine g_nil ?_
         obtain ⟨n1813, hn1813, hlp⟩ := nx_inl hm hnx3
         exact d_round (n1813, l1792, l1795, l1798, w64 (i1427 + 1), s1802, A1793, c1794, A1796, c1797, A1799, c1800) ⟨hlp, hc1794, hc1797, trivial⟩ hn1813 ⟨rfl, rfl, rfl, rfl, rfl, trivial⟩ (fun W h => (ok_front (t := 100170) (t' := 100170) (ok_front (t := 100155) (t' := 100155) (ok_frontR (t := 22) (t' := 22) (ok_frontR (t := 100150) (t' := 100150) (ok_frontR (t := 100151) (t' := 100151) h rfl) rfl) rfl) rfl) rfl).phi (fun W hφ => hφ))
    ·
     replace hm := ite_f hm (of_decide_eq_false h1628)
     refine c_exit ?_
     refine d_exit_then ?_
     refine d_exit_then ?_
     refine d_exit_block ?_
     replace hm := nx_out (C := (fun e => Sum.elim (fun e => m_law04_PackPlays_j2 x1 e.1 e.2.1 e.2.2.1 e.2.2.2) (fun x => some x) e = some r)) hm hnx3 hr3
     exact d_round (l1418, l1421, l1424, s1428, A1419, c1420, A1422, c1423, A1425, c1426) ⟨hm, hc1420, hc1423, trivial⟩ Nat.zero_lt_one ⟨rfl, rfl, rfl, trivial⟩ (fun W h => h.phi (fun W hφ => hφ))
   ·
    replace hm := ite_f hm (of_decide_eq_false h1627)
    refine g_no rfl rfl rfl rfl rfl h1627 ?_
    refine g_v rfl (r_pick0 rfl h1627) ?_
    refine g_nil ?_
    refine d_then ?_
    refine c_cond0 rfl rfl ?_
    refine c_exit ?_
    refine d_exit_then ?_
    refine d_exit_then ?_
    refine d_exit_block ?_
    replace hm := nx_out (C := (fun e => Sum.elim (fun e => m_law04_PackPlays_j2 x1 e.1 e.2.1 e.2.2.1 e.2.2.2) (fun x => some x) e = some r)) hm hnx3 hr3
    exact d_round (l1418, l1421, l1424, s1428, A1419, c1420, A1422, c1423, A1425, c1426) ⟨hm, hc1420, hc1423, trivial⟩ Nat.zero_lt_one ⟨rfl, rfl, rfl, trivial⟩ (fun W h => h.phi (fun W hφ => hφ))
  ·
   unfold m_law04_PackPlays_j2 at hm
   refine d_flat [(5, .bool x1), (6, .pointer (some ⟨g11, 0, none⟩)), (7, .pointer (some ⟨g12, 0, none⟩))] ⟨rfl, rfl, rfl, trivial⟩ (fun u => ?_)
   refine d_sta ⟨w0, M, (100170, g12, .cells #[.string s1212, .slice A1204 l1203.length c1205] 57 (0, 0)) :: (100155, g11, .cells #[.slice A1207 l1206.length c1208, mapV A1210] 67 (0, 0)) :: H, (22, ⟨.slice A1204 l1203.length c1205, 91, 2, l1203.length, l1203.flatMap Gref04_Place.enc⟩) :: (100150, ⟨.slice A1207 l1206.length c1208, 5, 1, l1206.length, l1206.flatMap (fun x : Int => [Value.int .u8 x])⟩) :: (100151, ⟨mapV A1210, 65, 2, l1209.length, l1209.flatMap (mcell (fun x : ByteArray => Value.string x) (fun x : Int => Value.int .i64 x))⟩) :: R, φ⟩ (fun _ h => h) ?_
   refine d_then ?_
   refine c_seq ?_
   refine ga_start (n := 11) ⟨w0, M, (100170, g12, .cells #[.string s1212, .slice A1204 l1203.length c1205] 57 (0, 0)) :: (100155, g11, .cells #[.slice A1207 l1206.length c1208, mapV A1210] 67 (0, 0)) :: H, (22, ⟨.slice A1204 l1203.length c1205, 91, 2, l1203.length, l1203.flatMap Gref04_Place.enc⟩) :: R, φ⟩ [] #[false, false, false, false, false, false, false, false, false, false, false] (fun W h => ((h.dropR (t := 100150) rfl).dropR (t := 100151) rfl).phi (fun W hφ => hφ)) mixed rfl rfl ?_
   refine ga_r (i := 0) #[true, false, false, false, false, false, false, false, false, false, false] rfl (by kernel_rfl) (by decide) rfl (r_move) ?_
   refine ga_r (i := 1) #[true, true, false, false, false, false, false, false, false, false, false] rfl (by kernel_rfl) (by decide) rfl (r_move) ?_
   refine ga_if (t := 145) rfl (fun h1219 => ?_) (fun h1219 => ?_)
   ·
    replace hm := ite_t hm h1219
    refine ga_do (i := 2) #[true, true, true, false, false, false, false, false, false, false, false] rfl (by kernel_rfl) (fun _ _ _ _ h => h) rfl rfl rfl rfl rfl h1219 (r_move) ?_
    refine ga_do (i := 4) #[true, true, true, false, true, false, false, false, false, false, false] rfl (by kernel_rfl) (fun _ _ _ _ h => h) rfl rfl rfl rfl rfl h1219 (r_move) ?_
    refine ga_do (i := 5) #[true, true, true, false, true, true, false, false, false, false, false] rfl (by kernel_rfl) (fun _ _ _ _ h => h) rfl rfl rfl rfl rfl h1219 (r_nilck rfl) ?_
    refine ga_do (i := 6) #[true, true, true, false, true, true, true, false, false, false, false] rfl (by kernel_rfl) (fun _ _ _ _ h => h) rfl rfl rfl rfl rfl h1219 (r_field (n := 0) Try.underlying57 rfl Try.sizeOf9 rfl rfl) ?_
    refine ga_do (i := 7) #[true, true, true, false, true, true, true, true, false, false, false] rfl (by kernel_rfl) (fun _ _ _ _ h => h) rfl rfl rfl rfl rfl h1219 (r_load (tag := 100170) rfl rfl rfl Try.isAgg9) ?_
    replace hm := bnd hm
    obtain ⟨x1220, hx1221, hm⟩ := hm
    refine ga_cnG (first := #[]) (i := 3) #[true, true, true, true, true, true, true, true, false, false, false] rfl (by kernel_rfl) (by decide) rfl rfl rfl rfl h1219  ⟨w0, M, (1000, g11, .cells #[.slice A1207 l1206.length c1208, mapV A1210] 67 (0, 0)) :: (100170, g12, .cells #[.string s1212, .slice A1204 l1203.length c1205] 57 (0, 0)) :: H, (1000, ⟨.slice A1207 l1206.length c1208, 5, 1, l1206.length, l1206.flatMap (fun x : Int => [Value.int .u8 x])⟩) :: (1001, ⟨mapV A1210, 65, 2, l1209.length, l1209.flatMap (mcell (fun x : ByteArray => Value.string x) (fun x : Int => Value.int .i64 x))⟩) :: (22, ⟨.slice A1204 l1203.length c1205, 91, 2, l1203.length, l1203.flatMap Gref04_Place.enc⟩) :: R, φ⟩ (fun W h => (ok_front (t := 100155) (t' := 1000) (ok_frontR (t := 100150) (t' := 1000) (ok_frontR (t := 100151) (t' := 1001) h rfl) rfl) rfl)) Try.call29 rfl rfl rfl (c_pack_Packer_Bytes g11 (⟨l1206, l1209⟩ : Gpack_Packer) A1207 c1208 hc1208 A1210 c1211 trivial _ hx1221) (fun _ W _ h => (ok_front (t := 100170) (t' := 100170) (ok_front (t := 100155) (t' := 100155) (((ok_frontR (t := 1000) (t' := 100150) (ok_frontR (t := 1001) (t' := 100151) (ok_front (t := 1000) (t' := 100155) h rfl) rfl) rfl).dropR (t := 100150) rfl).dropR (t := 100151) rfl) rfl) rfl).phi (fun W hφ => hφ)) (fun _ _ => ?_)
    refine ga_sta _ (fun W h => (ok_frontR (t := 1000) (t' := 100150) (ok_frontR (t := 1001) (t' := 100151) (ok_front (t := 1000) (t' := 100155) h rfl) rfl) rfl)) ?_
    refine ga_rG (i := 8) #[true, true, true, true, true, true, true, true, true, false, false] rfl (by kernel_rfl) (by decide) rfl rfl rfl rfl rfl h1219 (r_eqlT rfl rfl) ?_
    refine ga_r (i := 9) #[true, true, true, true, true, true, true, true, true, true, false] rfl (by kernel_rfl) (by decide) rfl (r_pick1 rfl h1219) ?_
    refine ga_r (i := 10) #[true, true, true, true, true, true, true, true, true, true, true] rfl (by kernel_rfl) (by decide) rfl (r_assign) ?_
    refine ga_done (by kernel_rfl) ?_
    refine d_then ?_
    refine c_flat [(4, .bool (decide (x1220 = s1212)))] ⟨rfl, trivial⟩ (fun u => ?_)
    refine c_sta ⟨w0, M, (100155, g11, .cells #[.slice A1207 l1206.length c1208, mapV A1210] 67 (0, 0)) :: (100170, g12, .cells #[.string s1212, .slice A1204 l1203.length c1205] 57 (0, 0)) :: H, (100150, ⟨.slice A1207 l1206.length c1208, 5, 1, l1206.length, l1206.flatMap (fun x : Int => [Value.int .u8 x])⟩) :: (100151, ⟨mapV A1210, 65, 2, l1209.length, l1209.flatMap (mcell (fun x : ByteArray => Value.string x) (fun x : Int => Value.int .i64 x))⟩) :: (22, ⟨.slice A1204 l1203.length c1205, 91, 2, l1203.length, l1203.flatMap Gref04_Place.enc⟩) :: R, φ⟩ (fun _ h => h) ?_
    refine c_ret ?_
    replace hm := Option.some.inj hm
    subst hm
    refine d_retC () Try.results7 ?_ trivial (fun W h => ok_pre (H1 := [_, _]) (R1 := [_, _, _]) h (fun W hφ => hφ)) (.inr rfl)
    refine res_tmp ?_
    refine res_nil ?_
    exact rfl
   ·
    replace hm := ite_f hm (bool_nt h1219)
    refine ga_no (i := 2) #[true, true, true, false, false, false, false, false, false, false, false] rfl (by kernel_rfl) (fun _ _ _ _ h => h) rfl rfl rfl rfl rfl h1219 ?_
    refine ga_no (i := 3) #[true, true, true, true, false, false, false, false, false, false, false] rfl (by kernel_rfl) (fun _ _ _ _ h => h) rfl rfl rfl rfl rfl h1219 ?_
    refine ga_no (i := 4) #[true, true, true, true, true, false, false, false, false, false, false] rfl (by kernel_rfl) (fun _ _ _ _ h => h) rfl rfl rfl rfl rfl h1219 ?_
    refine ga_no (i := 5) #[true, true, true, true, true, true, false, false, false, false, false] rfl (by kernel_rfl) (fun _ _ _ _ h => h) rfl rfl rfl rfl rfl h1219 ?_
    refine ga_no (i := 6) #[true, true, true, true, true, true, true, false, false, false, false] rfl (by kernel_rfl) (fun _ _ _ _ h => h) rfl rfl rfl rfl rfl h1219 ?_
    refine ga_no (i := 7) #[true, true, true, true, true, true, true, true, false, false, false] rfl (by kernel_rfl) (fun _ _ _ _ h => h) rfl rfl rfl rfl rfl h1219 ?_
    refine ga_no (i := 8) #[true, true, true, true, true, true, true, true, true, false, false] rfl (by kernel_rfl) (fun _ _ _ _ h => h) rfl rfl rfl rfl rfl h1219 ?_
    refine ga_r (i := 9) #[true, true, true, true, true, true, true, true, true, true, false] rfl (by kernel_rfl) (by decide) rfl (r_pick0 rfl h1219) ?_
    refine ga_r (i := 10) #[true, true, true, true, true, true, true, true, true, true, true] rfl (by kernel_rfl) (by decide) rfl (r_assign) ?_
    refine ga_done (by kernel_rfl) ?_
    refine d_then ?_
    refine c_ret ?_
    replace hm := Option.some.inj hm
    subst hm
    refine d_retC () Try.results7 ?_ trivial (fun W h => ok_pre (H1 := [_, _]) (R1 := [_, _, _]) h (fun W hφ => hφ)) (.inr rfl)
    refine res_tmp ?_
    refine res_nil ?_
    exact rfl

end Go.Proofs.Ytdcfemndfnfedaa
