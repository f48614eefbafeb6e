import Derived.Test.YthpjodfjdnnckaaWCOB
set_option maxRecDepth 100000
set_option maxHeartbeats 4000000
set_option linter.unusedVariables false
set_option linter.unusedSimpArgs false
namespace Go.Proofs.Ythpjodfjdnnckaa
open Go.RowKit Go.Proofs.YthpjodfjdnnckaaW.PrintLast
noncomputable def m_conf_Read_j1 (x3 : Int) (l218 : List ByteArray) (i221 : Int) (s222 : ByteArray) (s223 : ByteArray) (s224 : ByteArray) (s225 : ByteArray) (b226 : Bool) : Option (GOrder × Int) :=
  if b226 = true then
    some ((⟨0, 0, (⟨#[]⟩ : ByteArray), (⟨#[]⟩ : ByteArray), (⟨#[]⟩ : ByteArray), ([] : List ByteArray)⟩ : GOrder), 10)
  else
    if s225 = (⟨#[]⟩ : ByteArray) then
      (m_conf_Check_3 x3 i221 s222 s223 s224 l218).bind fun x229 =>
      if x229 ≠ 0 then
        some ((⟨0, 0, (⟨#[]⟩ : ByteArray), (⟨#[]⟩ : ByteArray), (⟨#[]⟩ : ByteArray), ([] : List ByteArray)⟩ : GOrder), 10)
      else
        some ((⟨x3, i221, s222, s223, s224, l218⟩ : GOrder), 0)
    else
      some ((⟨0, 0, (⟨#[]⟩ : ByteArray), (⟨#[]⟩ : ByteArray), (⟨#[]⟩ : ByteArray), ([] : List ByteArray)⟩ : GOrder), 10)
noncomputable def m_conf_Read_s3  (l273 : List ByteArray) (s276 : ByteArray) (b277 : Bool) : Option (((List ByteArray) × ByteArray × Bool) ⊕ ((List ByteArray) × Int × ByteArray × ByteArray × ByteArray × ByteArray × Bool)) :=
  if 0 < (s276.size : Int) then
    if b277 = true then
      some (.inr (l273, 0, (⟨#[]⟩ : ByteArray), (⟨#[]⟩ : ByteArray), (⟨#[]⟩ : ByteArray), s276, b277))
    else
      (m_conf_reader_take 4 (⟨s276, b277⟩ : Gconf_reader)).bind fun (z331 : ByteArray × Gconf_reader) =>
      (app 16 l273 [z331.1]).bind fun l333 =>
      some (.inl (l333, z331.2.fs, z331.2.fbad))
  else
    some (.inr (l273, 0, (⟨#[]⟩ : ByteArray), (⟨#[]⟩ : ByteArray), (⟨#[]⟩ : ByteArray), s276, b277))
noncomputable def m_conf_Read_j2 (x4 : Gconf_reader) (x3 : Int) (b235 : Bool) : Option (GOrder × Int) :=
  if b235 = true then
    (m_conf_reader_number 1 x4).bind fun (z240 : Int × Gconf_reader) =>
    m_conf_Read_j1 x3 ([] : List ByteArray) z240.1 (⟨#[]⟩ : ByteArray) (⟨#[]⟩ : ByteArray) (⟨#[]⟩ : ByteArray) z240.2.fs z240.2.fbad
  else
    if x3 = 3 then
      (loop (fun s => m_conf_Read_s3 s.1 s.2.1 s.2.2) (([] : List ByteArray), x4.fs, x4.fbad)).bind fun e => m_conf_Read_j1 x3 e.1 e.2.1 e.2.2.1 e.2.2.2.1 e.2.2.2.2.1 e.2.2.2.2.2.1 e.2.2.2.2.2.2
    else
      if x3 = 4 then
        (m_conf_reader_name x4).bind fun (z341 : ByteArray × Gconf_reader) =>
        (m_conf_reader_take (z341.2.fs.size : Int) z341.2).bind fun (z345 : ByteArray × Gconf_reader) =>
        m_conf_Read_j1 x3 ([] : List ByteArray) 0 z341.1 z345.1 (⟨#[]⟩ : ByteArray) z345.2.fs z345.2.fbad
      else
        if x3 = 5 then
          (m_conf_reader_take (x4.fs.size : Int) x4).bind fun (z350 : ByteArray × Gconf_reader) =>
          m_conf_Read_j1 x3 ([] : List ByteArray) 0 (⟨#[]⟩ : ByteArray) (⟨#[]⟩ : ByteArray) z350.1 z350.2.fs z350.2.fbad
        else
          m_conf_Read_j1 x3 ([] : List ByteArray) 0 (⟨#[]⟩ : ByteArray) (⟨#[]⟩ : ByteArray) (⟨#[]⟩ : ByteArray) x4.fs x4.fbad
noncomputable def m_conf_Read (p0 : ByteArray) : Option (GOrder × Int) :=
  (m_conf_reader_number 1 (⟨p0, false⟩ : Gconf_reader)).bind fun (z6 : Int × Gconf_reader) =>
  if z6.1 = 1 then
    m_conf_Read_j2 z6.2 z6.1 (decide (z6.1 = 1))
  else
    m_conf_Read_j2 z6.2 z6.1 (decide (z6.1 = 2))
theorem c_conf_Read {w0 : World} {M : Nat → Prop} {H : List (Nat × Nat × Obj)} {R : List (Nat × Row)} {φ : World → Prop} (p0 : ByteArray) (r : GOrder × Int) (hm : m_conf_Read p0 = some r) :
    Cn Try.prog 17 #[.string p0] ⟨w0, M, H, R, φ⟩ (fun x : Option Addr × Nat => .tuple #[.agg #[.int .i64 r.1.fKind, .int .i64 r.1.fNode, .string r.1.fName, .string r.1.fText, .string r.1.fZone, .slice x.1 r.1.fHints.length x.2], .int .i64 r.2]) (fun x => r.1.fHints.length ≤ x.2) (fun x => ⟨w0, M, H, R, fun W => φ W ∧ Cl W x.1 (r.1.fHints.flatMap (fun x : ByteArray => [Value.string x]))⟩) := by
 unfold m_conf_Read at hm
 refine cn_intro (fn := Try.f17) (N := 83) Try.func17 rfl Try.ntmps17 rfl <| c_seq <| c_region ?_
 refine g_e rfl (e_alloc 100020 Try.zeroValue35) (fun g1 _ => ?_)
 refine g_v rfl r_assign <| g_nil <| d_then <| c_seq <| c_region <| g_v rfl r_move <| g_v rfl (r_build _ rfl (bld82_20 _)) ?_
 refine g_e rfl (e_box 100080 rfl) (fun g2 _ => ?_)
 refine g_v rfl r_assign <| g_nil <| d_then <| c_seq <| c_region <| g_v rfl r_move ?_
 replace hm := bnd hm
 obtain ⟨⟨x3, x4⟩, hx5, hm⟩ := hm
 refine g_cn ⟨w0, M, (1000, g2, .cells #[.string p0, .bool false] 82 (0, 0)) :: (100020, g1, .cells #[.int .i64 0, .int .i64 0, .string (⟨#[]⟩ : ByteArray), .string (⟨#[]⟩ : ByteArray), .string (⟨#[]⟩ : ByteArray), .slice none 0 0] 35 (0, 0)) :: H, R, φ⟩ (fun W h => (ok_front (t := 100080) (t' := 1000) h rfl)) Try.call46 rfl rfl (c_conf_reader_number 1 g2 (⟨p0, false⟩ : Gconf_reader) _ hx5) (fun _ _ => ?_)
 refine g_sta _ (fun W h => (ok_front (t := 1000) (t' := 100080) h rfl)) <| g_v rfl (r_build _ rfl (bld35_21 _)) ?_
 refine g_e rfl (e_alloc 100050 Try.zeroValue35) (fun g7 _ => ?_)
 refine g_storeL (tag := 100050) rfl rfl rfl rfl Try.sizeOf35 rfl rfl <| g_nil <| d_then ?_
 refine c_flat [(2, .pointer (some ⟨g1, 0, none⟩)), (4, .pointer (some ⟨g2, 0, none⟩)), (5, .pointer (some ⟨g7, 0, none⟩))] ⟨rfl, rfl, rfl, trivial⟩ (fun u => ?_)
 refine c_sta ⟨w0, M, (100050, g7, .cells #[.int .i64 x3, .int .i64 0, .string (⟨#[]⟩ : ByteArray), .string (⟨#[]⟩ : ByteArray), .string (⟨#[]⟩ : ByteArray), .slice none 0 0] 35 (0, 0)) :: (100080, g2, .cells #[.string x4.fs, .bool x4.fbad] 82 (0, 0)) :: (100020, g1, .cells #[.int .i64 0, .int .i64 0, .string (⟨#[]⟩ : ByteArray), .string (⟨#[]⟩ : ByteArray), .string (⟨#[]⟩ : ByteArray), .slice none 0 0] 35 (0, 0)) :: H, R, φ⟩ (fun _ h => h) <| c_seq <| c_sta _ (fun W h => nilR h 15 9 1) ?_
 refine c_cut (ι := (List ByteArray) × Int × ByteArray × ByteArray × ByteArray × ByteArray × Bool × Option Addr × Nat) [2, 4, 5] (fun ⟨l218, i221, s222, s223, s224, s225, b226, A219, c220⟩ => []) (fun ⟨l218, i221, s222, s223, s224, s225, b226, A219, c220⟩ => ⟨w0, M, (100050, g7, .cells #[.int .i64 x3, .int .i64 i221, .string s222, .string s223, .string s224, .slice A219 l218.length c220] 35 (0, 0)) :: (100080, g2, .cells #[.string s225, .bool b226] 82 (0, 0)) :: (100020, g1, .cells #[.int .i64 0, .int .i64 0, .string (⟨#[]⟩ : ByteArray), .string (⟨#[]⟩ : ByteArray), .string (⟨#[]⟩ : ByteArray), .slice none 0 0] 35 (0, 0)) :: H, (15, ⟨.slice A219 l218.length c220, 9, 1, l218.length, l218.flatMap (fun x : ByteArray => [Value.string x])⟩) :: R, φ⟩) (fun ⟨l218, i221, s222, s223, s224, s225, b226, A219, c220⟩ => m_conf_Read_j1 x3 l218 i221 s222 s223 s224 s225 b226 = some r ∧ l218.length ≤ c220) ?_ (fun ⟨l218, i221, s222, s223, s224, s225, b226, A219, c220⟩ u ⟨hm, hc220⟩ => ?_)
 ·
  refine c_seq <| c_region <| g_v rfl (r_field (n := 0) Try.underlying35 rfl Try.sizeOf3 rfl rfl) <| g_v rfl (r_load (tag := 100050) rfl rfl rfl Try.isAgg3) <| g_nil <| d_then <| c_block <| c_seq ?_
  refine c_cut (ι := Bool) [2, 4, 5, 13, 14] (fun b235 => [(14, .bool b235)]) (fun b235 => ⟨w0, M, (100050, g7, .cells #[.int .i64 x3, .int .i64 0, .string (⟨#[]⟩ : ByteArray), .string (⟨#[]⟩ : ByteArray), .string (⟨#[]⟩ : ByteArray), .slice none 0 0] 35 (0, 0)) :: (100080, g2, .cells #[.string x4.fs, .bool x4.fbad] 82 (0, 0)) :: (100020, g1, .cells #[.int .i64 0, .int .i64 0, .string (⟨#[]⟩ : ByteArray), .string (⟨#[]⟩ : ByteArray), .string (⟨#[]⟩ : ByteArray), .slice none 0 0] 35 (0, 0)) :: H, (15, ⟨.slice none 0 0, 9, 1, 0, []⟩) :: R, φ⟩) (fun b235 => m_conf_Read_j2 x4 x3 b235 = some r) ?_ (fun b235 u hm => ?_)
  ·
   refine c_seq <| c_region <| g_v rfl (r_eql rfl rfl) <| g_v rfl r_assign <| g_nil <| d_then ?_
   refine c_cond rfl (fun h351 => ?_) (fun h351 => ?_)
   ·
    replace hm := ite_t hm (of_decide_eq_true h351)
    refine c_skip ?_
    exact d_round (decide (x3 = 1)) hm Nat.zero_lt_one ⟨rfl, rfl, rfl, rfl, rfl, trivial⟩ (fun W h => h.phi (fun W hφ => hφ))
   ·
    replace hm := ite_f hm (of_decide_eq_false h351)
    refine c_region <| g_v rfl (r_eql rfl rfl) <| g_v rfl r_assign <| g_nil ?_
    exact d_round (decide (x3 = 2)) hm Nat.zero_lt_one ⟨rfl, rfl, rfl, rfl, rfl, trivial⟩ (fun W h => h.phi (fun W hφ => hφ))
  ·
   unfold m_conf_Read_j2 at hm
   refine d_flat [(2, .pointer (some ⟨g1, 0, none⟩)), (4, .pointer (some ⟨g2, 0, none⟩)), (5, .pointer (some ⟨g7, 0, none⟩)), (13, .int .i64 x3), (14, .bool b235)] ⟨rfl, rfl, rfl, rfl, rfl, trivial⟩ (fun u => ?_)
   refine d_sta ⟨w0, M, (100050, g7, .cells #[.int .i64 x3, .int .i64 0, .string (⟨#[]⟩ : ByteArray), .string (⟨#[]⟩ : ByteArray), .string (⟨#[]⟩ : ByteArray), .slice none 0 0] 35 (0, 0)) :: (100080, g2, .cells #[.string x4.fs, .bool x4.fbad] 82 (0, 0)) :: (100020, g1, .cells #[.int .i64 0, .int .i64 0, .string (⟨#[]⟩ : ByteArray), .string (⟨#[]⟩ : ByteArray), .string (⟨#[]⟩ : ByteArray), .slice none 0 0] 35 (0, 0)) :: H, (15, ⟨.slice none 0 0, 9, 1, 0, []⟩) :: R, φ⟩ (fun _ h => h) <| d_then ?_
   refine c_cond rfl (fun h236 => ?_) (fun h236 => ?_)
   ·
    replace hm := ite_t hm h236
    refine c_region <| g_v rfl r_move ?_
    replace hm := bnd hm
    obtain ⟨⟨x237, x238⟩, hx239, hm⟩ := hm
    refine g_cn ⟨w0, M, (1000, g2, .cells #[.string x4.fs, .bool x4.fbad] 82 (0, 0)) :: (100050, g7, .cells #[.int .i64 x3, .int .i64 0, .string (⟨#[]⟩ : ByteArray), .string (⟨#[]⟩ : ByteArray), .string (⟨#[]⟩ : ByteArray), .slice none 0 0] 35 (0, 0)) :: (100020, g1, .cells #[.int .i64 0, .int .i64 0, .string (⟨#[]⟩ : ByteArray), .string (⟨#[]⟩ : ByteArray), .string (⟨#[]⟩ : ByteArray), .slice none 0 0] 35 (0, 0)) :: H, (15, ⟨.slice none 0 0, 9, 1, 0, []⟩) :: R, φ⟩ (fun W h => (ok_front (t := 100080) (t' := 1000) h rfl)) Try.call46 rfl rfl (c_conf_reader_number 1 g2 x4 _ hx239) (fun _ _ => ?_)
    refine g_sta _ (fun W h => (ok_front (t := 1000) (t' := 100080) h rfl)) <| g_v rfl (r_field (n := 1) Try.underlying35 rfl Try.sizeOf3 rfl rfl) <| g_storeL (tag := 100050) rfl rfl rfl rfl Try.sizeOf3 rfl rfl <| g_nil <| d_normal_block ?_
    exact d_round (([] : List ByteArray), x237, (⟨#[]⟩ : ByteArray), (⟨#[]⟩ : ByteArray), (⟨#[]⟩ : ByteArray), x238.fs, x238.fbad, none, 0) ⟨hm, (Nat.le_refl 0)⟩ Nat.zero_lt_one ⟨rfl, rfl, rfl, trivial⟩ (fun W h => (ok_front (t := 100050) (t' := 100050) (ok_front (t := 100080) (t' := 100080) (ok_front (t := 100020) (t' := 100020) h rfl) rfl) rfl).phi (fun W hφ => hφ))
   ·
    replace hm := ite_f hm (bool_nt h236)
    refine c_seq <| c_region <| g_v rfl (r_eql rfl rfl) <| g_v rfl r_assign <| g_nil <| d_then ?_
    refine c_cond rfl (fun h241 => ?_) (fun h241 => ?_)
    ·
     replace hm := ite_t hm (of_decide_eq_true h241)
     refine c_block ?_
     replace hm := bnd hm
     obtain ⟨out3, hl3, hr3⟩ := hm
     obtain ⟨n309', hl3⟩ := loop_lp hl3
     refine c_loopU (ι := Nat × (List ByteArray) × ByteArray × Bool × Option Addr × Nat) [2, 4, 5] (fun ⟨n309, l273, s276, b277, A274, c275⟩ => []) (fun ⟨n309, l273, s276, b277, A274, c275⟩ => ⟨w0, M, (100050, g7, .cells #[.int .i64 x3, .int .i64 0, .string (⟨#[]⟩ : ByteArray), .string (⟨#[]⟩ : ByteArray), .string (⟨#[]⟩ : ByteArray), .slice A274 l273.length c275] 35 (0, 0)) :: (100080, g2, .cells #[.string s276, .bool b277] 82 (0, 0)) :: (100020, g1, .cells #[.int .i64 0, .int .i64 0, .string (⟨#[]⟩ : ByteArray), .string (⟨#[]⟩ : ByteArray), .string (⟨#[]⟩ : ByteArray), .slice none 0 0] 35 (0, 0)) :: H, (15, ⟨.slice A274 l273.length c275, 9, 1, l273.length, l273.flatMap (fun x : ByteArray => [Value.string x])⟩) :: R, φ⟩) (fun ⟨n309, l273, s276, b277, A274, c275⟩ => Lp (fun s => m_conf_Read_s3 s.1 s.2.1 s.2.2) n309 (l273, s276, b277) out3 ∧ l273.length ≤ c275) (fun ⟨n309, l273, s276, b277, A274, c275⟩ => n309) (n309', ([] : List ByteArray), x4.fs, x4.fbad, none, 0) ⟨hl3, (Nat.le_refl 0)⟩ ⟨rfl, rfl, rfl, trivial⟩ (fun W h => h.phi (fun W hφ => hφ)) (fun ⟨n309, l273, s276, b277, A274, c275⟩ u ⟨hlp, hc275⟩ => ?_)
     obtain ⟨o3, hm, hnx3⟩ := lp_step hlp
     clear hlp
     replace hm : m_conf_Read_s3 l273 s276 b277 = some o3 := hm
     unfold m_conf_Read_s3 at hm
     refine c_flat [(2, .pointer (some ⟨g1, 0, none⟩)), (4, .pointer (some ⟨g2, 0, none⟩)), (5, .pointer (some ⟨g7, 0, none⟩))] ⟨rfl, rfl, rfl, trivial⟩ (fun u => ?_)
     refine c_sta ⟨w0, M, (100050, g7, .cells #[.int .i64 x3, .int .i64 0, .string (⟨#[]⟩ : ByteArray), .string (⟨#[]⟩ : ByteArray), .string (⟨#[]⟩ : ByteArray), .slice A274 l273.length c275] 35 (0, 0)) :: (100080, g2, .cells #[.string s276, .bool b277] 82 (0, 0)) :: (100020, g1, .cells #[.int .i64 0, .int .i64 0, .string (⟨#[]⟩ : ByteArray), .string (⟨#[]⟩ : ByteArray), .string (⟨#[]⟩ : ByteArray), .slice none 0 0] 35 (0, 0)) :: H, (15, ⟨.slice A274 l273.length c275, 9, 1, l273.length, l273.flatMap (fun x : ByteArray => [Value.string x])⟩) :: R, φ⟩ (fun _ h => h) <| c_seq <| c_seq <| c_region <| g_v rfl r_move <| g_v rfl (r_nilck rfl) <| g_v rfl (r_field (n := 0) Try.underlying82 rfl Try.sizeOf9 rfl rfl) <| g_v rfl (r_load (tag := 100080) rfl rfl rfl Try.isAgg9) <| g_v rfl (r_len Try.underlying9 rfl) <| g_v rfl (r_gtr rfl rfl) ?_
     refine g_v rfl r_move ?_
     refine g_if rfl rfl rfl rfl rfl (fun h310 => ?_) (fun h310 => ?_)
     ·
      replace hm := ite_t hm (of_decide_eq_true h310)
      refine g_v rfl r_move <| g_do rfl rfl rfl rfl rfl h310 <| g_v rfl (r_nilck rfl) <| g_do rfl rfl rfl rfl rfl h310 <| g_v rfl (r_field (n := 1) Try.underlying82 rfl Try.sizeOf4 rfl rfl) <| g_do rfl rfl rfl rfl rfl h310 <| g_v rfl (r_load (tag := 100080) rfl rfl rfl Try.isAgg4) <| g_do rfl rfl rfl rfl rfl h310 <| g_v rfl (r_not rfl) <| g_v rfl (r_pick1 rfl h310) ?_
      refine g_nil <| d_then ?_
      refine c_flat [(2, .pointer (some ⟨g1, 0, none⟩)), (4, .pointer (some ⟨g2, 0, none⟩)), (5, .pointer (some ⟨g7, 0, none⟩)), (34, .bool (!b277))] ⟨rfl, rfl, rfl, rfl, trivial⟩ (fun u => ?_)
      refine c_cond rfl (fun h311 => ?_) (fun h311 => ?_)
      ·
       have h311' : b277 = false := by revert h311; cases b277 <;> simp
       replace hm := ite_f hm (bool_nt h311')
       refine c_skip <| d_then <| c_block <| ga_start (n := 8) ⟨w0, M, (100050, g7, .cells #[.int .i64 x3, .int .i64 0, .string (⟨#[]⟩ : ByteArray), .string (⟨#[]⟩ : ByteArray), .string (⟨#[]⟩ : ByteArray), .slice A274 l273.length c275] 35 (0, 0)) :: (100020, g1, .cells #[.int .i64 0, .int .i64 0, .string (⟨#[]⟩ : ByteArray), .string (⟨#[]⟩ : ByteArray), .string (⟨#[]⟩ : ByteArray), .slice none 0 0] 35 (0, 0)) :: H, R, φ⟩ [7] #[false, false, false, false, false, false, false, false] (fun W h => ((h.dropR (t := 15) rfl).dropH (t := 100080) rfl).phi (fun W hφ => hφ)) mixed rfl rfl <| ga_v (i := 0) (bz 8 1) rfl (by kernel_rfl) (fun _ _ _ _ h => h) rfl (r_field (n := 5) Try.underlying35 rfl Try.sizeOf22 rfl rfl) <| ga_v (i := 1) (bz 8 3) rfl (by kernel_rfl) (fun _ _ _ _ h => h) rfl (r_load (tag := 100050) rfl rfl rfl Try.isAgg22) <| ga_r (i := 2) (bz 8 7) rfl (by kernel_rfl) (by decide) rfl (r_move) ?_
       replace hm := bnd hm
       obtain ⟨⟨x328, x329⟩, hx330, hm⟩ := hm
       refine ga_cn (first := #[]) (i := 3) (bz 8 15) rfl (by kernel_rfl) (by decide)  ⟨w0, M, (1000, g2, .cells #[.string s276, .bool b277] 82 (0, 0)) :: (100050, g7, .cells #[.int .i64 x3, .int .i64 0, .string (⟨#[]⟩ : ByteArray), .string (⟨#[]⟩ : ByteArray), .string (⟨#[]⟩ : ByteArray), .slice A274 l273.length c275] 35 (0, 0)) :: (100020, g1, .cells #[.int .i64 0, .int .i64 0, .string (⟨#[]⟩ : ByteArray), .string (⟨#[]⟩ : ByteArray), .string (⟨#[]⟩ : ByteArray), .slice none 0 0] 35 (0, 0)) :: H, (15, ⟨.slice A274 l273.length c275, 9, 1, l273.length, l273.flatMap (fun x : ByteArray => [Value.string x])⟩) :: R, φ⟩ (fun W h => (ok_front (t := 100080) (t' := 1000) h rfl)) Try.call47 rfl rfl rfl (c_conf_reader_take 4 g2 (⟨s276, b277⟩ : Gconf_reader) _ hx330) (fun _ W _ h => (((ok_front (t := 1000) (t' := 100080) h rfl).dropR (t := 15) rfl).dropH (t := 100080) rfl).phi (fun W hφ => hφ)) (fun _ _ => ?_)
       refine ga_sta _ (fun W h => (ok_front (t := 1000) (t' := 100080) h rfl)) ?_
       refine ga_e (i := 4) (bz 8 31) rfl (by kernel_rfl) (by decide) rfl  (e_lit (tag := 100390) (l := [x328]) (enc := (fun x : ByteArray => [Value.string x])) (sz := 1) rfl Try.underlying22 (lit9_6 _) rfl rfl (fun _ => rfl)) (fun g332 W _ h => (((h.dropR (t := 100390) rfl).dropR (t := 15) rfl).dropH (t := 100080) rfl).phi (fun W hφ => hφ)) (fun g332 _ => ?_)
       replace hm := bnd hm
       obtain ⟨l333, hl333, hm⟩ := hm
       refine ga_e (i := 5) (bz 8 63) rfl (by kernel_rfl) (by decide) rfl  (e_appR (enc := (fun x : ByteArray => [Value.string x])) (l := l273) (l1 := [x328]) (l2 := l333) (tag := 15) Try.underlying22 inf9_7 rfl (by decide) (by decide) (fun _ => rfl) (fun _ => rfl) rfl hc275 rfl rfl (fun W hS => rowCl (tag := 100390) rfl W hS) hl333) (fun ⟨A334, c335⟩ W hc335 h => (((h.dropR (t := 100390) rfl).dropR (t := 15) rfl).dropH (t := 100080) rfl).phi (fun W hφ => hφ)) (fun ⟨A334, c335⟩ hc335 => ?_)
       refine ga_r (i := 6) (bz 8 127) rfl (by kernel_rfl) (by decide) rfl (r_field (n := 5) Try.underlying35 rfl Try.sizeOf22 rfl rfl) <| ga_lastL (i := 7) (tag := 100050) (bz 8 255) rfl (by kernel_rfl) (by decide) rfl rfl rfl rfl Try.sizeOf22 rfl rfl <| gz_done (by kernel_rfl) <| d_normal_block ?_
       obtain ⟨n336, hn336, hlp⟩ := nx_inl hm hnx3
       exact d_round (n336, l333, x329.fs, x329.fbad, A334, c335) ⟨hlp, hc335⟩ hn336 ⟨rfl, rfl, rfl, trivial⟩ (fun W h => (ok_front (t := 100050) (t' := 100050) (ok_front (t := 100080) (t' := 100080) (ok_front (t := 100020) (t' := 100020) (h.dropR (t := 100390) rfl) rfl) rfl) rfl).phi (fun W hφ => hφ))
      ·
       have h311' : b277 = true := by revert h311; cases b277 <;> simp
       replace hm := ite_t hm h311'
       refine c_exit <| d_exit_then <| d_exit_then <| d_exit_block <| d_normal_block ?_
       replace hm := nx_out (C := (fun e : (List ByteArray) × Int × ByteArray × ByteArray × ByteArray × ByteArray × Bool => m_conf_Read_j1 x3 e.1 e.2.1 e.2.2.1 e.2.2.2.1 e.2.2.2.2.1 e.2.2.2.2.2.1 e.2.2.2.2.2.2 = some r)) hm hnx3 hr3
       exact d_round (l273, 0, (⟨#[]⟩ : ByteArray), (⟨#[]⟩ : ByteArray), (⟨#[]⟩ : ByteArray), s276, b277, A274, c275) ⟨hm, hc275⟩ Nat.zero_lt_one ⟨rfl, rfl, rfl, trivial⟩ (fun W h => h.phi (fun W hφ => hφ))
     ·
      replace hm := ite_f hm (of_decide_eq_false h310)
      refine g_no rfl rfl rfl rfl rfl h310 <| g_no rfl rfl rfl rfl rfl h310 <| g_no rfl rfl rfl rfl rfl h310 <| g_no rfl rfl rfl rfl rfl h310 <| g_v rfl (r_pick0 rfl h310) <| g_nil <| d_then <| c_cond0 rfl rfl <| c_exit <| d_exit_then ?_
      refine d_exit_then <| d_exit_block <| d_normal_block ?_
      replace hm := nx_out (C := (fun e : (List ByteArray) × Int × ByteArray × ByteArray × ByteArray × ByteArray × Bool => m_conf_Read_j1 x3 e.1 e.2.1 e.2.2.1 e.2.2.2.1 e.2.2.2.2.1 e.2.2.2.2.2.1 e.2.2.2.2.2.2 = some r)) hm hnx3 hr3
      exact d_round (l273, 0, (⟨#[]⟩ : ByteArray), (⟨#[]⟩ : ByteArray), (⟨#[]⟩ : ByteArray), s276, b277, A274, c275) ⟨hm, hc275⟩ Nat.zero_lt_one ⟨rfl, rfl, rfl, trivial⟩ (fun W h => h.phi (fun W hφ => hφ))
    ·
     replace hm := ite_f hm (of_decide_eq_false h241)
     refine c_seq <| c_region <| g_v rfl (r_eql rfl rfl) <| g_v rfl r_assign <| g_nil <| d_then ?_
     refine c_cond rfl (fun h337 => ?_) (fun h337 => ?_)
     ·
      replace hm := ite_t hm (of_decide_eq_true h337)
      refine c_seq <| c_region <| g_v rfl r_move ?_
      replace hm := bnd hm
      obtain ⟨⟨x338, x339⟩, hx340, hm⟩ := hm
      refine g_cn ⟨w0, M, (1000, g2, .cells #[.string x4.fs, .bool x4.fbad] 82 (0, 0)) :: (100050, g7, .cells #[.int .i64 x3, .int .i64 0, .string (⟨#[]⟩ : ByteArray), .string (⟨#[]⟩ : ByteArray), .string (⟨#[]⟩ : ByteArray), .slice none 0 0] 35 (0, 0)) :: (100020, g1, .cells #[.int .i64 0, .int .i64 0, .string (⟨#[]⟩ : ByteArray), .string (⟨#[]⟩ : ByteArray), .string (⟨#[]⟩ : ByteArray), .slice none 0 0] 35 (0, 0)) :: H, (15, ⟨.slice none 0 0, 9, 1, 0, []⟩) :: R, φ⟩ (fun W h => (ok_front (t := 100080) (t' := 1000) h rfl)) Try.call48 rfl rfl (c_conf_reader_name g2 x4 _ hx340) (fun _ _ => ?_)
      refine g_sta _ (fun W h => (ok_front (t := 1000) (t' := 100080) h rfl)) <| g_v rfl (r_field (n := 2) Try.underlying35 rfl Try.sizeOf9 rfl rfl) <| g_storeL (tag := 100050) rfl rfl rfl rfl Try.sizeOf9 rfl rfl <| g_nil <| d_then <| c_region <| g_v rfl r_move <| g_v rfl r_move <| g_v rfl (r_nilck rfl) <| g_v rfl (r_field (n := 0) Try.underlying82 rfl Try.sizeOf9 rfl rfl) ?_
      refine g_v rfl (r_load (tag := 100080) rfl rfl rfl Try.isAgg9) <| g_v rfl (r_len Try.underlying9 rfl) ?_
      replace hm := bnd hm
      obtain ⟨⟨x342, x343⟩, hx344, hm⟩ := hm
      refine g_cn ⟨w0, M, (1000, g2, .cells #[.string x339.fs, .bool x339.fbad] 82 (0, 0)) :: (100050, g7, .cells #[.int .i64 x3, .int .i64 0, .string x338, .string (⟨#[]⟩ : ByteArray), .string (⟨#[]⟩ : ByteArray), .slice none 0 0] 35 (0, 0)) :: (100020, g1, .cells #[.int .i64 0, .int .i64 0, .string (⟨#[]⟩ : ByteArray), .string (⟨#[]⟩ : ByteArray), .string (⟨#[]⟩ : ByteArray), .slice none 0 0] 35 (0, 0)) :: H, (15, ⟨.slice none 0 0, 9, 1, 0, []⟩) :: R, φ⟩ (fun W h => (ok_front (t := 100080) (t' := 1000) h rfl)) Try.call47 rfl rfl (c_conf_reader_take (x339.fs.size : Int) g2 x339 _ hx344) (fun _ _ => ?_)
      refine g_sta _ (fun W h => (ok_front (t := 1000) (t' := 100080) h rfl)) <| g_v rfl (r_field (n := 3) Try.underlying35 rfl Try.sizeOf9 rfl rfl) <| g_storeL (tag := 100050) rfl rfl rfl rfl Try.sizeOf9 rfl rfl <| g_nil <| d_normal_block ?_
      exact d_round (([] : List ByteArray), 0, x338, x342, (⟨#[]⟩ : ByteArray), x343.fs, x343.fbad, none, 0) ⟨hm, (Nat.le_refl 0)⟩ Nat.zero_lt_one ⟨rfl, rfl, rfl, trivial⟩ (fun W h => (ok_front (t := 100050) (t' := 100050) (ok_front (t := 100080) (t' := 100080) (ok_front (t := 100020) (t' := 100020) h rfl) rfl) rfl).phi (fun W hφ => hφ))
     ·
      replace hm := ite_f hm (of_decide_eq_false h337)
      refine c_seq <| c_region <| g_v rfl (r_eql rfl rfl) <| g_v rfl r_assign <| g_nil <| d_then ?_
      refine c_cond rfl (fun h346 => ?_) (fun h346 => ?_)
      ·
       replace hm := ite_t hm (of_decide_eq_true h346)
       refine c_region <| g_v rfl r_move <| g_v rfl r_move <| g_v rfl (r_nilck rfl) <| g_v rfl (r_field (n := 0) Try.underlying82 rfl Try.sizeOf9 rfl rfl) <| g_v rfl (r_load (tag := 100080) rfl rfl rfl Try.isAgg9) <| g_v rfl (r_len Try.underlying9 rfl) ?_
       replace hm := bnd hm
       obtain ⟨⟨x347, x348⟩, hx349, hm⟩ := hm
       refine g_cn ⟨w0, M, (1000, g2, .cells #[.string x4.fs, .bool x4.fbad] 82 (0, 0)) :: (100050, g7, .cells #[.int .i64 x3, .int .i64 0, .string (⟨#[]⟩ : ByteArray), .string (⟨#[]⟩ : ByteArray), .string (⟨#[]⟩ : ByteArray), .slice none 0 0] 35 (0, 0)) :: (100020, g1, .cells #[.int .i64 0, .int .i64 0, .string (⟨#[]⟩ : ByteArray), .string (⟨#[]⟩ : ByteArray), .string (⟨#[]⟩ : ByteArray), .slice none 0 0] 35 (0, 0)) :: H, (15, ⟨.slice none 0 0, 9, 1, 0, []⟩) :: R, φ⟩ (fun W h => (ok_front (t := 100080) (t' := 1000) h rfl)) Try.call47 rfl rfl (c_conf_reader_take (x4.fs.size : Int) g2 x4 _ hx349) (fun _ _ => ?_)
       refine g_sta _ (fun W h => (ok_front (t := 1000) (t' := 100080) h rfl)) <| g_v rfl (r_field (n := 4) Try.underlying35 rfl Try.sizeOf9 rfl rfl) <| g_storeL (tag := 100050) rfl rfl rfl rfl Try.sizeOf9 rfl rfl <| g_nil <| d_normal_block ?_
       exact d_round (([] : List ByteArray), 0, (⟨#[]⟩ : ByteArray), (⟨#[]⟩ : ByteArray), x347, x348.fs, x348.fbad, none, 0) ⟨hm, (Nat.le_refl 0)⟩ Nat.zero_lt_one ⟨rfl, rfl, rfl, trivial⟩ (fun W h => (ok_front (t := 100050) (t' := 100050) (ok_front (t := 100080) (t' := 100080) (ok_front (t := 100020) (t' := 100020) h rfl) rfl) rfl).phi (fun W hφ => hφ))
      ·
       replace hm := ite_f hm (of_decide_eq_false h346)
       refine c_skip <| d_normal_block ?_
       exact d_round (([] : List ByteArray), 0, (⟨#[]⟩ : ByteArray), (⟨#[]⟩ : ByteArray), (⟨#[]⟩ : ByteArray), x4.fs, x4.fbad, none, 0) ⟨hm, (Nat.le_refl 0)⟩ Nat.zero_lt_one ⟨rfl, rfl, rfl, trivial⟩ (fun W h => h.phi (fun W hφ => hφ))
 ·
  unfold m_conf_Read_j1 at hm
  refine d_flat [(2, .pointer (some ⟨g1, 0, none⟩)), (4, .pointer (some ⟨g2, 0, none⟩)), (5, .pointer (some ⟨g7, 0, none⟩))] ⟨rfl, rfl, rfl, trivial⟩ (fun u => ?_)
  refine d_sta ⟨w0, M, (100050, g7, .cells #[.int .i64 x3, .int .i64 i221, .string s222, .string s223, .string s224, .slice A219 l218.length c220] 35 (0, 0)) :: (100080, g2, .cells #[.string s225, .bool b226] 82 (0, 0)) :: (100020, g1, .cells #[.int .i64 0, .int .i64 0, .string (⟨#[]⟩ : ByteArray), .string (⟨#[]⟩ : ByteArray), .string (⟨#[]⟩ : ByteArray), .slice none 0 0] 35 (0, 0)) :: H, (15, ⟨.slice A219 l218.length c220, 9, 1, l218.length, l218.flatMap (fun x : ByteArray => [Value.string x])⟩) :: R, φ⟩ (fun _ h => h) <| d_then <| c_seq <| c_seq <| c_region <| g_v rfl r_move <| g_v rfl (r_nilck rfl) <| g_v rfl (r_field (n := 1) Try.underlying82 rfl Try.sizeOf4 rfl rfl) <| g_v rfl (r_load (tag := 100080) rfl rfl rfl Try.isAgg4) <| g_v rfl r_move ?_
  refine g_if rfl rfl rfl rfl rfl (fun h227 => ?_) (fun h227 => ?_)
  ·
   replace hm := ite_f hm (bool_nt h227)
   refine g_v rfl r_move <| g_do rfl rfl rfl rfl rfl h227 <| g_v rfl (r_nilck rfl) <| g_do rfl rfl rfl rfl rfl h227 <| g_v rfl (r_field (n := 0) Try.underlying82 rfl Try.sizeOf9 rfl rfl) <| g_do rfl rfl rfl rfl rfl h227 <| g_v rfl (r_load (tag := 100080) rfl rfl rfl Try.isAgg9) <| g_do rfl rfl rfl rfl rfl h227 <| g_v rfl (r_neqT rfl rfl) <| g_v rfl (r_pick0 rfl h227) ?_
   refine g_v rfl r_move ?_
   refine g_if rfl rfl rfl rfl rfl (fun h228 => ?_) (fun h228 => ?_)
   ·
    have h228' : (decide (s225 = (⟨#[]⟩ : ByteArray))) = true := by revert h228; cases (decide (s225 = (⟨#[]⟩ : ByteArray))) <;> simp
    replace hm := ite_t hm (of_decide_eq_true h228')
    refine g_v rfl (r_loadA (tag := 100050) rfl rfl Try.isAgg35 Try.sizeOf35 rfl rfl) <| g_do rfl rfl rfl rfl rfl h228 ?_
    replace hm := bnd hm
    obtain ⟨x229, hx230, hm⟩ := hm
    refine g_cn ⟨w0, M, _, _, φ⟩ (fun _ h => h) Try.call20 rfl rfl (c_conf_Check_3 x3 i221 s222 s223 s224 l218 A219 c220 hc220 (fun W hS => rowCl (tag := 15) rfl W hS) _ hx230) (fun _ _ => ?_)
    refine g_do rfl rfl rfl rfl rfl h228 <| g_v rfl (r_neq rfl rfl) <| g_v rfl (r_pick0 rfl h228) <| g_nil <| d_then ?_
    refine c_flat [(2, .pointer (some ⟨g1, 0, none⟩)), (5, .pointer (some ⟨g7, 0, none⟩)), (80, .bool (decide (x229 ≠ 0)))] ⟨rfl, rfl, rfl, trivial⟩ (fun u => ?_)
    refine c_cond rfl (fun h231 => ?_) (fun h231 => ?_)
    ·
     replace hm := ite_t hm (of_decide_eq_true h231)
     refine c_seq <| c_region <| g_v rfl (r_build _ rfl (bld35_22)) <| g_storeL (tag := 100020) rfl rfl rfl rfl Try.sizeOf35 rfl rfl <| g_v rfl r_assign <| g_nil <| d_then <| c_ret <| d_ret_then ?_
     replace hm := Option.some.inj hm
     subst hm
     refine d_retC (none, 0) Try.results17 ?_ (Nat.le_refl 0) (fun W h => ok_pre (H1 := [_, _, _]) (R1 := [_]) h (fun W hφ => ⟨hφ, (fun W _ => Cl.nil _ _) W hφ⟩)) (.inr rfl)
     refine res_agg (tag := 100020) rfl rfl Try.isAgg35 Try.sizeOf35 <| res_tmp <| res_nil ?_
     exact rfl
    ·
     replace hm := ite_f hm (of_decide_eq_false h231)
     refine c_skip <| d_then <| c_seq <| c_region <| g_v rfl (r_loadA (tag := 100050) rfl rfl Try.isAgg35 Try.sizeOf35 rfl rfl) <| g_storeL (tag := 100020) rfl rfl rfl rfl Try.sizeOf35 rfl rfl <| g_v rfl r_assign <| g_nil <| d_then <| c_ret ?_
     replace hm := Option.some.inj hm
     subst hm
     refine d_shut (tag := 15) rfl (fun φ232 q232' => ?_)
     have q232 : ∀ W, φ232 W → φ W := fun W h => (q232' W h).1
     have f233 := fun (W : World) (h : φ232 W) => (q232' W h).2
     refine d_retC (A219, c220) Try.results17 ?_ hc220 (fun W h => ok_pre (H1 := [_, _, _]) (R1 := []) h (fun W hφ => ⟨(q232 _ hφ), (fun W h => f233 W h) W hφ⟩)) (.inr rfl)
     refine res_agg (tag := 100020) rfl rfl Try.isAgg35 Try.sizeOf35 <| res_tmp <| res_nil ?_
     exact rfl
   ·
    have h228' : (decide (s225 = (⟨#[]⟩ : ByteArray))) = false := by revert h228; cases (decide (s225 = (⟨#[]⟩ : ByteArray))) <;> simp
    replace hm := ite_f hm (of_decide_eq_false h228')
    refine g_no rfl rfl rfl rfl rfl h228 <| g_no rfl rfl rfl rfl rfl h228 <| g_v rfl (r_pick1 rfl h228) <| g_nil <| d_then ?_
    refine c_flat [(2, .pointer (some ⟨g1, 0, none⟩)), (5, .pointer (some ⟨g7, 0, none⟩)), (80, .bool true)] ⟨rfl, rfl, rfl, trivial⟩ (fun u => ?_)
    refine c_cond1 rfl rfl <| c_seq <| c_region <| g_v rfl (r_build _ rfl (bld35_22)) <| g_storeL (tag := 100020) rfl rfl rfl rfl Try.sizeOf35 rfl rfl <| g_v rfl r_assign <| g_nil <| d_then <| c_ret <| d_ret_then ?_
    replace hm := Option.some.inj hm
    subst hm
    refine d_retC (none, 0) Try.results17 ?_ (Nat.le_refl 0) (fun W h => ok_pre (H1 := [_, _, _]) (R1 := [_]) h (fun W hφ => ⟨hφ, (fun W _ => Cl.nil _ _) W hφ⟩)) (.inr rfl)
    refine res_agg (tag := 100020) rfl rfl Try.isAgg35 Try.sizeOf35 <| res_tmp <| res_nil ?_
    exact rfl
  ·
   replace hm := ite_t hm h227
   refine g_no rfl rfl rfl rfl rfl h227 <| g_no rfl rfl rfl rfl rfl h227 <| g_no rfl rfl rfl rfl rfl h227 <| g_no rfl rfl rfl rfl rfl h227 <| g_v rfl (r_pick1 rfl h227) <| g_v rfl r_move <| g_no rfl rfl rfl rfl rfl rfl <| g_no rfl rfl rfl rfl rfl rfl <| g_no rfl rfl rfl rfl rfl rfl <| g_v rfl (r_pick1 rfl rfl) ?_
   refine g_nil <| d_then <| c_cond1 rfl rfl <| c_seq <| c_region <| g_v rfl (r_build _ rfl (bld35_22)) <| g_storeL (tag := 100020) rfl rfl rfl rfl Try.sizeOf35 rfl rfl <| g_v rfl r_assign <| g_nil <| d_then ?_
   refine c_flat [(2, .pointer (some ⟨g1, 0, none⟩)), (3, .int .i64 10)] ⟨rfl, rfl, trivial⟩ (fun u => ?_)
   refine c_ret <| d_ret_then ?_
   replace hm := Option.some.inj hm
   subst hm
   refine d_retC (none, 0) Try.results17 ?_ (Nat.le_refl 0) (fun W h => ok_pre (H1 := [_, _, _]) (R1 := [_]) h (fun W hφ => ⟨hφ, (fun W _ => Cl.nil _ _) W hφ⟩)) (.inr rfl)
   refine res_agg (tag := 100020) rfl rfl Try.isAgg35 Try.sizeOf35 <| res_tmp <| res_nil ?_
   exact rfl
noncomputable def m_ref13_end_j1 (p0 : ByteArray) (i13 : Int) : Option Int :=
  if (p0.size : Int) ≤ i13 then
    some (-1)
  else
    (scutHi p0 (w64 (i13 + 1))).bind fun s15 =>
    (m_ref13_name s15).bind fun x16 =>
    if x16 = true then
      some (w64 (i13 + 1))
    else
      some (-1)
noncomputable def m_ref13_end_s2 (p0 : ByteArray) (i24 : Int) : Option (Int ⊕ Int) :=
  if i24 < (p0.size : Int) then
    (sat_ p0 i24).bind fun b32 =>
    if b32 ≠ 0 then
      (sat_ p0 i24).bind fun b34 =>
      some (.inl (w64 ((w64 (i24 + 1)) + (w64 b34))))
    else
      some (.inr i24)
  else
    some (.inr i24)
noncomputable def m_ref13_end (p0 : ByteArray) : Option Int :=
  (loop (fun s => m_ref13_end_s2 p0 s) 0).bind fun e => m_ref13_end_j1 p0 e
theorem c_ref13_end {w0 : World} {M : Nat → Prop} {H : List (Nat × Nat × Obj)} {R : List (Nat × Row)} {φ : World → Prop} (p0 : ByteArray) (r : Int) (hm : m_ref13_end p0 = some r) :
    Cn Try.prog 49 #[.string p0] ⟨w0, M, H, R, φ⟩ (fun x : Unit => .int .i64 r) (fun x => True) (fun x => ⟨w0, M, H, R, φ⟩) := by
 unfold m_ref13_end at hm
 refine cn_intro (fn := Try.f49) (N := 35) Try.func49 rfl Try.ntmps49 rfl <| c_seq <| c_region <| g_v rfl r_assign <| g_nil <| d_then <| c_seq <| c_region <| g_v rfl r_assign <| g_nil ?_
 refine d_then <| c_seq ?_
 refine c_cut (ι := Int) [0, 3] (fun i13 => [(3, .int .i64 i13)]) (fun i13 => ⟨w0, M, H, R, φ⟩) (fun i13 => m_ref13_end_j1 p0 i13 = some r) ?_ (fun i13 u hm => ?_)
 ·
  refine c_block ?_
  replace hm := bnd hm
  obtain ⟨out2, hl2, hr2⟩ := hm
  obtain ⟨n30', hl2⟩ := loop_lp hl2
  refine c_loopU (ι := Nat × Int) [0, 3] (fun ⟨n30, i24⟩ => [(3, .int .i64 i24)]) (fun ⟨n30, i24⟩ => ⟨w0, M, H, R, φ⟩) (fun ⟨n30, i24⟩ => Lp (fun s => m_ref13_end_s2 p0 s) n30 i24 out2) (fun ⟨n30, i24⟩ => n30) (n30', 0) hl2 ⟨rfl, rfl, trivial⟩ (fun W h => h.phi (fun W hφ => hφ)) (fun ⟨n30, i24⟩ u hlp => ?_)
  obtain ⟨o2, hm, hnx2⟩ := lp_step hlp
  clear hlp
  replace hm : m_ref13_end_s2 p0 i24 = some o2 := hm
  unfold m_ref13_end_s2 at hm
  refine c_flat [(0, .string p0), (3, .int .i64 i24)] ⟨rfl, rfl, trivial⟩ (fun u => ?_)
  refine c_sta ⟨w0, M, H, R, φ⟩ (fun _ h => h) <| c_seq <| c_seq <| c_region <| g_v rfl r_move <| g_v rfl r_move <| g_v rfl (r_len Try.underlying9 rfl) <| g_v rfl (r_lss rfl rfl) <| g_v rfl r_move ?_
  refine g_if rfl rfl rfl rfl rfl (fun h31 => ?_) (fun h31 => ?_)
  ·
   replace hm := ite_t hm (of_decide_eq_true h31)
   refine g_v rfl r_move <| g_do rfl rfl rfl rfl rfl h31 <| g_v rfl r_move <| g_do rfl rfl rfl rfl rfl h31 ?_
   replace hm := bnd hm
   obtain ⟨b32, hb32, hm⟩ := hm
   refine g_v rfl (r_sat Try.underlying9 rfl rfl hb32) <| g_do rfl rfl rfl rfl rfl h31 <| g_v rfl (r_neq rfl rfl) <| g_v rfl (r_pick1 rfl h31) <| g_nil <| d_then ?_
   refine c_flat [(0, .string p0), (3, .int .i64 i24), (14, .bool (decide (b32 ≠ 0)))] ⟨rfl, rfl, rfl, trivial⟩ (fun u => ?_)
   refine c_cond rfl (fun h33 => ?_) (fun h33 => ?_)
   ·
    replace hm := ite_t hm (of_decide_eq_true h33)
    refine c_skip <| d_then <| c_block <| c_region <| g_v rfl r_move <| g_v rfl (r_add rfl rfl rfl) <| g_v rfl r_move <| g_v rfl r_move ?_
    replace hm := bnd hm
    obtain ⟨b34, hb34, hm⟩ := hm
    refine g_v rfl (r_sat Try.underlying9 rfl rfl hb34) <| g_v rfl (r_conv Try.underlying5 Try.underlying3 rfl rfl) <| g_v rfl (r_add rfl rfl rfl) <| g_v rfl r_assign <| g_nil <| d_normal_block ?_
    obtain ⟨n35, hn35, hlp⟩ := nx_inl hm hnx2
    exact d_round (n35, w64 ((w64 (i24 + 1)) + (w64 b34))) hlp hn35 ⟨rfl, rfl, trivial⟩ (fun W h => h.phi (fun W hφ => hφ))
   ·
    replace hm := ite_f hm (of_decide_eq_false h33)
    refine c_exit <| d_exit_then <| d_exit_then <| d_exit_block ?_
    replace hm := nx_out (C := (fun e : Int => m_ref13_end_j1 p0 e = some r)) hm hnx2 hr2
    exact d_round i24 hm Nat.zero_lt_one ⟨rfl, rfl, trivial⟩ (fun W h => h.phi (fun W hφ => hφ))
  ·
   replace hm := ite_f hm (of_decide_eq_false h31)
   refine g_no rfl rfl rfl rfl rfl h31 <| g_no rfl rfl rfl rfl rfl h31 <| g_no rfl rfl rfl rfl rfl h31 <| g_v rfl (r_pick0 rfl h31) <| g_nil <| d_then <| c_cond0 rfl rfl <| c_exit <| d_exit_then <| d_exit_then ?_
   refine d_exit_block ?_
   replace hm := nx_out (C := (fun e : Int => m_ref13_end_j1 p0 e = some r)) hm hnx2 hr2
   exact d_round i24 hm Nat.zero_lt_one ⟨rfl, rfl, trivial⟩ (fun W h => h.phi (fun W hφ => hφ))
 ·
  unfold m_ref13_end_j1 at hm
  refine d_flat [(0, .string p0), (3, .int .i64 i13)] ⟨rfl, rfl, trivial⟩ (fun u => ?_)
  refine d_sta ⟨w0, M, H, R, φ⟩ (fun _ h => h) <| d_then <| c_seq <| c_seq <| c_region <| g_v rfl r_move <| g_v rfl r_move <| g_v rfl (r_len Try.underlying9 rfl) <| g_v rfl (r_geq rfl rfl) <| g_nil ?_
  refine d_then ?_
  refine c_cond rfl (fun h14 => ?_) (fun h14 => ?_)
  ·
   replace hm := ite_t hm (of_decide_eq_true h14)
   refine c_seq <| c_region <| g_v rfl r_assign <| g_nil <| d_then <| c_ret <| d_ret_then ?_
   replace hm := Option.some.inj hm
   subst hm
   refine d_retC () Try.results49 ?_ trivial (fun W h => ok_pre (H1 := []) (R1 := []) h (fun W hφ => hφ)) (.inr rfl)
   refine res_tmp <| res_nil ?_
   exact rfl
  ·
   replace hm := ite_f hm (of_decide_eq_false h14)
   refine c_skip <| d_then <| c_seq <| c_region <| g_v rfl r_move <| g_v rfl r_move <| g_v rfl (r_add rfl rfl rfl) ?_
   replace hm := bnd hm
   obtain ⟨s15, hs15, hm⟩ := hm
   refine g_v rfl (r_scutHi Try.underlying9 rfl rfl hs15) ?_
   replace hm := bnd hm
   obtain ⟨x16, hx17, hm⟩ := hm
   refine g_cn ⟨w0, M, _, _, φ⟩ (fun _ h => h) Try.call58 rfl rfl (c_ref13_name s15 _ hx17) (fun _ _ => ?_)
   refine g_v rfl r_assign <| g_nil <| d_then ?_
   refine c_flat [(3, .int .i64 i13), (4, .bool x16)] ⟨rfl, rfl, trivial⟩ (fun u => ?_)
   refine c_seq <| c_seq <| c_region <| g_v rfl r_move <| g_v rfl (r_not rfl) <| g_nil <| d_then ?_
   refine c_cond rfl (fun h18 => ?_) (fun h18 => ?_)
   ·
    have h18' : x16 = false := by revert h18; cases x16 <;> simp
    replace hm := ite_f hm (bool_nt h18')
    refine c_seq <| c_region <| g_v rfl r_assign <| g_nil <| d_then <| c_ret <| d_ret_then ?_
    replace hm := Option.some.inj hm
    subst hm
    refine d_retC () Try.results49 ?_ trivial (fun W h => ok_pre (H1 := []) (R1 := []) h (fun W hφ => hφ)) (.inr rfl)
    refine res_tmp <| res_nil ?_
    exact rfl
   ·
    have h18' : x16 = true := by revert h18; cases x16 <;> simp
    replace hm := ite_t hm h18'
    refine c_skip <| d_then <| c_seq <| c_region <| g_v rfl r_move <| g_v rfl (r_add rfl rfl rfl) <| g_v rfl r_assign <| g_nil <| d_then <| c_ret ?_
    replace hm := Option.some.inj hm
    subst hm
    refine d_retC () Try.results49 ?_ trivial (fun W h => ok_pre (H1 := []) (R1 := []) h (fun W hφ => hφ)) (.inr rfl)
    refine res_tmp <| res_nil ?_
    exact rfl
noncomputable def m_ref13_Read_j1 (p0 : ByteArray) (l146 : List ByteArray) (i149 : Int) (i150 : Int) (s151 : ByteArray) (s152 : ByteArray) (s153 : ByteArray) : Option (GOrder × Int) :=
  (m_ref13_Bytes (⟨i149, i150, s151, s152, s153, l146⟩ : GOrder)).bind fun (z157 : ByteArray × Int) =>
  if z157.2 ≠ 0 then
    some ((⟨0, 0, (⟨#[]⟩ : ByteArray), (⟨#[]⟩ : ByteArray), (⟨#[]⟩ : ByteArray), ([] : List ByteArray)⟩ : GOrder), 10)
  else
    if z157.1 = p0 then
      some ((⟨i149, i150, s151, s152, s153, l146⟩ : GOrder), 0)
    else
      some ((⟨0, 0, (⟨#[]⟩ : ByteArray), (⟨#[]⟩ : ByteArray), (⟨#[]⟩ : ByteArray), ([] : List ByteArray)⟩ : GOrder), 10)
noncomputable def m_ref13_Read_s3 (s5 : ByteArray) (i165 : Int) (l189 : List ByteArray) (i192 : Int) : Option (((List ByteArray) × Int) ⊕ ((List ByteArray) × Int × Int × ByteArray × ByteArray × ByteArray)) :=
  if w64 (i192 + 4) ≤ (s5.size : Int) then
    (scutMid s5 i192 (w64 (i192 + 4))).bind fun s225 =>
    (app 16 l189 [s225]).bind fun l227 =>
    some (.inl (l227, w64 (i192 + 4)))
  else
    some (.inr (l189, i165, 0, (⟨#[]⟩ : ByteArray), (⟨#[]⟩ : ByteArray), (⟨#[]⟩ : ByteArray)))
noncomputable def m_ref13_Read_j2 (s5 : ByteArray) (p0 : ByteArray) (i163 : Int) (b164 : Bool) (i165 : Int) : Option (GOrder × Int) :=
  if b164 = true then
    (sat_ s5 0).bind fun b167 =>
    m_ref13_Read_j1 p0 ([] : List ByteArray) i165 (w64 b167) (⟨#[]⟩ : ByteArray) (⟨#[]⟩ : ByteArray) (⟨#[]⟩ : ByteArray)
  else
    if i163 = 3 then
      (loop (fun s => m_ref13_Read_s3 s5 i165 s.1 s.2) (([] : List ByteArray), 0)).bind fun e => m_ref13_Read_j1 p0 e.1 e.2.1 e.2.2.1 e.2.2.2.1 e.2.2.2.2.1 e.2.2.2.2.2
    else
      if i163 = 4 then
        (m_ref13_end s5).bind fun x232 =>
        if x232 < 0 then
          some ((⟨0, 0, (⟨#[]⟩ : ByteArray), (⟨#[]⟩ : ByteArray), (⟨#[]⟩ : ByteArray), ([] : List ByteArray)⟩ : GOrder), 10)
        else
          (scutHi s5 x232).bind fun s235 =>
          (scutLo s5 x232).bind fun s236 =>
          m_ref13_Read_j1 p0 ([] : List ByteArray) i165 0 s235 s236 (⟨#[]⟩ : ByteArray)
      else
        if i163 = 5 then
          m_ref13_Read_j1 p0 ([] : List ByteArray) i165 0 (⟨#[]⟩ : ByteArray) (⟨#[]⟩ : ByteArray) s5
        else
          m_ref13_Read_j1 p0 ([] : List ByteArray) i165 0 (⟨#[]⟩ : ByteArray) (⟨#[]⟩ : ByteArray) (⟨#[]⟩ : ByteArray)
noncomputable def m_ref13_Read (p0 : ByteArray) : Option (GOrder × Int) :=
  if (p0.size : Int) < 2 then
    some ((⟨0, 0, (⟨#[]⟩ : ByteArray), (⟨#[]⟩ : ByteArray), (⟨#[]⟩ : ByteArray), ([] : List ByteArray)⟩ : GOrder), 10)
  else
    (sat_ p0 0).bind fun b3 =>
    (scutLo p0 1).bind fun s5 =>
    if w64 b3 = 1 then
      m_ref13_Read_j2 s5 p0 (w64 b3) (decide (w64 b3 = 1)) (w64 b3)
    else
      m_ref13_Read_j2 s5 p0 (w64 b3) (decide (w64 b3 = 2)) (w64 b3)
theorem c_ref13_Read {w0 : World} {M : Nat → Prop} {H : List (Nat × Nat × Obj)} {R : List (Nat × Row)} {φ : World → Prop} (p0 : ByteArray) (r : GOrder × Int) (hm : m_ref13_Read p0 = some r) :
    Cn Try.prog 18 #[.string p0] ⟨w0, M, H, R, φ⟩ (fun x : Option Addr × Nat => .tuple #[.agg #[.int .i64 r.1.fKind, .int .i64 r.1.fNode, .string r.1.fName, .string r.1.fText, .string r.1.fZone, .slice x.1 r.1.fHints.length x.2], .int .i64 r.2]) (fun x => r.1.fHints.length ≤ x.2) (fun x => ⟨w0, M, H, R, fun W => φ W ∧ Cl W x.1 (r.1.fHints.flatMap (fun x : ByteArray => [Value.string x]))⟩) := by
 unfold m_ref13_Read at hm
 refine cn_intro (fn := Try.f18) (N := 81) Try.func18 rfl Try.ntmps18 rfl <| c_seq <| c_region ?_
 refine g_e rfl (e_alloc 100020 Try.zeroValue35) (fun g1 _ => ?_)
 refine g_v rfl r_assign <| g_nil <| d_then <| c_seq <| c_seq <| c_region <| g_v rfl r_move <| g_v rfl (r_len Try.underlying9 rfl) <| g_v rfl (r_lss rfl rfl) <| g_nil ?_
 refine d_then ?_
 refine c_cond rfl (fun h2 => ?_) (fun h2 => ?_)
 ·
  replace hm := ite_t hm (of_decide_eq_true h2)
  refine c_seq <| c_region <| g_v rfl (r_build _ rfl (bld35_22)) <| g_storeL (tag := 100020) rfl rfl rfl rfl Try.sizeOf35 rfl rfl <| g_v rfl r_assign <| g_nil <| d_then <| c_ret <| d_ret_then ?_
  replace hm := Option.some.inj hm
  subst hm
  refine d_retC (none, 0) Try.results18 ?_ (Nat.le_refl 0) (fun W h => ok_pre (H1 := [_]) (R1 := []) h (fun W hφ => ⟨hφ, (fun W _ => Cl.nil _ _) W hφ⟩)) (.inr rfl)
  refine res_agg (tag := 100020) rfl rfl Try.isAgg35 Try.sizeOf35 <| res_tmp <| res_nil ?_
  exact rfl
 ·
  replace hm := ite_f hm (of_decide_eq_false h2)
  refine c_skip <| d_then <| c_seq <| c_region <| g_v rfl r_move ?_
  replace hm := bnd hm
  obtain ⟨b3, hb3, hm⟩ := hm
  refine g_v rfl (r_sat Try.underlying9 rfl rfl hb3) <| g_v rfl (r_conv Try.underlying5 Try.underlying3 rfl rfl) <| g_v rfl (r_build _ rfl (bld35_21 _)) ?_
  refine g_e rfl (e_alloc 100040 Try.zeroValue35) (fun g4 _ => ?_)
  refine g_storeL (tag := 100040) rfl rfl rfl rfl Try.sizeOf35 rfl rfl <| g_nil <| d_then ?_
  refine c_flat [(0, .string p0), (2, .pointer (some ⟨g1, 0, none⟩)), (4, .pointer (some ⟨g4, 0, none⟩))] ⟨rfl, rfl, rfl, trivial⟩ (fun u => ?_)
  refine c_sta ⟨w0, M, (100040, g4, .cells #[.int .i64 (w64 b3), .int .i64 0, .string (⟨#[]⟩ : ByteArray), .string (⟨#[]⟩ : ByteArray), .string (⟨#[]⟩ : ByteArray), .slice none 0 0] 35 (0, 0)) :: (100020, g1, .cells #[.int .i64 0, .int .i64 0, .string (⟨#[]⟩ : ByteArray), .string (⟨#[]⟩ : ByteArray), .string (⟨#[]⟩ : ByteArray), .slice none 0 0] 35 (0, 0)) :: H, R, φ⟩ (fun _ h => h) <| c_seq <| c_region <| g_v rfl r_move ?_
  replace hm := bnd hm
  obtain ⟨s5, hs5, hm⟩ := hm
  refine g_v rfl (r_scutLo Try.underlying9 rfl rfl hs5) <| g_v rfl r_assign <| g_nil <| d_then <| c_seq <| c_sta _ (fun W h => nilR h 15 9 1) ?_
  refine c_cut (ι := (List ByteArray) × Int × Int × ByteArray × ByteArray × ByteArray × Option Addr × Nat) [0, 2, 4] (fun ⟨l146, i149, i150, s151, s152, s153, A147, c148⟩ => []) (fun ⟨l146, i149, i150, s151, s152, s153, A147, c148⟩ => ⟨w0, M, (100040, g4, .cells #[.int .i64 i149, .int .i64 i150, .string s151, .string s152, .string s153, .slice A147 l146.length c148] 35 (0, 0)) :: (100020, g1, .cells #[.int .i64 0, .int .i64 0, .string (⟨#[]⟩ : ByteArray), .string (⟨#[]⟩ : ByteArray), .string (⟨#[]⟩ : ByteArray), .slice none 0 0] 35 (0, 0)) :: H, (15, ⟨.slice A147 l146.length c148, 9, 1, l146.length, l146.flatMap (fun x : ByteArray => [Value.string x])⟩) :: R, φ⟩) (fun ⟨l146, i149, i150, s151, s152, s153, A147, c148⟩ => m_ref13_Read_j1 p0 l146 i149 i150 s151 s152 s153 = some r ∧ l146.length ≤ c148) ?_ (fun ⟨l146, i149, i150, s151, s152, s153, A147, c148⟩ u ⟨hm, hc148⟩ => ?_)
  ·
   refine c_seq <| c_region <| g_v rfl (r_field (n := 0) Try.underlying35 rfl Try.sizeOf3 rfl rfl) <| g_v rfl (r_load (tag := 100040) rfl rfl rfl Try.isAgg3) <| g_nil <| d_then <| c_block <| c_seq ?_
   refine c_cut (ι := Int × Bool × Int) [0, 2, 4, 5, 21, 22] (fun ⟨i163, b164, i165⟩ => [(21, .int .i64 i163), (22, .bool b164)]) (fun ⟨i163, b164, i165⟩ => ⟨w0, M, (100040, g4, .cells #[.int .i64 i165, .int .i64 0, .string (⟨#[]⟩ : ByteArray), .string (⟨#[]⟩ : ByteArray), .string (⟨#[]⟩ : ByteArray), .slice none 0 0] 35 (0, 0)) :: (100020, g1, .cells #[.int .i64 0, .int .i64 0, .string (⟨#[]⟩ : ByteArray), .string (⟨#[]⟩ : ByteArray), .string (⟨#[]⟩ : ByteArray), .slice none 0 0] 35 (0, 0)) :: H, (15, ⟨.slice none 0 0, 9, 1, 0, []⟩) :: R, φ⟩) (fun ⟨i163, b164, i165⟩ => m_ref13_Read_j2 s5 p0 i163 b164 i165 = some r) ?_ (fun ⟨i163, b164, i165⟩ u hm => ?_)
   ·
    refine c_seq <| c_region <| g_v rfl (r_eql rfl rfl) <| g_v rfl r_assign <| g_nil <| d_then ?_
    refine c_cond rfl (fun h238 => ?_) (fun h238 => ?_)
    ·
     replace hm := ite_t hm (of_decide_eq_true h238)
     refine c_skip ?_
     exact d_round (w64 b3, decide (w64 b3 = 1), w64 b3) hm Nat.zero_lt_one ⟨rfl, rfl, rfl, rfl, rfl, rfl, trivial⟩ (fun W h => h.phi (fun W hφ => hφ))
    ·
     replace hm := ite_f hm (of_decide_eq_false h238)
     refine c_region <| g_v rfl (r_eql rfl rfl) <| g_v rfl r_assign <| g_nil ?_
     exact d_round (w64 b3, decide (w64 b3 = 2), w64 b3) hm Nat.zero_lt_one ⟨rfl, rfl, rfl, rfl, rfl, rfl, trivial⟩ (fun W h => h.phi (fun W hφ => hφ))
   ·
    unfold m_ref13_Read_j2 at hm
    refine d_flat [(0, .string p0), (2, .pointer (some ⟨g1, 0, none⟩)), (4, .pointer (some ⟨g4, 0, none⟩)), (5, .string s5), (21, .int .i64 i163), (22, .bool b164)] ⟨rfl, rfl, rfl, rfl, rfl, rfl, trivial⟩ (fun u => ?_)
    refine d_sta ⟨w0, M, (100040, g4, .cells #[.int .i64 i165, .int .i64 0, .string (⟨#[]⟩ : ByteArray), .string (⟨#[]⟩ : ByteArray), .string (⟨#[]⟩ : ByteArray), .slice none 0 0] 35 (0, 0)) :: (100020, g1, .cells #[.int .i64 0, .int .i64 0, .string (⟨#[]⟩ : ByteArray), .string (⟨#[]⟩ : ByteArray), .string (⟨#[]⟩ : ByteArray), .slice none 0 0] 35 (0, 0)) :: H, (15, ⟨.slice none 0 0, 9, 1, 0, []⟩) :: R, φ⟩ (fun _ h => h) <| d_then ?_
    refine c_cond rfl (fun h166 => ?_) (fun h166 => ?_)
    ·
     replace hm := ite_t hm h166
     refine c_region <| g_v rfl r_move ?_
     replace hm := bnd hm
     obtain ⟨b167, hb167, hm⟩ := hm
     refine g_v rfl (r_sat Try.underlying9 rfl rfl hb167) <| g_v rfl (r_conv Try.underlying5 Try.underlying3 rfl rfl) <| g_v rfl (r_field (n := 1) Try.underlying35 rfl Try.sizeOf3 rfl rfl) <| g_storeL (tag := 100040) rfl rfl rfl rfl Try.sizeOf3 rfl rfl <| g_nil <| d_normal_block ?_
     exact d_round (([] : List ByteArray), i165, w64 b167, (⟨#[]⟩ : ByteArray), (⟨#[]⟩ : ByteArray), (⟨#[]⟩ : ByteArray), none, 0) ⟨hm, (Nat.le_refl 0)⟩ Nat.zero_lt_one ⟨rfl, rfl, rfl, trivial⟩ (fun W h => h.phi (fun W hφ => hφ))
    ·
     replace hm := ite_f hm (bool_nt h166)
     refine c_seq <| c_region <| g_v rfl (r_eql rfl rfl) <| g_v rfl r_assign <| g_nil <| d_then ?_
     refine c_cond rfl (fun h168 => ?_) (fun h168 => ?_)
     ·
      replace hm := ite_t hm (of_decide_eq_true h168)
      refine c_seq <| c_region <| g_v rfl r_assign <| g_nil <| d_then <| c_block ?_
      replace hm := bnd hm
      obtain ⟨out3, hl3, hr3⟩ := hm
      obtain ⟨n213', hl3⟩ := loop_lp hl3
      refine c_loopU (ι := Nat × (List ByteArray) × Int × Option Addr × Nat) [0, 2, 4, 5, 6] (fun ⟨n213, l189, i192, A190, c191⟩ => [(6, .int .i64 i192)]) (fun ⟨n213, l189, i192, A190, c191⟩ => ⟨w0, M, (100040, g4, .cells #[.int .i64 i165, .int .i64 0, .string (⟨#[]⟩ : ByteArray), .string (⟨#[]⟩ : ByteArray), .string (⟨#[]⟩ : ByteArray), .slice A190 l189.length c191] 35 (0, 0)) :: (100020, g1, .cells #[.int .i64 0, .int .i64 0, .string (⟨#[]⟩ : ByteArray), .string (⟨#[]⟩ : ByteArray), .string (⟨#[]⟩ : ByteArray), .slice none 0 0] 35 (0, 0)) :: H, (15, ⟨.slice A190 l189.length c191, 9, 1, l189.length, l189.flatMap (fun x : ByteArray => [Value.string x])⟩) :: R, φ⟩) (fun ⟨n213, l189, i192, A190, c191⟩ => Lp (fun s => m_ref13_Read_s3 s5 i165 s.1 s.2) n213 (l189, i192) out3 ∧ l189.length ≤ c191) (fun ⟨n213, l189, i192, A190, c191⟩ => n213) (n213', ([] : List ByteArray), 0, none, 0) ⟨hl3, (Nat.le_refl 0)⟩ ⟨rfl, rfl, rfl, rfl, rfl, trivial⟩ (fun W h => h.phi (fun W hφ => hφ)) (fun ⟨n213, l189, i192, A190, c191⟩ u ⟨hlp, hc191⟩ => ?_)
      obtain ⟨o3, hm, hnx3⟩ := lp_step hlp
      clear hlp
      replace hm : m_ref13_Read_s3 s5 i165 l189 i192 = some o3 := hm
      unfold m_ref13_Read_s3 at hm
      refine c_flat [(0, .string p0), (2, .pointer (some ⟨g1, 0, none⟩)), (4, .pointer (some ⟨g4, 0, none⟩)), (5, .string s5), (6, .int .i64 i192)] ⟨rfl, rfl, rfl, rfl, rfl, trivial⟩ (fun u => ?_)
      refine c_sta ⟨w0, M, (100040, g4, .cells #[.int .i64 i165, .int .i64 0, .string (⟨#[]⟩ : ByteArray), .string (⟨#[]⟩ : ByteArray), .string (⟨#[]⟩ : ByteArray), .slice A190 l189.length c191] 35 (0, 0)) :: (100020, g1, .cells #[.int .i64 0, .int .i64 0, .string (⟨#[]⟩ : ByteArray), .string (⟨#[]⟩ : ByteArray), .string (⟨#[]⟩ : ByteArray), .slice none 0 0] 35 (0, 0)) :: H, (15, ⟨.slice A190 l189.length c191, 9, 1, l189.length, l189.flatMap (fun x : ByteArray => [Value.string x])⟩) :: R, φ⟩ (fun _ h => h) <| c_seq <| c_seq <| c_region <| g_v rfl r_move <| g_v rfl (r_add rfl rfl rfl) <| g_v rfl r_move <| g_v rfl (r_len Try.underlying9 rfl) <| g_v rfl (r_leq rfl rfl) <| g_nil ?_
      refine d_then ?_
      refine c_cond rfl (fun h214 => ?_) (fun h214 => ?_)
      ·
       replace hm := ite_t hm (of_decide_eq_true h214)
       refine c_skip <| d_then <| c_seq <| c_block <| ga_start (n := 11) ⟨w0, M, (100040, g4, .cells #[.int .i64 i165, .int .i64 0, .string (⟨#[]⟩ : ByteArray), .string (⟨#[]⟩ : ByteArray), .string (⟨#[]⟩ : ByteArray), .slice A190 l189.length c191] 35 (0, 0)) :: (100020, g1, .cells #[.int .i64 0, .int .i64 0, .string (⟨#[]⟩ : ByteArray), .string (⟨#[]⟩ : ByteArray), .string (⟨#[]⟩ : ByteArray), .slice none 0 0] 35 (0, 0)) :: H, R, φ⟩ [10] #[false, false, false, false, false, false, false, false, false, false, false] (fun W h => (h.dropR (t := 15) rfl).phi (fun W hφ => hφ)) mixed rfl rfl <| ga_v (i := 0) (bz 11 1) rfl (by kernel_rfl) (fun _ _ _ _ h => h) rfl (r_field (n := 5) Try.underlying35 rfl Try.sizeOf22 rfl rfl) <| ga_v (i := 1) (bz 11 3) rfl (by kernel_rfl) (fun _ _ _ _ h => h) rfl (r_load (tag := 100040) rfl rfl rfl Try.isAgg22) <| ga_v (i := 2) (bz 11 7) rfl (by kernel_rfl) (fun _ _ _ _ h => h) rfl (r_move) <| ga_v (i := 3) (bz 11 15) rfl (by kernel_rfl) (fun _ _ _ _ h => h) rfl (r_move) <| ga_r (i := 4) (bz 11 31) rfl (by kernel_rfl) (by decide) rfl (r_move) ?_
       refine ga_r (i := 5) (bz 11 63) rfl (by kernel_rfl) (by decide) rfl (r_add rfl rfl rfl) ?_
       replace hm := bnd hm
       obtain ⟨s225, hs225, hm⟩ := hm
       refine ga_r (i := 6) (bz 11 127) rfl (by kernel_rfl) (by decide) rfl (r_scutMid Try.underlying9 rfl rfl rfl hs225) ?_
       refine ga_e (i := 7) (bz 11 255) rfl (by kernel_rfl) (by decide) rfl  (e_lit (tag := 100450) (l := [s225]) (enc := (fun x : ByteArray => [Value.string x])) (sz := 1) rfl Try.underlying22 (lit9_6 _) rfl rfl (fun _ => rfl)) (fun g226 W _ h => ((h.dropR (t := 100450) rfl).dropR (t := 15) rfl).phi (fun W hφ => hφ)) (fun g226 _ => ?_)
       replace hm := bnd hm
       obtain ⟨l227, hl227, hm⟩ := hm
       refine ga_e (i := 8) (bz 11 511) rfl (by kernel_rfl) (by decide) rfl  (e_appR (enc := (fun x : ByteArray => [Value.string x])) (l := l189) (l1 := [s225]) (l2 := l227) (tag := 15) Try.underlying22 inf9_7 rfl (by decide) (by decide) (fun _ => rfl) (fun _ => rfl) rfl hc191 rfl rfl (fun W hS => rowCl (tag := 100450) rfl W hS) hl227) (fun ⟨A228, c229⟩ W hc229 h => ((h.dropR (t := 100450) rfl).dropR (t := 15) rfl).phi (fun W hφ => hφ)) (fun ⟨A228, c229⟩ hc229 => ?_)
       refine ga_r (i := 9) (bz 11 1023) rfl (by kernel_rfl) (by decide) rfl (r_field (n := 5) Try.underlying35 rfl Try.sizeOf22 rfl rfl) <| ga_lastL (i := 10) (tag := 100040) (bz 11 2047) rfl (by kernel_rfl) (by decide) rfl rfl rfl rfl Try.sizeOf22 rfl rfl <| gz_done (by kernel_rfl) <| d_normal_block <| d_then ?_
       refine c_flat [(0, .string p0), (2, .pointer (some ⟨g1, 0, none⟩)), (4, .pointer (some ⟨g4, 0, none⟩)), (5, .string s5), (6, .int .i64 i192)] ⟨rfl, rfl, rfl, rfl, rfl, trivial⟩ (fun u => ?_)
       refine c_sta ⟨w0, M, (100040, g4, .cells #[.int .i64 i165, .int .i64 0, .string (⟨#[]⟩ : ByteArray), .string (⟨#[]⟩ : ByteArray), .string (⟨#[]⟩ : ByteArray), .slice A228 l227.length c229] 35 (0, 0)) :: (100020, g1, .cells #[.int .i64 0, .int .i64 0, .string (⟨#[]⟩ : ByteArray), .string (⟨#[]⟩ : ByteArray), .string (⟨#[]⟩ : ByteArray), .slice none 0 0] 35 (0, 0)) :: H, (100450, ⟨.slice (some ⟨g226, 0, none⟩) [s225].length 1, 9, 1, [s225].length, [s225].flatMap (fun x : ByteArray => [Value.string x])⟩) :: (15, ⟨.slice A228 l227.length c229, 9, 1, l227.length, l227.flatMap (fun x : ByteArray => [Value.string x])⟩) :: R, φ⟩ (fun _ h => h) <| c_region <| g_v rfl r_move <| g_v rfl (r_add rfl rfl rfl) <| g_v rfl r_assign <| g_nil ?_
       obtain ⟨n230, hn230, hlp⟩ := nx_inl hm hnx3
       exact d_round (n230, l227, w64 (i192 + 4), A228, c229) ⟨hlp, hc229⟩ hn230 ⟨rfl, rfl, rfl, rfl, rfl, trivial⟩ (fun W h => (h.dropR (t := 100450) rfl).phi (fun W hφ => hφ))
      ·
       replace hm := ite_f hm (of_decide_eq_false h214)
       refine c_exit <| d_exit_then <| d_exit_then <| d_exit_block <| d_normal_block ?_
       replace hm := nx_out (C := (fun e : (List ByteArray) × Int × Int × ByteArray × ByteArray × ByteArray => m_ref13_Read_j1 p0 e.1 e.2.1 e.2.2.1 e.2.2.2.1 e.2.2.2.2.1 e.2.2.2.2.2 = some r)) hm hnx3 hr3
       exact d_round (l189, i165, 0, (⟨#[]⟩ : ByteArray), (⟨#[]⟩ : ByteArray), (⟨#[]⟩ : ByteArray), A190, c191) ⟨hm, hc191⟩ Nat.zero_lt_one ⟨rfl, rfl, rfl, trivial⟩ (fun W h => h.phi (fun W hφ => hφ))
     ·
      replace hm := ite_f hm (of_decide_eq_false h168)
      refine c_seq <| c_region <| g_v rfl (r_eql rfl rfl) <| g_v rfl r_assign <| g_nil <| d_then ?_
      refine c_cond rfl (fun h231 => ?_) (fun h231 => ?_)
      ·
       replace hm := ite_t hm (of_decide_eq_true h231)
       refine c_seq <| c_region <| g_v rfl r_move ?_
       replace hm := bnd hm
       obtain ⟨x232, hx233, hm⟩ := hm
       refine g_cn ⟨w0, M, _, _, φ⟩ (fun _ h => h) Try.call49 rfl rfl (c_ref13_end s5 _ hx233) (fun _ _ => ?_)
       refine g_v rfl r_assign <| g_nil <| d_then <| c_seq <| c_seq <| c_region <| g_v rfl r_move <| g_v rfl (r_lss rfl rfl) <| g_nil <| d_then ?_
       refine c_flat [(0, .string p0), (2, .pointer (some ⟨g1, 0, none⟩)), (4, .pointer (some ⟨g4, 0, none⟩)), (5, .string s5), (7, .int .i64 x232), (53, .bool (decide (x232 < 0)))] ⟨rfl, rfl, rfl, rfl, rfl, rfl, trivial⟩ (fun u => ?_)
       refine c_cond rfl (fun h234 => ?_) (fun h234 => ?_)
       ·
        replace hm := ite_t hm (of_decide_eq_true h234)
        refine c_seq <| c_region <| g_v rfl (r_build _ rfl (bld35_22)) <| g_storeL (tag := 100020) rfl rfl rfl rfl Try.sizeOf35 rfl rfl <| g_v rfl r_assign <| g_nil <| d_then <| c_ret <| d_ret_then <| d_ret_block ?_
        refine d_ret_then <| d_ret_then ?_
        replace hm := Option.some.inj hm
        subst hm
        refine d_retC (none, 0) Try.results18 ?_ (Nat.le_refl 0) (fun W h => ok_pre (H1 := [_, _]) (R1 := [_]) h (fun W hφ => ⟨hφ, (fun W _ => Cl.nil _ _) W hφ⟩)) (.inr rfl)
        refine res_agg (tag := 100020) rfl rfl Try.isAgg35 Try.sizeOf35 <| res_tmp <| res_nil ?_
        exact rfl
       ·
        replace hm := ite_f hm (of_decide_eq_false h234)
        refine c_skip <| d_then <| c_seq <| c_region <| g_v rfl r_move <| g_v rfl r_move ?_
        replace hm := bnd hm
        obtain ⟨s235, hs235, hm⟩ := hm
        refine g_v rfl (r_scutHi Try.underlying9 rfl rfl hs235) <| g_v rfl (r_field (n := 2) Try.underlying35 rfl Try.sizeOf9 rfl rfl) <| g_storeL (tag := 100040) rfl rfl rfl rfl Try.sizeOf9 rfl rfl <| g_nil <| d_then <| c_region <| g_v rfl r_move <| g_v rfl r_move ?_
        replace hm := bnd hm
        obtain ⟨s236, hs236, hm⟩ := hm
        refine g_v rfl (r_scutLo Try.underlying9 rfl rfl hs236) <| g_v rfl (r_field (n := 3) Try.underlying35 rfl Try.sizeOf9 rfl rfl) <| g_storeL (tag := 100040) rfl rfl rfl rfl Try.sizeOf9 rfl rfl <| g_nil <| d_normal_block ?_
        exact d_round (([] : List ByteArray), i165, 0, s235, s236, (⟨#[]⟩ : ByteArray), none, 0) ⟨hm, (Nat.le_refl 0)⟩ Nat.zero_lt_one ⟨rfl, rfl, rfl, trivial⟩ (fun W h => h.phi (fun W hφ => hφ))
      ·
       replace hm := ite_f hm (of_decide_eq_false h231)
       refine c_seq <| c_region <| g_v rfl (r_eql rfl rfl) <| g_v rfl r_assign <| g_nil <| d_then ?_
       refine c_cond rfl (fun h237 => ?_) (fun h237 => ?_)
       ·
        replace hm := ite_t hm (of_decide_eq_true h237)
        refine c_region <| g_v rfl r_move <| g_v rfl (r_field (n := 4) Try.underlying35 rfl Try.sizeOf9 rfl rfl) <| g_storeL (tag := 100040) rfl rfl rfl rfl Try.sizeOf9 rfl rfl <| g_nil <| d_normal_block ?_
        exact d_round (([] : List ByteArray), i165, 0, (⟨#[]⟩ : ByteArray), (⟨#[]⟩ : ByteArray), s5, none, 0) ⟨hm, (Nat.le_refl 0)⟩ Nat.zero_lt_one ⟨rfl, rfl, rfl, trivial⟩ (fun W h => h.phi (fun W hφ => hφ))
       ·
        replace hm := ite_f hm (of_decide_eq_false h237)
        refine c_skip <| d_normal_block ?_
        exact d_round (([] : List ByteArray), i165, 0, (⟨#[]⟩ : ByteArray), (⟨#[]⟩ : ByteArray), (⟨#[]⟩ : ByteArray), none, 0) ⟨hm, (Nat.le_refl 0)⟩ Nat.zero_lt_one ⟨rfl, rfl, rfl, trivial⟩ (fun W h => h.phi (fun W hφ => hφ))
  ·
   unfold m_ref13_Read_j1 at hm
   refine d_flat [(0, .string p0), (2, .pointer (some ⟨g1, 0, none⟩)), (4, .pointer (some ⟨g4, 0, none⟩))] ⟨rfl, rfl, rfl, trivial⟩ (fun u => ?_)
   refine d_sta ⟨w0, M, (100040, g4, .cells #[.int .i64 i149, .int .i64 i150, .string s151, .string s152, .string s153, .slice A147 l146.length c148] 35 (0, 0)) :: (100020, g1, .cells #[.int .i64 0, .int .i64 0, .string (⟨#[]⟩ : ByteArray), .string (⟨#[]⟩ : ByteArray), .string (⟨#[]⟩ : ByteArray), .slice none 0 0] 35 (0, 0)) :: H, (15, ⟨.slice A147 l146.length c148, 9, 1, l146.length, l146.flatMap (fun x : ByteArray => [Value.string x])⟩) :: R, φ⟩ (fun _ h => h) <| d_then <| c_seq <| c_region <| g_v rfl (r_loadA (tag := 100040) rfl rfl Try.isAgg35 Try.sizeOf35 rfl rfl) ?_
   replace hm := bnd hm
   obtain ⟨⟨x154, x155⟩, hx156, hm⟩ := hm
   refine g_cn ⟨w0, M, _, _, φ⟩ (fun _ h => h) Try.call16 rfl rfl (c_ref13_Bytes (⟨i149, i150, s151, s152, s153, l146⟩ : GOrder) A147 c148 hc148 (fun W hS => rowCl (tag := 15) rfl W hS) _ hx156) (fun _ _ => ?_)
   refine g_v rfl r_move <| g_v rfl (r_extract rfl rfl) <| g_v rfl (r_extract rfl rfl) <| g_v rfl r_assign <| g_v rfl r_assign <| g_nil <| d_then <| c_seq <| c_seq <| c_region ?_
   refine g_v rfl r_move <| g_v rfl (r_neq rfl rfl) <| g_v rfl r_move ?_
   refine g_if rfl rfl rfl rfl rfl (fun h158 => ?_) (fun h158 => ?_)
   ·
    replace hm := ite_f hm (of_decide_eq_false h158)
    refine g_v rfl r_move <| g_do rfl rfl rfl rfl rfl h158 <| g_v rfl r_move <| g_do rfl rfl rfl rfl rfl h158 <| g_v rfl (r_neqT rfl rfl) <| g_v rfl (r_pick0 rfl h158) <| g_nil <| d_then ?_
    refine c_flat [(2, .pointer (some ⟨g1, 0, none⟩)), (4, .pointer (some ⟨g4, 0, none⟩)), (78, .bool (!(decide (x154 = p0))))] ⟨rfl, rfl, rfl, trivial⟩ (fun u => ?_)
    refine c_cond rfl (fun h159 => ?_) (fun h159 => ?_)
    ·
     have h159' : (decide (x154 = p0)) = false := by revert h159; cases (decide (x154 = p0)) <;> simp
     replace hm := ite_f hm (of_decide_eq_false h159')
     refine c_seq <| c_region <| g_v rfl (r_build _ rfl (bld35_22)) <| g_storeL (tag := 100020) rfl rfl rfl rfl Try.sizeOf35 rfl rfl <| g_v rfl r_assign <| g_nil <| d_then <| c_ret <| d_ret_then ?_
     replace hm := Option.some.inj hm
     subst hm
     refine d_retC (none, 0) Try.results18 ?_ (Nat.le_refl 0) (fun W h => ok_pre (H1 := [_, _]) (R1 := [_]) h (fun W hφ => ⟨hφ, (fun W _ => Cl.nil _ _) W hφ⟩)) (.inr rfl)
     refine res_agg (tag := 100020) rfl rfl Try.isAgg35 Try.sizeOf35 <| res_tmp <| res_nil ?_
     exact rfl
    ·
     have h159' : (decide (x154 = p0)) = true := by revert h159; cases (decide (x154 = p0)) <;> simp
     replace hm := ite_t hm (of_decide_eq_true h159')
     refine c_skip <| d_then <| c_seq <| c_region <| g_v rfl (r_loadA (tag := 100040) rfl rfl Try.isAgg35 Try.sizeOf35 rfl rfl) <| g_storeL (tag := 100020) rfl rfl rfl rfl Try.sizeOf35 rfl rfl <| g_v rfl r_assign <| g_nil <| d_then <| c_ret ?_
     replace hm := Option.some.inj hm
     subst hm
     refine d_shut (tag := 15) rfl (fun φ160 q160' => ?_)
     have q160 : ∀ W, φ160 W → φ W := fun W h => (q160' W h).1
     have f161 := fun (W : World) (h : φ160 W) => (q160' W h).2
     refine d_retC (A147, c148) Try.results18 ?_ hc148 (fun W h => ok_pre (H1 := [_, _]) (R1 := []) h (fun W hφ => ⟨(q160 _ hφ), (fun W h => f161 W h) W hφ⟩)) (.inr rfl)
     refine res_agg (tag := 100020) rfl rfl Try.isAgg35 Try.sizeOf35 <| res_tmp <| res_nil ?_
     exact rfl
   ·
    replace hm := ite_t hm (of_decide_eq_true h158)
    refine g_no rfl rfl rfl rfl rfl h158 <| g_no rfl rfl rfl rfl rfl h158 <| g_v rfl (r_pick1 rfl h158) <| g_nil <| d_then ?_
    refine c_flat [(2, .pointer (some ⟨g1, 0, none⟩)), (4, .pointer (some ⟨g4, 0, none⟩)), (78, .bool true)] ⟨rfl, rfl, rfl, trivial⟩ (fun u => ?_)
    refine c_cond1 rfl rfl <| c_seq <| c_region <| g_v rfl (r_build _ rfl (bld35_22)) <| g_storeL (tag := 100020) rfl rfl rfl rfl Try.sizeOf35 rfl rfl <| g_v rfl r_assign <| g_nil <| d_then <| c_ret <| d_ret_then ?_
    replace hm := Option.some.inj hm
    subst hm
    refine d_retC (none, 0) Try.results18 ?_ (Nat.le_refl 0) (fun W h => ok_pre (H1 := [_, _]) (R1 := [_]) h (fun W hφ => ⟨hφ, (fun W _ => Cl.nil _ _) W hφ⟩)) (.inr rfl)
    refine res_agg (tag := 100020) rfl rfl Try.isAgg35 Try.sizeOf35 <| res_tmp <| res_nil ?_
    exact rfl
theorem bld29_23 (zA0 : Option Addr) (zn0 : Nat) (zc0 : Nat) : ∀ W, (Instr.build 29 #[(1, .slice zA0 zn0 zc0)]).run Try.prog W = .ok (.agg #[.slice none 0 0, .slice zA0 zn0 zc0, .slice none 0 0, .int .i64 0, .slice none 0 0]) W := fun _ => by kernel_rfl
theorem eqq43 (a b : GAnchor) : ∀ d W, (Op.equalIn (d + 5) 43 (.agg #[.string a.fName, .string a.fText]) (.agg #[.string b.fName, .string b.fText])).run Try.prog W = .ok (decide (a = b)) W := by
  intro d W
  have h := eqs_of (d := d + 4) (xs := #[.string a.fName, .string a.fText]) (ys := #[.string b.fName, .string b.fText]) (w := W) Try.underlying43 (by kernel_rfl) (eqs_cons (a := .string a.fName) (b := .string b.fName) rfl (by kernel_rfl) (by kernel_rfl) (eqs_str Try.underlying9) (eqs_cons (a := .string a.fText) (b := .string b.fText) rfl (by kernel_rfl) (by kernel_rfl) (eqs_str Try.underlying9) eqs_nil))
  refine h.trans ?_
  congr 1
  cases a; cases b
  simp only [GAnchor.mk.injEq, Bool.and_true]
  simp only [Bool.decide_and]
theorem eqg43 : Try.prog.eqGuardType Try.prog.depth 43 = false := by kernel_rfl
theorem eqq54 (a b : GFlush) : ∀ d W, (Op.equalIn (d + 5) 54 (.agg #[.int .i64 a.fEpoch, .string a.fZone]) (.agg #[.int .i64 b.fEpoch, .string b.fZone])).run Try.prog W = .ok (decide (a = b)) W := by
  intro d W
  have h := eqs_of (d := d + 4) (xs := #[.int .i64 a.fEpoch, .string a.fZone]) (ys := #[.int .i64 b.fEpoch, .string b.fZone]) (w := W) Try.underlying54 (by kernel_rfl) (eqs_cons (a := .int .i64 a.fEpoch) (b := .int .i64 b.fEpoch) rfl (by kernel_rfl) (by kernel_rfl) (eqs_int Try.underlying3) (eqs_cons (a := .string a.fZone) (b := .string b.fZone) rfl (by kernel_rfl) (by kernel_rfl) (eqs_str Try.underlying9) eqs_nil))
  refine h.trans ?_
  congr 1
  cases a; cases b
  simp only [GFlush.mk.injEq, Bool.and_true]
  simp only [Bool.decide_and]
theorem eqg54 : Try.prog.eqGuardType Try.prog.depth 54 = false := by kernel_rfl
noncomputable def m_ref13_Same_j4  : Option Bool :=
  some true
noncomputable def m_ref13_Same_s5 (p0 : GConf) (p1 : GConf) (i259 : Int) : Option (Int ⊕ (Unit ⊕ Bool)) :=
  if i259 < (p0.fFlushes.length : Int) then
    (at_ p0.fFlushes i259).bind fun x305 =>
    (at_ p1.fFlushes i259).bind fun x309 =>
    if x305 = x309 then
      some (.inl (w64 (i259 + 1)))
    else
      some (.inr (.inr false))
  else
    some (.inr (.inl ()))
noncomputable def m_ref13_Same_j3 (p0 : GConf) (p1 : GConf) : Option Bool :=
  (loop (fun s => m_ref13_Same_s5 p0 p1 s) 0).bind fun e => Sum.elim (fun e => m_ref13_Same_j4) (fun x => some x) e
noncomputable def m_ref13_Same_s6 (p0 : GConf) (p1 : GConf) (i342 : Int) : Option (Int ⊕ (Unit ⊕ Bool)) :=
  if i342 < (p0.fAnchors.length : Int) then
    (at_ p0.fAnchors i342).bind fun x388 =>
    (at_ p1.fAnchors i342).bind fun x392 =>
    if x388 = x392 then
      some (.inl (w64 (i342 + 1)))
    else
      some (.inr (.inr false))
  else
    some (.inr (.inl ()))
noncomputable def m_ref13_Same_j2 (p0 : GConf) (p1 : GConf) : Option Bool :=
  (loop (fun s => m_ref13_Same_s6 p0 p1 s) 0).bind fun e => Sum.elim (fun e => m_ref13_Same_j3 p0 p1) (fun x => some x) e
noncomputable def m_ref13_Same_s7 (p0 : GConf) (p1 : GConf) (i425 : Int) : Option (Int ⊕ (Unit ⊕ Bool)) :=
  if i425 < (p0.fHints.length : Int) then
    (at_ p0.fHints i425).bind fun x471 =>
    (at_ p1.fHints i425).bind fun x475 =>
    if x471 = x475 then
      some (.inl (w64 (i425 + 1)))
    else
      some (.inr (.inr false))
  else
    some (.inr (.inl ()))
noncomputable def m_ref13_Same_j1 (p0 : GConf) (p1 : GConf) : Option Bool :=
  (loop (fun s => m_ref13_Same_s7 p0 p1 s) 0).bind fun e => Sum.elim (fun e => m_ref13_Same_j2 p0 p1) (fun x => some x) e
noncomputable def m_ref13_Same_s8 (p0 : GConf) (p1 : GConf) (i508 : Int) : Option (Int ⊕ (Unit ⊕ Bool)) :=
  if i508 < (p0.fRing.length : Int) then
    (at_ p0.fRing i508).bind fun x554 =>
    (at_ p1.fRing i508).bind fun x558 =>
    if x554 ≠ x558 then
      some (.inr (.inr false))
    else
      some (.inl (w64 (i508 + 1)))
  else
    some (.inr (.inl ()))
noncomputable def m_ref13_Same (p0 : GConf) (p1 : GConf) : Option Bool :=
  if p0.fEpoch ≠ p1.fEpoch then
    some false
  else
    if (p0.fRing.length : Int) ≠ (p1.fRing.length : Int) then
      some false
    else
      if (p0.fHints.length : Int) ≠ (p1.fHints.length : Int) then
        some false
      else
        if (p0.fAnchors.length : Int) ≠ (p1.fAnchors.length : Int) then
          some false
        else
          if (p0.fFlushes.length : Int) ≠ (p1.fFlushes.length : Int) then
            some false
          else
            (loop (fun s => m_ref13_Same_s8 p0 p1 s) 0).bind fun e => Sum.elim (fun e => m_ref13_Same_j1 p0 p1) (fun x => some x) e
theorem c_ref13_Same {w0 : World} {M : Nat → Prop} {H : List (Nat × Nat × Obj)} {R : List (Nat × Row)} {φ : World → Prop} (p0 : GConf) (Ap0_0 : Option Addr) (cp0_0 : Nat) (hcp0_0 : p0.fRing.length ≤ cp0_0) (fp0_0 : ∀ W, (Sta.mk w0 M H R φ).ok W → Cl W Ap0_0 (p0.fRing.flatMap (fun x : Int => [Value.int .i64 x]))) (Ap0_1 : Option Addr) (cp0_1 : Nat) (hcp0_1 : p0.fHints.length ≤ cp0_1) (fp0_1 : ∀ W, (Sta.mk w0 M H R φ).ok W → Cl W Ap0_1 (p0.fHints.flatMap (fun x : ByteArray => [Value.string x]))) (Ap0_2 : Option Addr) (cp0_2 : Nat) (hcp0_2 : p0.fAnchors.length ≤ cp0_2) (fp0_2 : ∀ W, (Sta.mk w0 M H R φ).ok W → Cl W Ap0_2 (p0.fAnchors.flatMap GAnchor.enc)) (Ap0_3 : Option Addr) (cp0_3 : Nat) (hcp0_3 : p0.fFlushes.length ≤ cp0_3) (fp0_3 : ∀ W, (Sta.mk w0 M H R φ).ok W → Cl W Ap0_3 (p0.fFlushes.flatMap GFlush.enc)) (p1 : GConf) (Ap1_0 : Option Addr) (cp1_0 : Nat) (hcp1_0 : p1.fRing.length ≤ cp1_0) (fp1_0 : ∀ W, (Sta.mk w0 M H R φ).ok W → Cl W Ap1_0 (p1.fRing.flatMap (fun x : Int => [Value.int .i64 x]))) (Ap1_1 : Option Addr) (cp1_1 : Nat) (hcp1_1 : p1.fHints.length ≤ cp1_1) (fp1_1 : ∀ W, (Sta.mk w0 M H R φ).ok W → Cl W Ap1_1 (p1.fHints.flatMap (fun x : ByteArray => [Value.string x]))) (Ap1_2 : Option Addr) (cp1_2 : Nat) (hcp1_2 : p1.fAnchors.length ≤ cp1_2) (fp1_2 : ∀ W, (Sta.mk w0 M H R φ).ok W → Cl W Ap1_2 (p1.fAnchors.flatMap GAnchor.enc)) (Ap1_3 : Option Addr) (cp1_3 : Nat) (hcp1_3 : p1.fFlushes.length ≤ cp1_3) (fp1_3 : ∀ W, (Sta.mk w0 M H R φ).ok W → Cl W Ap1_3 (p1.fFlushes.flatMap GFlush.enc)) (r : Bool) (hm : m_ref13_Same p0 p1 = some r) :
    Cn Try.prog 50 #[.agg #[.slice Ap0_0 p0.fRing.length cp0_0, .slice Ap0_1 p0.fHints.length cp0_1, .slice Ap0_2 p0.fAnchors.length cp0_2, .int .i64 p0.fEpoch, .slice Ap0_3 p0.fFlushes.length cp0_3], .agg #[.slice Ap1_0 p1.fRing.length cp1_0, .slice Ap1_1 p1.fHints.length cp1_1, .slice Ap1_2 p1.fAnchors.length cp1_2, .int .i64 p1.fEpoch, .slice Ap1_3 p1.fFlushes.length cp1_3]] ⟨w0, M, H, R, φ⟩ (fun x : Unit => .bool r) (fun x => True) (fun x => ⟨w0, M, H, R, φ⟩) := by
 unfold m_ref13_Same at hm
 refine cn_intro (fn := Try.f50) (N := 122) Try.func50 rfl Try.ntmps50 rfl <| c_seq <| c_region ?_
 refine g_e rfl (e_box 100020 rfl) (fun g1 _ => ?_)
 refine g_e rfl (e_box 100030 rfl) (fun g2 _ => ?_)
 refine g_v rfl r_assign <| g_nil <| d_then <| c_seq <| c_seq <| c_region <| g_v rfl (r_field (n := 3) Try.underlying29 rfl Try.sizeOf3 rfl rfl) <| g_v rfl (r_load (tag := 100020) rfl rfl rfl Try.isAgg3) <| g_v rfl (r_field (n := 3) Try.underlying29 rfl Try.sizeOf3 rfl rfl) <| g_v rfl (r_load (tag := 100030) rfl rfl rfl Try.isAgg3) ?_
 refine g_v rfl (r_neq rfl rfl) <| g_v rfl r_move ?_
 refine g_if rfl rfl rfl rfl rfl (fun h3 => ?_) (fun h3 => ?_)
 ·
  replace hm := ite_f hm (of_decide_eq_false h3)
  refine g_v rfl (r_field (n := 0) Try.underlying29 rfl Try.sizeOf25 rfl rfl) <| g_do rfl rfl rfl rfl rfl h3 <| g_v rfl (r_load (tag := 100020) rfl rfl rfl Try.isAgg25) <| g_do rfl rfl rfl rfl rfl h3 <| g_v rfl (r_lenL Try.underlying25 rfl) <| g_do rfl rfl rfl rfl rfl h3 <| g_v rfl (r_field (n := 0) Try.underlying29 rfl Try.sizeOf25 rfl rfl) <| g_do rfl rfl rfl rfl rfl h3 <| g_v rfl (r_load (tag := 100030) rfl rfl rfl Try.isAgg25) <| g_do rfl rfl rfl rfl rfl h3 ?_
  refine g_v rfl (r_lenL Try.underlying25 rfl) <| g_do rfl rfl rfl rfl rfl h3 <| g_v rfl (r_neq rfl rfl) <| g_v rfl (r_pick0 rfl h3) <| g_v rfl r_move ?_
  refine g_if rfl rfl rfl rfl rfl (fun h4 => ?_) (fun h4 => ?_)
  ·
   replace hm := ite_f hm (of_decide_eq_false h4)
   refine g_v rfl (r_field (n := 1) Try.underlying29 rfl Try.sizeOf22 rfl rfl) <| g_do rfl rfl rfl rfl rfl h4 <| g_v rfl (r_load (tag := 100020) rfl rfl rfl Try.isAgg22) <| g_do rfl rfl rfl rfl rfl h4 <| g_v rfl (r_lenL Try.underlying22 rfl) <| g_do rfl rfl rfl rfl rfl h4 <| g_v rfl (r_field (n := 1) Try.underlying29 rfl Try.sizeOf22 rfl rfl) <| g_do rfl rfl rfl rfl rfl h4 <| g_v rfl (r_load (tag := 100030) rfl rfl rfl Try.isAgg22) <| g_do rfl rfl rfl rfl rfl h4 ?_
   refine g_v rfl (r_lenL Try.underlying22 rfl) <| g_do rfl rfl rfl rfl rfl h4 <| g_v rfl (r_neq rfl rfl) <| g_v rfl (r_pick0 rfl h4) <| g_v rfl r_move ?_
   refine g_if rfl rfl rfl rfl rfl (fun h5 => ?_) (fun h5 => ?_)
   ·
    replace hm := ite_f hm (of_decide_eq_false h5)
    refine g_v rfl (r_field (n := 2) Try.underlying29 rfl Try.sizeOf26 rfl rfl) <| g_do rfl rfl rfl rfl rfl h5 <| g_v rfl (r_load (tag := 100020) rfl rfl rfl Try.isAgg26) <| g_do rfl rfl rfl rfl rfl h5 <| g_v rfl (r_lenL Try.underlying26 rfl) <| g_do rfl rfl rfl rfl rfl h5 <| g_v rfl (r_field (n := 2) Try.underlying29 rfl Try.sizeOf26 rfl rfl) <| g_do rfl rfl rfl rfl rfl h5 <| g_v rfl (r_load (tag := 100030) rfl rfl rfl Try.isAgg26) <| g_do rfl rfl rfl rfl rfl h5 ?_
    refine g_v rfl (r_lenL Try.underlying26 rfl) <| g_do rfl rfl rfl rfl rfl h5 <| g_v rfl (r_neq rfl rfl) <| g_v rfl (r_pick0 rfl h5) <| g_v rfl r_move ?_
    refine g_if rfl rfl rfl rfl rfl (fun h6 => ?_) (fun h6 => ?_)
    ·
     replace hm := ite_f hm (of_decide_eq_false h6)
     refine g_v rfl (r_field (n := 4) Try.underlying29 rfl Try.sizeOf27 rfl rfl) <| g_do rfl rfl rfl rfl rfl h6 <| g_v rfl (r_load (tag := 100020) rfl rfl rfl Try.isAgg27) <| g_do rfl rfl rfl rfl rfl h6 <| g_v rfl (r_lenL Try.underlying27 rfl) <| g_do rfl rfl rfl rfl rfl h6 <| g_v rfl (r_field (n := 4) Try.underlying29 rfl Try.sizeOf27 rfl rfl) <| g_do rfl rfl rfl rfl rfl h6 <| g_v rfl (r_load (tag := 100030) rfl rfl rfl Try.isAgg27) <| g_do rfl rfl rfl rfl rfl h6 ?_
     refine g_v rfl (r_lenL Try.underlying27 rfl) <| g_do rfl rfl rfl rfl rfl h6 <| g_v rfl (r_neq rfl rfl) <| g_v rfl (r_pick0 rfl h6) <| g_nil <| d_then ?_
     refine c_flat [(2, .pointer (some ⟨g1, 0, none⟩)), (3, .pointer (some ⟨g2, 0, none⟩)), (49, .bool (decide ((p0.fFlushes.length : Int) ≠ (p1.fFlushes.length : Int))))] ⟨rfl, rfl, rfl, trivial⟩ (fun u => ?_)
     refine c_sta ⟨w0, M, (100030, g2, .cells #[.slice Ap1_0 p1.fRing.length cp1_0, .slice Ap1_1 p1.fHints.length cp1_1, .slice Ap1_2 p1.fAnchors.length cp1_2, .int .i64 p1.fEpoch, .slice Ap1_3 p1.fFlushes.length cp1_3] 29 (0, 0)) :: (100020, g1, .cells #[.slice Ap0_0 p0.fRing.length cp0_0, .slice Ap0_1 p0.fHints.length cp0_1, .slice Ap0_2 p0.fAnchors.length cp0_2, .int .i64 p0.fEpoch, .slice Ap0_3 p0.fFlushes.length cp0_3] 29 (0, 0)) :: H, R, φ⟩ (fun _ h => h) ?_
     refine c_cond rfl (fun h7 => ?_) (fun h7 => ?_)
     ·
      replace hm := ite_t hm (of_decide_eq_true h7)
      refine c_seq <| c_region <| g_v rfl r_assign <| g_nil <| d_then <| c_ret <| d_ret_then ?_
      replace hm := Option.some.inj hm
      subst hm
      refine d_retC () Try.results50 ?_ trivial (fun W h => ok_pre (H1 := [_, _]) (R1 := []) h (fun W hφ => hφ)) (.inr rfl)
      refine res_tmp <| res_nil ?_
      exact rfl
     ·
      replace hm := ite_f hm (of_decide_eq_false h7)
      refine c_skip <| d_then <| c_seq <| c_seq <| c_region <| g_v rfl r_assign <| g_nil <| d_then ?_
      refine c_cut (ι := Unit) [2, 3] (fun _ => []) (fun _ => ⟨w0, M, (100030, g2, .cells #[.slice Ap1_0 p1.fRing.length cp1_0, .slice Ap1_1 p1.fHints.length cp1_1, .slice Ap1_2 p1.fAnchors.length cp1_2, .int .i64 p1.fEpoch, .slice Ap1_3 p1.fFlushes.length cp1_3] 29 (0, 0)) :: (100020, g1, .cells #[.slice Ap0_0 p0.fRing.length cp0_0, .slice Ap0_1 p0.fHints.length cp0_1, .slice Ap0_2 p0.fAnchors.length cp0_2, .int .i64 p0.fEpoch, .slice Ap0_3 p0.fFlushes.length cp0_3] 29 (0, 0)) :: H, R, φ⟩) (fun _ => m_ref13_Same_j1 p0 p1 = some r) ?_ (fun _ u hm => ?_)
      ·
       refine c_block ?_
       replace hm := bnd hm
       obtain ⟨out8, hl8, hr8⟩ := hm
       obtain ⟨n536', hl8⟩ := loop_lp hl8
       refine c_loopU (ι := Nat × Int) [2, 3, 5] (fun ⟨n536, i508⟩ => [(5, .int .i64 i508)]) (fun ⟨n536, i508⟩ => ⟨w0, M, (100030, g2, .cells #[.slice Ap1_0 p1.fRing.length cp1_0, .slice Ap1_1 p1.fHints.length cp1_1, .slice Ap1_2 p1.fAnchors.length cp1_2, .int .i64 p1.fEpoch, .slice Ap1_3 p1.fFlushes.length cp1_3] 29 (0, 0)) :: (100020, g1, .cells #[.slice Ap0_0 p0.fRing.length cp0_0, .slice Ap0_1 p0.fHints.length cp0_1, .slice Ap0_2 p0.fAnchors.length cp0_2, .int .i64 p0.fEpoch, .slice Ap0_3 p0.fFlushes.length cp0_3] 29 (0, 0)) :: H, R, φ⟩) (fun ⟨n536, i508⟩ => Lp (fun s => m_ref13_Same_s8 p0 p1 s) n536 i508 out8) (fun ⟨n536, i508⟩ => n536) (n536', 0) hl8 ⟨rfl, rfl, rfl, trivial⟩ (fun W h => h.phi (fun W hφ => hφ)) (fun ⟨n536, i508⟩ u hlp => ?_)
       obtain ⟨o8, hm, hnx8⟩ := lp_step hlp
       clear hlp
       replace hm : m_ref13_Same_s8 p0 p1 i508 = some o8 := hm
       unfold m_ref13_Same_s8 at hm
       refine c_flat [(2, .pointer (some ⟨g1, 0, none⟩)), (3, .pointer (some ⟨g2, 0, none⟩)), (5, .int .i64 i508)] ⟨rfl, rfl, rfl, trivial⟩ (fun u => ?_)
       refine c_seq <| c_seq <| c_region <| g_v rfl r_move <| g_v rfl (r_field (n := 0) Try.underlying29 rfl Try.sizeOf25 rfl rfl) <| g_v rfl (r_load (tag := 100020) rfl rfl rfl Try.isAgg25) <| g_v rfl (r_lenL Try.underlying25 rfl) <| g_v rfl (r_lss rfl rfl) <| g_nil <| d_then ?_
       refine c_cond rfl (fun h537 => ?_) (fun h537 => ?_)
       ·
        replace hm := ite_t hm (of_decide_eq_true h537)
        refine c_skip <| d_then <| c_seq <| c_block <| c_seq <| ga_start (n := 11) ⟨w0, M, (100030, g2, .cells #[.slice Ap1_0 p1.fRing.length cp1_0, .slice Ap1_1 p1.fHints.length cp1_1, .slice Ap1_2 p1.fAnchors.length cp1_2, .int .i64 p1.fEpoch, .slice Ap1_3 p1.fFlushes.length cp1_3] 29 (0, 0)) :: (100020, g1, .cells #[.slice Ap0_0 p0.fRing.length cp0_0, .slice Ap0_1 p0.fHints.length cp0_1, .slice Ap0_2 p0.fAnchors.length cp0_2, .int .i64 p0.fEpoch, .slice Ap0_3 p0.fFlushes.length cp0_3] 29 (0, 0)) :: H, R, φ⟩ [] #[false, false, false, false, false, false, false, false, false, false, false] (fun W h => h.phi (fun W hφ => hφ)) mixed rfl rfl <| ga_v (i := 0) (bz 11 1) rfl (by kernel_rfl) (fun _ _ _ _ h => h) rfl (r_field (n := 0) Try.underlying29 rfl Try.sizeOf25 rfl rfl) <| ga_v (i := 1) (bz 11 3) rfl (by kernel_rfl) (fun _ _ _ _ h => h) rfl (r_load (tag := 100020) rfl rfl rfl Try.isAgg25) <| ga_v (i := 2) (bz 11 7) rfl (by kernel_rfl) (fun _ _ _ _ h => h) rfl (r_move) ?_
        replace hm := bnd hm
        obtain ⟨x554, hx554, hm⟩ := hm
        refine ga_know _ (fun W hS => cl_at (p := (Sta.mk w0 M H R φ).ok) (sz := 1) (fun _ => rfl) (by decide) (ok_pre (H1 := [_, _]) (R1 := []) hS (fun W h => h)) fp0_0 hx554) ?_
        rintro ⟨ad555, hA557, f556⟩
        refine ga_v (i := 3) (bz 11 15) rfl (by kernel_rfl) (fun _ _ _ _ h => h) rfl (r_ix Try.underlying25 Try.sizeOf3 rfl hA557 rfl hx554) <| ga_v (i := 4) (bz 11 31) rfl (by kernel_rfl) (fun _ _ _ _ h => h) rfl (r_ld rfl Try.isAgg3 (fun W hS => Cl.head (f556 W (ok_pre (H1 := [_, _]) (R1 := []) hS (fun W h => h))))) <| ga_v (i := 5) (bz 11 63) rfl (by kernel_rfl) (fun _ _ _ _ h => h) rfl (r_field (n := 0) Try.underlying29 rfl Try.sizeOf25 rfl rfl) <| ga_v (i := 6) (bz 11 127) rfl (by kernel_rfl) (fun _ _ _ _ h => h) rfl (r_load (tag := 100030) rfl rfl rfl Try.isAgg25) <| ga_r (i := 7) (bz 11 255) rfl (by kernel_rfl) (by decide) rfl (r_move) ?_
        replace hm := bnd hm
        obtain ⟨x558, hx558, hm⟩ := hm
        refine ga_know _ (fun W hS => cl_at (p := (Sta.mk w0 M H R φ).ok) (sz := 1) (fun _ => rfl) (by decide) (ok_pre (H1 := [_, _]) (R1 := []) hS (fun W h => h)) fp1_0 hx558) ?_
        rintro ⟨ad559, hA561, f560⟩
        refine ga_r (i := 8) (bz 11 511) rfl (by kernel_rfl) (by decide) rfl (r_ix Try.underlying25 Try.sizeOf3 rfl hA561 rfl hx558) <| ga_r (i := 9) (bz 11 1023) rfl (by kernel_rfl) (by decide) rfl (r_ld rfl Try.isAgg3 (fun W hS => Cl.head (f560 W (ok_pre (H1 := [_, _]) (R1 := []) hS (fun W h => h))))) <| ga_r (i := 10) (bz 11 2047) rfl (by kernel_rfl) (by decide) rfl (r_neq rfl rfl) <| ga_done (by kernel_rfl) <| d_then ?_
        refine c_flat [(2, .pointer (some ⟨g1, 0, none⟩)), (3, .pointer (some ⟨g2, 0, none⟩)), (5, .int .i64 i508), (67, .bool (decide (x554 ≠ x558)))] ⟨rfl, rfl, rfl, rfl, trivial⟩ (fun u => ?_)
        refine c_cond rfl (fun h562 => ?_) (fun h562 => ?_)
        ·
         replace hm := ite_t hm (of_decide_eq_true h562)
         refine c_seq <| c_region <| g_v rfl r_assign <| g_nil <| d_then <| c_ret <| d_ret_block <| d_ret_then <| d_ret_then <| d_ret_block ?_
         refine d_ret_then <| d_ret_then ?_
         replace hm := nx_out (C := (fun e : Unit ⊕ Bool => Sum.elim (fun e => m_ref13_Same_j1 p0 p1) (fun x => some x) e = some r)) hm hnx8 hr8
         replace hm : some false = some r := hm
         replace hm := Option.some.inj hm
         subst hm
         refine d_retC () Try.results50 ?_ trivial (fun W h => ok_pre (H1 := [_, _]) (R1 := []) h (fun W hφ => hφ)) (.inr rfl)
         refine res_tmp <| res_nil ?_
         exact rfl
        ·
         replace hm := ite_f hm (of_decide_eq_false h562)
         refine c_skip <| d_normal_block <| d_then <| c_region <| g_v rfl r_move <| g_v rfl (r_add rfl rfl rfl) <| g_v rfl r_assign <| g_nil ?_
         obtain ⟨n563, hn563, hlp⟩ := nx_inl hm hnx8
         exact d_round (n563, w64 (i508 + 1)) hlp hn563 ⟨rfl, rfl, rfl, trivial⟩ (fun W h => h.phi (fun W hφ => hφ))
       ·
        replace hm := ite_f hm (of_decide_eq_false h537)
        refine c_exit <| d_exit_then <| d_exit_then <| d_exit_block ?_
        replace hm := nx_out (C := (fun e : Unit ⊕ Bool => Sum.elim (fun e => m_ref13_Same_j1 p0 p1) (fun x => some x) e = some r)) hm hnx8 hr8
        exact d_round () hm Nat.zero_lt_one ⟨rfl, rfl, trivial⟩ (fun W h => h.phi (fun W hφ => hφ))
      ·
       unfold m_ref13_Same_j1 at hm
       refine d_flat [(2, .pointer (some ⟨g1, 0, none⟩)), (3, .pointer (some ⟨g2, 0, none⟩))] ⟨rfl, rfl, trivial⟩ (fun u => ?_)
       refine d_then <| c_seq <| c_seq <| c_region <| g_v rfl r_assign <| g_nil <| d_then ?_
       refine c_cut (ι := Unit) [2, 3] (fun _ => []) (fun _ => ⟨w0, M, (100030, g2, .cells #[.slice Ap1_0 p1.fRing.length cp1_0, .slice Ap1_1 p1.fHints.length cp1_1, .slice Ap1_2 p1.fAnchors.length cp1_2, .int .i64 p1.fEpoch, .slice Ap1_3 p1.fFlushes.length cp1_3] 29 (0, 0)) :: (100020, g1, .cells #[.slice Ap0_0 p0.fRing.length cp0_0, .slice Ap0_1 p0.fHints.length cp0_1, .slice Ap0_2 p0.fAnchors.length cp0_2, .int .i64 p0.fEpoch, .slice Ap0_3 p0.fFlushes.length cp0_3] 29 (0, 0)) :: H, R, φ⟩) (fun _ => m_ref13_Same_j2 p0 p1 = some r) ?_ (fun _ u hm => ?_)
       ·
        refine c_block ?_
        replace hm := bnd hm
        obtain ⟨out7, hl7, hr7⟩ := hm
        obtain ⟨n453', hl7⟩ := loop_lp hl7
        refine c_loopU (ι := Nat × Int) [2, 3, 6] (fun ⟨n453, i425⟩ => [(6, .int .i64 i425)]) (fun ⟨n453, i425⟩ => ⟨w0, M, (100030, g2, .cells #[.slice Ap1_0 p1.fRing.length cp1_0, .slice Ap1_1 p1.fHints.length cp1_1, .slice Ap1_2 p1.fAnchors.length cp1_2, .int .i64 p1.fEpoch, .slice Ap1_3 p1.fFlushes.length cp1_3] 29 (0, 0)) :: (100020, g1, .cells #[.slice Ap0_0 p0.fRing.length cp0_0, .slice Ap0_1 p0.fHints.length cp0_1, .slice Ap0_2 p0.fAnchors.length cp0_2, .int .i64 p0.fEpoch, .slice Ap0_3 p0.fFlushes.length cp0_3] 29 (0, 0)) :: H, R, φ⟩) (fun ⟨n453, i425⟩ => Lp (fun s => m_ref13_Same_s7 p0 p1 s) n453 i425 out7) (fun ⟨n453, i425⟩ => n453) (n453', 0) hl7 ⟨rfl, rfl, rfl, trivial⟩ (fun W h => h.phi (fun W hφ => hφ)) (fun ⟨n453, i425⟩ u hlp => ?_)
        obtain ⟨o7, hm, hnx7⟩ := lp_step hlp
        clear hlp
        replace hm : m_ref13_Same_s7 p0 p1 i425 = some o7 := hm
        unfold m_ref13_Same_s7 at hm
        refine c_flat [(2, .pointer (some ⟨g1, 0, none⟩)), (3, .pointer (some ⟨g2, 0, none⟩)), (6, .int .i64 i425)] ⟨rfl, rfl, rfl, trivial⟩ (fun u => ?_)
        refine c_seq <| c_seq <| c_region <| g_v rfl r_move <| g_v rfl (r_field (n := 1) Try.underlying29 rfl Try.sizeOf22 rfl rfl) <| g_v rfl (r_load (tag := 100020) rfl rfl rfl Try.isAgg22) <| g_v rfl (r_lenL Try.underlying22 rfl) <| g_v rfl (r_lss rfl rfl) <| g_nil <| d_then ?_
        refine c_cond rfl (fun h454 => ?_) (fun h454 => ?_)
        ·
         replace hm := ite_t hm (of_decide_eq_true h454)
         refine c_skip <| d_then <| c_seq <| c_block <| c_seq <| ga_start (n := 11) ⟨w0, M, (100030, g2, .cells #[.slice Ap1_0 p1.fRing.length cp1_0, .slice Ap1_1 p1.fHints.length cp1_1, .slice Ap1_2 p1.fAnchors.length cp1_2, .int .i64 p1.fEpoch, .slice Ap1_3 p1.fFlushes.length cp1_3] 29 (0, 0)) :: (100020, g1, .cells #[.slice Ap0_0 p0.fRing.length cp0_0, .slice Ap0_1 p0.fHints.length cp0_1, .slice Ap0_2 p0.fAnchors.length cp0_2, .int .i64 p0.fEpoch, .slice Ap0_3 p0.fFlushes.length cp0_3] 29 (0, 0)) :: H, R, φ⟩ [] #[false, false, false, false, false, false, false, false, false, false, false] (fun W h => h.phi (fun W hφ => hφ)) mixed rfl rfl <| ga_v (i := 0) (bz 11 1) rfl (by kernel_rfl) (fun _ _ _ _ h => h) rfl (r_field (n := 1) Try.underlying29 rfl Try.sizeOf22 rfl rfl) <| ga_v (i := 1) (bz 11 3) rfl (by kernel_rfl) (fun _ _ _ _ h => h) rfl (r_load (tag := 100020) rfl rfl rfl Try.isAgg22) <| ga_v (i := 2) (bz 11 7) rfl (by kernel_rfl) (fun _ _ _ _ h => h) rfl (r_move) ?_
         replace hm := bnd hm
         obtain ⟨x471, hx471, hm⟩ := hm
         refine ga_know _ (fun W hS => cl_at (p := (Sta.mk w0 M H R φ).ok) (sz := 1) (fun _ => rfl) (by decide) (ok_pre (H1 := [_, _]) (R1 := []) hS (fun W h => h)) fp0_1 hx471) ?_
         rintro ⟨ad472, hA474, f473⟩
         refine ga_v (i := 3) (bz 11 15) rfl (by kernel_rfl) (fun _ _ _ _ h => h) rfl (r_ix Try.underlying22 Try.sizeOf9 rfl hA474 rfl hx471) <| ga_v (i := 4) (bz 11 31) rfl (by kernel_rfl) (fun _ _ _ _ h => h) rfl (r_ld rfl Try.isAgg9 (fun W hS => Cl.head (f473 W (ok_pre (H1 := [_, _]) (R1 := []) hS (fun W h => h))))) <| ga_v (i := 5) (bz 11 63) rfl (by kernel_rfl) (fun _ _ _ _ h => h) rfl (r_field (n := 1) Try.underlying29 rfl Try.sizeOf22 rfl rfl) <| ga_v (i := 6) (bz 11 127) rfl (by kernel_rfl) (fun _ _ _ _ h => h) rfl (r_load (tag := 100030) rfl rfl rfl Try.isAgg22) <| ga_r (i := 7) (bz 11 255) rfl (by kernel_rfl) (by decide) rfl (r_move) ?_
         replace hm := bnd hm
         obtain ⟨x475, hx475, hm⟩ := hm
         refine ga_know _ (fun W hS => cl_at (p := (Sta.mk w0 M H R φ).ok) (sz := 1) (fun _ => rfl) (by decide) (ok_pre (H1 := [_, _]) (R1 := []) hS (fun W h => h)) fp1_1 hx475) ?_
         rintro ⟨ad476, hA478, f477⟩
         refine ga_r (i := 8) (bz 11 511) rfl (by kernel_rfl) (by decide) rfl (r_ix Try.underlying22 Try.sizeOf9 rfl hA478 rfl hx475) <| ga_r (i := 9) (bz 11 1023) rfl (by kernel_rfl) (by decide) rfl (r_ld rfl Try.isAgg9 (fun W hS => Cl.head (f477 W (ok_pre (H1 := [_, _]) (R1 := []) hS (fun W h => h))))) <| ga_r (i := 10) (bz 11 2047) rfl (by kernel_rfl) (by decide) rfl (r_neqT rfl rfl) <| ga_done (by kernel_rfl) <| d_then ?_
         refine c_flat [(2, .pointer (some ⟨g1, 0, none⟩)), (3, .pointer (some ⟨g2, 0, none⟩)), (6, .int .i64 i425), (85, .bool (!(decide (x471 = x475))))] ⟨rfl, rfl, rfl, rfl, trivial⟩ (fun u => ?_)
         refine c_cond rfl (fun h479 => ?_) (fun h479 => ?_)
         ·
          have h479' : (decide (x471 = x475)) = false := by revert h479; cases (decide (x471 = x475)) <;> simp
          replace hm := ite_f hm (of_decide_eq_false h479')
          refine c_seq <| c_region <| g_v rfl r_assign <| g_nil <| d_then <| c_ret <| d_ret_block <| d_ret_then <| d_ret_then <| d_ret_block ?_
          refine d_ret_then <| d_ret_then ?_
          replace hm := nx_out (C := (fun e : Unit ⊕ Bool => Sum.elim (fun e => m_ref13_Same_j2 p0 p1) (fun x => some x) e = some r)) hm hnx7 hr7
          replace hm : some false = some r := hm
          replace hm := Option.some.inj hm
          subst hm
          refine d_retC () Try.results50 ?_ trivial (fun W h => ok_pre (H1 := [_, _]) (R1 := []) h (fun W hφ => hφ)) (.inr rfl)
          refine res_tmp <| res_nil ?_
          exact rfl
         ·
          have h479' : (decide (x471 = x475)) = true := by revert h479; cases (decide (x471 = x475)) <;> simp
          replace hm := ite_t hm (of_decide_eq_true h479')
          refine c_skip <| d_normal_block <| d_then <| c_region <| g_v rfl r_move <| g_v rfl (r_add rfl rfl rfl) <| g_v rfl r_assign <| g_nil ?_
          obtain ⟨n480, hn480, hlp⟩ := nx_inl hm hnx7
          exact d_round (n480, w64 (i425 + 1)) hlp hn480 ⟨rfl, rfl, rfl, trivial⟩ (fun W h => h.phi (fun W hφ => hφ))
        ·
         replace hm := ite_f hm (of_decide_eq_false h454)
         refine c_exit <| d_exit_then <| d_exit_then <| d_exit_block ?_
         replace hm := nx_out (C := (fun e : Unit ⊕ Bool => Sum.elim (fun e => m_ref13_Same_j2 p0 p1) (fun x => some x) e = some r)) hm hnx7 hr7
         exact d_round () hm Nat.zero_lt_one ⟨rfl, rfl, trivial⟩ (fun W h => h.phi (fun W hφ => hφ))
       ·
        unfold m_ref13_Same_j2 at hm
        refine d_flat [(2, .pointer (some ⟨g1, 0, none⟩)), (3, .pointer (some ⟨g2, 0, none⟩))] ⟨rfl, rfl, trivial⟩ (fun u => ?_)
        refine d_then <| c_seq <| c_seq <| c_region <| g_v rfl r_assign <| g_nil <| d_then ?_
        refine c_cut (ι := Unit) [2, 3] (fun _ => []) (fun _ => ⟨w0, M, (100030, g2, .cells #[.slice Ap1_0 p1.fRing.length cp1_0, .slice Ap1_1 p1.fHints.length cp1_1, .slice Ap1_2 p1.fAnchors.length cp1_2, .int .i64 p1.fEpoch, .slice Ap1_3 p1.fFlushes.length cp1_3] 29 (0, 0)) :: (100020, g1, .cells #[.slice Ap0_0 p0.fRing.length cp0_0, .slice Ap0_1 p0.fHints.length cp0_1, .slice Ap0_2 p0.fAnchors.length cp0_2, .int .i64 p0.fEpoch, .slice Ap0_3 p0.fFlushes.length cp0_3] 29 (0, 0)) :: H, R, φ⟩) (fun _ => m_ref13_Same_j3 p0 p1 = some r) ?_ (fun _ u hm => ?_)
        ·
         refine c_block ?_
         replace hm := bnd hm
         obtain ⟨out6, hl6, hr6⟩ := hm
         obtain ⟨n370', hl6⟩ := loop_lp hl6
         refine c_loopU (ι := Nat × Int) [2, 3, 7] (fun ⟨n370, i342⟩ => [(7, .int .i64 i342)]) (fun ⟨n370, i342⟩ => ⟨w0, M, (100030, g2, .cells #[.slice Ap1_0 p1.fRing.length cp1_0, .slice Ap1_1 p1.fHints.length cp1_1, .slice Ap1_2 p1.fAnchors.length cp1_2, .int .i64 p1.fEpoch, .slice Ap1_3 p1.fFlushes.length cp1_3] 29 (0, 0)) :: (100020, g1, .cells #[.slice Ap0_0 p0.fRing.length cp0_0, .slice Ap0_1 p0.fHints.length cp0_1, .slice Ap0_2 p0.fAnchors.length cp0_2, .int .i64 p0.fEpoch, .slice Ap0_3 p0.fFlushes.length cp0_3] 29 (0, 0)) :: H, R, φ⟩) (fun ⟨n370, i342⟩ => Lp (fun s => m_ref13_Same_s6 p0 p1 s) n370 i342 out6) (fun ⟨n370, i342⟩ => n370) (n370', 0) hl6 ⟨rfl, rfl, rfl, trivial⟩ (fun W h => h.phi (fun W hφ => hφ)) (fun ⟨n370, i342⟩ u hlp => ?_)
         obtain ⟨o6, hm, hnx6⟩ := lp_step hlp
         clear hlp
         replace hm : m_ref13_Same_s6 p0 p1 i342 = some o6 := hm
         unfold m_ref13_Same_s6 at hm
         refine c_flat [(2, .pointer (some ⟨g1, 0, none⟩)), (3, .pointer (some ⟨g2, 0, none⟩)), (7, .int .i64 i342)] ⟨rfl, rfl, rfl, trivial⟩ (fun u => ?_)
         refine c_seq <| c_seq <| c_region <| g_v rfl r_move <| g_v rfl (r_field (n := 2) Try.underlying29 rfl Try.sizeOf26 rfl rfl) <| g_v rfl (r_load (tag := 100020) rfl rfl rfl Try.isAgg26) <| g_v rfl (r_lenL Try.underlying26 rfl) <| g_v rfl (r_lss rfl rfl) <| g_nil <| d_then ?_
         refine c_cond rfl (fun h371 => ?_) (fun h371 => ?_)
         ·
          replace hm := ite_t hm (of_decide_eq_true h371)
          refine c_skip <| d_then <| c_seq <| c_block <| c_seq <| ga_start (n := 11) ⟨w0, M, (100030, g2, .cells #[.slice Ap1_0 p1.fRing.length cp1_0, .slice Ap1_1 p1.fHints.length cp1_1, .slice Ap1_2 p1.fAnchors.length cp1_2, .int .i64 p1.fEpoch, .slice Ap1_3 p1.fFlushes.length cp1_3] 29 (0, 0)) :: (100020, g1, .cells #[.slice Ap0_0 p0.fRing.length cp0_0, .slice Ap0_1 p0.fHints.length cp0_1, .slice Ap0_2 p0.fAnchors.length cp0_2, .int .i64 p0.fEpoch, .slice Ap0_3 p0.fFlushes.length cp0_3] 29 (0, 0)) :: H, R, φ⟩ [] #[false, false, false, false, false, false, false, false, false, false, false] (fun W h => h.phi (fun W hφ => hφ)) mixed rfl rfl <| ga_v (i := 0) (bz 11 1) rfl (by kernel_rfl) (fun _ _ _ _ h => h) rfl (r_field (n := 2) Try.underlying29 rfl Try.sizeOf26 rfl rfl) <| ga_v (i := 1) (bz 11 3) rfl (by kernel_rfl) (fun _ _ _ _ h => h) rfl (r_load (tag := 100020) rfl rfl rfl Try.isAgg26) <| ga_v (i := 2) (bz 11 7) rfl (by kernel_rfl) (fun _ _ _ _ h => h) rfl (r_move) ?_
          replace hm := bnd hm
          obtain ⟨x388, hx388, hm⟩ := hm
          refine ga_know _ (fun W hS => cl_at (p := (Sta.mk w0 M H R φ).ok) (sz := 2) (fun _ => rfl) (by decide) (ok_pre (H1 := [_, _]) (R1 := []) hS (fun W h => h)) fp0_2 hx388) ?_
          rintro ⟨ad389, hA391, f390⟩
          refine ga_v (i := 3) (bz 11 15) rfl (by kernel_rfl) (fun _ _ _ _ h => h) rfl (r_ix Try.underlying26 Try.sizeOf43 rfl hA391 rfl hx388) <| ga_v (i := 4) (bz 11 31) rfl (by kernel_rfl) (fun _ _ _ _ h => h) rfl (r_ldA rfl Try.isAgg43 Try.sizeOf43 (fun W hS => (f390 W (ok_pre (H1 := [_, _]) (R1 := []) hS (fun W h => h))).take 2) rfl) <| ga_v (i := 5) (bz 11 63) rfl (by kernel_rfl) (fun _ _ _ _ h => h) rfl (r_field (n := 2) Try.underlying29 rfl Try.sizeOf26 rfl rfl) <| ga_v (i := 6) (bz 11 127) rfl (by kernel_rfl) (fun _ _ _ _ h => h) rfl (r_load (tag := 100030) rfl rfl rfl Try.isAgg26) <| ga_r (i := 7) (bz 11 255) rfl (by kernel_rfl) (by decide) rfl (r_move) ?_
          replace hm := bnd hm
          obtain ⟨x392, hx392, hm⟩ := hm
          refine ga_know _ (fun W hS => cl_at (p := (Sta.mk w0 M H R φ).ok) (sz := 2) (fun _ => rfl) (by decide) (ok_pre (H1 := [_, _]) (R1 := []) hS (fun W h => h)) fp1_2 hx392) ?_
          rintro ⟨ad393, hA395, f394⟩
          refine ga_r (i := 8) (bz 11 511) rfl (by kernel_rfl) (by decide) rfl (r_ix Try.underlying26 Try.sizeOf43 rfl hA395 rfl hx392) <| ga_r (i := 9) (bz 11 1023) rfl (by kernel_rfl) (by decide) rfl (r_ldA rfl Try.isAgg43 Try.sizeOf43 (fun W hS => (f394 W (ok_pre (H1 := [_, _]) (R1 := []) hS (fun W h => h))).take 2) rfl) <| ga_r (i := 10) (bz 11 2047) rfl (by kernel_rfl) (by decide) rfl (r_neqA rfl rfl eqg43 (eqq43 x388 x392)) <| ga_done (by kernel_rfl) <| d_then ?_
          refine c_flat [(2, .pointer (some ⟨g1, 0, none⟩)), (3, .pointer (some ⟨g2, 0, none⟩)), (7, .int .i64 i342), (103, .bool (!(decide (x388 = x392))))] ⟨rfl, rfl, rfl, rfl, trivial⟩ (fun u => ?_)
          refine c_cond rfl (fun h396 => ?_) (fun h396 => ?_)
          ·
           have h396' : (decide (x388 = x392)) = false := by revert h396; cases (decide (x388 = x392)) <;> simp
           replace hm := ite_f hm (of_decide_eq_false h396')
           refine c_seq <| c_region <| g_v rfl r_assign <| g_nil <| d_then <| c_ret <| d_ret_block <| d_ret_then <| d_ret_then <| d_ret_block ?_
           refine d_ret_then <| d_ret_then ?_
           replace hm := nx_out (C := (fun e : Unit ⊕ Bool => Sum.elim (fun e => m_ref13_Same_j3 p0 p1) (fun x => some x) e = some r)) hm hnx6 hr6
           replace hm : some false = some r := hm
           replace hm := Option.some.inj hm
           subst hm
           refine d_retC () Try.results50 ?_ trivial (fun W h => ok_pre (H1 := [_, _]) (R1 := []) h (fun W hφ => hφ)) (.inr rfl)
           refine res_tmp <| res_nil ?_
           exact rfl
          ·
           have h396' : (decide (x388 = x392)) = true := by revert h396; cases (decide (x388 = x392)) <;> simp
           replace hm := ite_t hm (of_decide_eq_true h396')
           refine c_skip <| d_normal_block <| d_then <| c_region <| g_v rfl r_move <| g_v rfl (r_add rfl rfl rfl) <| g_v rfl r_assign <| g_nil ?_
           obtain ⟨n397, hn397, hlp⟩ := nx_inl hm hnx6
           exact d_round (n397, w64 (i342 + 1)) hlp hn397 ⟨rfl, rfl, rfl, trivial⟩ (fun W h => h.phi (fun W hφ => hφ))
         ·
          replace hm := ite_f hm (of_decide_eq_false h371)
          refine c_exit <| d_exit_then <| d_exit_then <| d_exit_block ?_
          replace hm := nx_out (C := (fun e : Unit ⊕ Bool => Sum.elim (fun e => m_ref13_Same_j3 p0 p1) (fun x => some x) e = some r)) hm hnx6 hr6
          exact d_round () hm Nat.zero_lt_one ⟨rfl, rfl, trivial⟩ (fun W h => h.phi (fun W hφ => hφ))
        ·
         unfold m_ref13_Same_j3 at hm
         refine d_flat [(2, .pointer (some ⟨g1, 0, none⟩)), (3, .pointer (some ⟨g2, 0, none⟩))] ⟨rfl, rfl, trivial⟩ (fun u => ?_)
         refine d_then <| c_seq <| c_seq <| c_region <| g_v rfl r_assign <| g_nil <| d_then ?_
         refine c_cut (ι := Unit) [] (fun _ => []) (fun _ => ⟨w0, M, H, R, φ⟩) (fun _ => m_ref13_Same_j4 = some r) ?_ (fun _ u hm => ?_)
         ·
          refine c_block ?_
          replace hm := bnd hm
          obtain ⟨out5, hl5, hr5⟩ := hm
          obtain ⟨n287', hl5⟩ := loop_lp hl5
          refine c_loopU (ι := Nat × Int) [2, 3, 8] (fun ⟨n287, i259⟩ => [(8, .int .i64 i259)]) (fun ⟨n287, i259⟩ => ⟨w0, M, (100030, g2, .cells #[.slice Ap1_0 p1.fRing.length cp1_0, .slice Ap1_1 p1.fHints.length cp1_1, .slice Ap1_2 p1.fAnchors.length cp1_2, .int .i64 p1.fEpoch, .slice Ap1_3 p1.fFlushes.length cp1_3] 29 (0, 0)) :: (100020, g1, .cells #[.slice Ap0_0 p0.fRing.length cp0_0, .slice Ap0_1 p0.fHints.length cp0_1, .slice Ap0_2 p0.fAnchors.length cp0_2, .int .i64 p0.fEpoch, .slice Ap0_3 p0.fFlushes.length cp0_3] 29 (0, 0)) :: H, R, φ⟩) (fun ⟨n287, i259⟩ => Lp (fun s => m_ref13_Same_s5 p0 p1 s) n287 i259 out5) (fun ⟨n287, i259⟩ => n287) (n287', 0) hl5 ⟨rfl, rfl, rfl, trivial⟩ (fun W h => h.phi (fun W hφ => hφ)) (fun ⟨n287, i259⟩ u hlp => ?_)
          obtain ⟨o5, hm, hnx5⟩ := lp_step hlp
          clear hlp
          replace hm : m_ref13_Same_s5 p0 p1 i259 = some o5 := hm
          unfold m_ref13_Same_s5 at hm
          refine c_flat [(2, .pointer (some ⟨g1, 0, none⟩)), (3, .pointer (some ⟨g2, 0, none⟩)), (8, .int .i64 i259)] ⟨rfl, rfl, rfl, trivial⟩ (fun u => ?_)
          refine c_seq <| c_seq <| c_region <| g_v rfl r_move <| g_v rfl (r_field (n := 4) Try.underlying29 rfl Try.sizeOf27 rfl rfl) <| g_v rfl (r_load (tag := 100020) rfl rfl rfl Try.isAgg27) <| g_v rfl (r_lenL Try.underlying27 rfl) <| g_v rfl (r_lss rfl rfl) <| g_nil <| d_then ?_
          refine c_cond rfl (fun h288 => ?_) (fun h288 => ?_)
          ·
           replace hm := ite_t hm (of_decide_eq_true h288)
           refine c_skip <| d_then <| c_seq <| c_block <| c_seq <| ga_start (n := 11) ⟨w0, M, (100030, g2, .cells #[.slice Ap1_0 p1.fRing.length cp1_0, .slice Ap1_1 p1.fHints.length cp1_1, .slice Ap1_2 p1.fAnchors.length cp1_2, .int .i64 p1.fEpoch, .slice Ap1_3 p1.fFlushes.length cp1_3] 29 (0, 0)) :: (100020, g1, .cells #[.slice Ap0_0 p0.fRing.length cp0_0, .slice Ap0_1 p0.fHints.length cp0_1, .slice Ap0_2 p0.fAnchors.length cp0_2, .int .i64 p0.fEpoch, .slice Ap0_3 p0.fFlushes.length cp0_3] 29 (0, 0)) :: H, R, φ⟩ [] #[false, false, false, false, false, false, false, false, false, false, false] (fun W h => h.phi (fun W hφ => hφ)) mixed rfl rfl <| ga_v (i := 0) (bz 11 1) rfl (by kernel_rfl) (fun _ _ _ _ h => h) rfl (r_field (n := 4) Try.underlying29 rfl Try.sizeOf27 rfl rfl) <| ga_v (i := 1) (bz 11 3) rfl (by kernel_rfl) (fun _ _ _ _ h => h) rfl (r_load (tag := 100020) rfl rfl rfl Try.isAgg27) <| ga_v (i := 2) (bz 11 7) rfl (by kernel_rfl) (fun _ _ _ _ h => h) rfl (r_move) ?_
           replace hm := bnd hm
           obtain ⟨x305, hx305, hm⟩ := hm
           refine ga_know _ (fun W hS => cl_at (p := (Sta.mk w0 M H R φ).ok) (sz := 2) (fun _ => rfl) (by decide) (ok_pre (H1 := [_, _]) (R1 := []) hS (fun W h => h)) fp0_3 hx305) ?_
           rintro ⟨ad306, hA308, f307⟩
           refine ga_v (i := 3) (bz 11 15) rfl (by kernel_rfl) (fun _ _ _ _ h => h) rfl (r_ix Try.underlying27 Try.sizeOf54 rfl hA308 rfl hx305) <| ga_v (i := 4) (bz 11 31) rfl (by kernel_rfl) (fun _ _ _ _ h => h) rfl (r_ldA rfl Try.isAgg54 Try.sizeOf54 (fun W hS => (f307 W (ok_pre (H1 := [_, _]) (R1 := []) hS (fun W h => h))).take 2) rfl) <| ga_v (i := 5) (bz 11 63) rfl (by kernel_rfl) (fun _ _ _ _ h => h) rfl (r_field (n := 4) Try.underlying29 rfl Try.sizeOf27 rfl rfl) <| ga_v (i := 6) (bz 11 127) rfl (by kernel_rfl) (fun _ _ _ _ h => h) rfl (r_load (tag := 100030) rfl rfl rfl Try.isAgg27) <| ga_r (i := 7) (bz 11 255) rfl (by kernel_rfl) (by decide) rfl (r_move) ?_
           replace hm := bnd hm
           obtain ⟨x309, hx309, hm⟩ := hm
           refine ga_know _ (fun W hS => cl_at (p := (Sta.mk w0 M H R φ).ok) (sz := 2) (fun _ => rfl) (by decide) (ok_pre (H1 := [_, _]) (R1 := []) hS (fun W h => h)) fp1_3 hx309) ?_
           rintro ⟨ad310, hA312, f311⟩
           refine ga_r (i := 8) (bz 11 511) rfl (by kernel_rfl) (by decide) rfl (r_ix Try.underlying27 Try.sizeOf54 rfl hA312 rfl hx309) <| ga_r (i := 9) (bz 11 1023) rfl (by kernel_rfl) (by decide) rfl (r_ldA rfl Try.isAgg54 Try.sizeOf54 (fun W hS => (f311 W (ok_pre (H1 := [_, _]) (R1 := []) hS (fun W h => h))).take 2) rfl) <| ga_r (i := 10) (bz 11 2047) rfl (by kernel_rfl) (by decide) rfl (r_neqA rfl rfl eqg54 (eqq54 x305 x309)) <| ga_done (by kernel_rfl) <| d_then ?_
           refine c_flat [(2, .pointer (some ⟨g1, 0, none⟩)), (3, .pointer (some ⟨g2, 0, none⟩)), (8, .int .i64 i259), (121, .bool (!(decide (x305 = x309))))] ⟨rfl, rfl, rfl, rfl, trivial⟩ (fun u => ?_)
           refine c_cond rfl (fun h313 => ?_) (fun h313 => ?_)
           ·
            have h313' : (decide (x305 = x309)) = false := by revert h313; cases (decide (x305 = x309)) <;> simp
            replace hm := ite_f hm (of_decide_eq_false h313')
            refine c_seq <| c_region <| g_v rfl r_assign <| g_nil <| d_then <| c_ret <| d_ret_block <| d_ret_then <| d_ret_then <| d_ret_block ?_
            refine d_ret_then <| d_ret_then ?_
            replace hm := nx_out (C := (fun e : Unit ⊕ Bool => Sum.elim (fun e => m_ref13_Same_j4) (fun x => some x) e = some r)) hm hnx5 hr5
            replace hm : some false = some r := hm
            replace hm := Option.some.inj hm
            subst hm
            refine d_retC () Try.results50 ?_ trivial (fun W h => ok_pre (H1 := [_, _]) (R1 := []) h (fun W hφ => hφ)) (.inr rfl)
            refine res_tmp <| res_nil ?_
            exact rfl
           ·
            have h313' : (decide (x305 = x309)) = true := by revert h313; cases (decide (x305 = x309)) <;> simp
            replace hm := ite_t hm (of_decide_eq_true h313')
            refine c_skip <| d_normal_block <| d_then <| c_region <| g_v rfl r_move <| g_v rfl (r_add rfl rfl rfl) <| g_v rfl r_assign <| g_nil ?_
            obtain ⟨n314, hn314, hlp⟩ := nx_inl hm hnx5
            exact d_round (n314, w64 (i259 + 1)) hlp hn314 ⟨rfl, rfl, rfl, trivial⟩ (fun W h => h.phi (fun W hφ => hφ))
          ·
           replace hm := ite_f hm (of_decide_eq_false h288)
           refine c_exit <| d_exit_then <| d_exit_then <| d_exit_block ?_
           replace hm := nx_out (C := (fun e : Unit ⊕ Bool => Sum.elim (fun e => m_ref13_Same_j4) (fun x => some x) e = some r)) hm hnx5 hr5
           exact d_round () hm Nat.zero_lt_one trivial (fun W h => ((h.dropH (t := 100030) rfl).dropH (t := 100020) rfl).phi (fun W hφ => hφ))
         ·
          unfold m_ref13_Same_j4 at hm
          refine d_flat [] trivial (fun u => ?_)
          refine d_sta ⟨w0, M, H, R, φ⟩ (fun _ h => h) <| d_then <| c_seq <| c_region <| g_v rfl r_assign <| g_nil <| d_then <| c_ret ?_
          replace hm := Option.some.inj hm
          subst hm
          refine d_retC () Try.results50 ?_ trivial (fun W h => ok_pre (H1 := []) (R1 := []) h (fun W hφ => hφ)) (.inr rfl)
          refine res_tmp <| res_nil ?_
          exact rfl
    ·
     replace hm := ite_t hm (of_decide_eq_true h6)
     refine g_no rfl rfl rfl rfl rfl h6 <| g_no rfl rfl rfl rfl rfl h6 <| g_no rfl rfl rfl rfl rfl h6 <| g_no rfl rfl rfl rfl rfl h6 <| g_no rfl rfl rfl rfl rfl h6 <| g_no rfl rfl rfl rfl rfl h6 <| g_v rfl (r_pick1 rfl h6) <| g_nil <| d_then ?_
     refine c_flat [(2, .pointer (some ⟨g1, 0, none⟩)), (3, .pointer (some ⟨g2, 0, none⟩)), (49, .bool true)] ⟨rfl, rfl, rfl, trivial⟩ (fun u => ?_)
     refine c_sta ⟨w0, M, (100030, g2, .cells #[.slice Ap1_0 p1.fRing.length cp1_0, .slice Ap1_1 p1.fHints.length cp1_1, .slice Ap1_2 p1.fAnchors.length cp1_2, .int .i64 p1.fEpoch, .slice Ap1_3 p1.fFlushes.length cp1_3] 29 (0, 0)) :: (100020, g1, .cells #[.slice Ap0_0 p0.fRing.length cp0_0, .slice Ap0_1 p0.fHints.length cp0_1, .slice Ap0_2 p0.fAnchors.length cp0_2, .int .i64 p0.fEpoch, .slice Ap0_3 p0.fFlushes.length cp0_3] 29 (0, 0)) :: H, R, φ⟩ (fun _ h => h) <| c_cond1 rfl rfl <| c_seq <| c_region <| g_v rfl r_assign <| g_nil <| d_then <| c_ret <| d_ret_then ?_
     replace hm := Option.some.inj hm
     subst hm
     refine d_retC () Try.results50 ?_ trivial (fun W h => ok_pre (H1 := [_, _]) (R1 := []) h (fun W hφ => hφ)) (.inr rfl)
     refine res_tmp <| res_nil ?_
     exact rfl
   ·
    replace hm := ite_t hm (of_decide_eq_true h5)
    refine g_no rfl rfl rfl rfl rfl h5 <| g_no rfl rfl rfl rfl rfl h5 <| g_no rfl rfl rfl rfl rfl h5 <| g_no rfl rfl rfl rfl rfl h5 <| g_no rfl rfl rfl rfl rfl h5 <| g_no rfl rfl rfl rfl rfl h5 <| g_v rfl (r_pick1 rfl h5) <| g_v rfl r_move <| g_no rfl rfl rfl rfl rfl rfl <| g_no rfl rfl rfl rfl rfl rfl ?_
    refine g_no rfl rfl rfl rfl rfl rfl <| g_no rfl rfl rfl rfl rfl rfl <| g_no rfl rfl rfl rfl rfl rfl <| g_no rfl rfl rfl rfl rfl rfl <| g_no rfl rfl rfl rfl rfl rfl <| g_v rfl (r_pick1 rfl rfl) <| g_nil <| d_then ?_
    refine c_flat [(2, .pointer (some ⟨g1, 0, none⟩)), (3, .pointer (some ⟨g2, 0, none⟩)), (49, .bool true)] ⟨rfl, rfl, rfl, trivial⟩ (fun u => ?_)
    refine c_sta ⟨w0, M, (100030, g2, .cells #[.slice Ap1_0 p1.fRing.length cp1_0, .slice Ap1_1 p1.fHints.length cp1_1, .slice Ap1_2 p1.fAnchors.length cp1_2, .int .i64 p1.fEpoch, .slice Ap1_3 p1.fFlushes.length cp1_3] 29 (0, 0)) :: (100020, g1, .cells #[.slice Ap0_0 p0.fRing.length cp0_0, .slice Ap0_1 p0.fHints.length cp0_1, .slice Ap0_2 p0.fAnchors.length cp0_2, .int .i64 p0.fEpoch, .slice Ap0_3 p0.fFlushes.length cp0_3] 29 (0, 0)) :: H, R, φ⟩ (fun _ h => h) <| c_cond1 rfl rfl <| c_seq <| c_region <| g_v rfl r_assign <| g_nil <| d_then <| c_ret <| d_ret_then ?_
    replace hm := Option.some.inj hm
    subst hm
    refine d_retC () Try.results50 ?_ trivial (fun W h => ok_pre (H1 := [_, _]) (R1 := []) h (fun W hφ => hφ)) (.inr rfl)
    refine res_tmp <| res_nil ?_
    exact rfl
  ·
   replace hm := ite_t hm (of_decide_eq_true h4)
   refine g_no rfl rfl rfl rfl rfl h4 <| g_no rfl rfl rfl rfl rfl h4 <| g_no rfl rfl rfl rfl rfl h4 <| g_no rfl rfl rfl rfl rfl h4 <| g_no rfl rfl rfl rfl rfl h4 <| g_no rfl rfl rfl rfl rfl h4 <| g_v rfl (r_pick1 rfl h4) <| g_v rfl r_move <| g_no rfl rfl rfl rfl rfl rfl <| g_no rfl rfl rfl rfl rfl rfl ?_
   refine g_no rfl rfl rfl rfl rfl rfl <| g_no rfl rfl rfl rfl rfl rfl <| g_no rfl rfl rfl rfl rfl rfl <| g_no rfl rfl rfl rfl rfl rfl <| g_no rfl rfl rfl rfl rfl rfl <| g_v rfl (r_pick1 rfl rfl) <| g_v rfl r_move <| g_no rfl rfl rfl rfl rfl rfl <| g_no rfl rfl rfl rfl rfl rfl <| g_no rfl rfl rfl rfl rfl rfl ?_
   refine g_no rfl rfl rfl rfl rfl rfl <| g_no rfl rfl rfl rfl rfl rfl <| g_no rfl rfl rfl rfl rfl rfl <| g_no rfl rfl rfl rfl rfl rfl <| g_v rfl (r_pick1 rfl rfl) <| g_nil <| d_then ?_
   refine c_flat [(2, .pointer (some ⟨g1, 0, none⟩)), (3, .pointer (some ⟨g2, 0, none⟩)), (49, .bool true)] ⟨rfl, rfl, rfl, trivial⟩ (fun u => ?_)
   refine c_sta ⟨w0, M, (100030, g2, .cells #[.slice Ap1_0 p1.fRing.length cp1_0, .slice Ap1_1 p1.fHints.length cp1_1, .slice Ap1_2 p1.fAnchors.length cp1_2, .int .i64 p1.fEpoch, .slice Ap1_3 p1.fFlushes.length cp1_3] 29 (0, 0)) :: (100020, g1, .cells #[.slice Ap0_0 p0.fRing.length cp0_0, .slice Ap0_1 p0.fHints.length cp0_1, .slice Ap0_2 p0.fAnchors.length cp0_2, .int .i64 p0.fEpoch, .slice Ap0_3 p0.fFlushes.length cp0_3] 29 (0, 0)) :: H, R, φ⟩ (fun _ h => h) <| c_cond1 rfl rfl <| c_seq <| c_region <| g_v rfl r_assign <| g_nil <| d_then <| c_ret <| d_ret_then ?_
   replace hm := Option.some.inj hm
   subst hm
   refine d_retC () Try.results50 ?_ trivial (fun W h => ok_pre (H1 := [_, _]) (R1 := []) h (fun W hφ => hφ)) (.inr rfl)
   refine res_tmp <| res_nil ?_
   exact rfl
 ·
  replace hm := ite_t hm (of_decide_eq_true h3)
  refine g_no rfl rfl rfl rfl rfl h3 <| g_no rfl rfl rfl rfl rfl h3 <| g_no rfl rfl rfl rfl rfl h3 <| g_no rfl rfl rfl rfl rfl h3 <| g_no rfl rfl rfl rfl rfl h3 <| g_no rfl rfl rfl rfl rfl h3 <| g_v rfl (r_pick1 rfl h3) <| g_v rfl r_move <| g_no rfl rfl rfl rfl rfl rfl <| g_no rfl rfl rfl rfl rfl rfl ?_
  refine g_no rfl rfl rfl rfl rfl rfl <| g_no rfl rfl rfl rfl rfl rfl <| g_no rfl rfl rfl rfl rfl rfl <| g_no rfl rfl rfl rfl rfl rfl <| g_no rfl rfl rfl rfl rfl rfl <| g_v rfl (r_pick1 rfl rfl) <| g_v rfl r_move <| g_no rfl rfl rfl rfl rfl rfl <| g_no rfl rfl rfl rfl rfl rfl <| g_no rfl rfl rfl rfl rfl rfl ?_
  refine g_no rfl rfl rfl rfl rfl rfl <| g_no rfl rfl rfl rfl rfl rfl <| g_no rfl rfl rfl rfl rfl rfl <| g_no rfl rfl rfl rfl rfl rfl <| g_v rfl (r_pick1 rfl rfl) <| g_v rfl r_move <| g_no rfl rfl rfl rfl rfl rfl <| g_no rfl rfl rfl rfl rfl rfl <| g_no rfl rfl rfl rfl rfl rfl <| g_no rfl rfl rfl rfl rfl rfl ?_
  refine g_no rfl rfl rfl rfl rfl rfl <| g_no rfl rfl rfl rfl rfl rfl <| g_no rfl rfl rfl rfl rfl rfl <| g_v rfl (r_pick1 rfl rfl) <| g_nil <| d_then ?_
  refine c_flat [(2, .pointer (some ⟨g1, 0, none⟩)), (3, .pointer (some ⟨g2, 0, none⟩)), (49, .bool true)] ⟨rfl, rfl, rfl, trivial⟩ (fun u => ?_)
  refine c_sta ⟨w0, M, (100030, g2, .cells #[.slice Ap1_0 p1.fRing.length cp1_0, .slice Ap1_1 p1.fHints.length cp1_1, .slice Ap1_2 p1.fAnchors.length cp1_2, .int .i64 p1.fEpoch, .slice Ap1_3 p1.fFlushes.length cp1_3] 29 (0, 0)) :: (100020, g1, .cells #[.slice Ap0_0 p0.fRing.length cp0_0, .slice Ap0_1 p0.fHints.length cp0_1, .slice Ap0_2 p0.fAnchors.length cp0_2, .int .i64 p0.fEpoch, .slice Ap0_3 p0.fFlushes.length cp0_3] 29 (0, 0)) :: H, R, φ⟩ (fun _ h => h) <| c_cond1 rfl rfl <| c_seq <| c_region <| g_v rfl r_assign <| g_nil <| d_then <| c_ret <| d_ret_then ?_
  replace hm := Option.some.inj hm
  subst hm
  refine d_retC () Try.results50 ?_ trivial (fun W h => ok_pre (H1 := [_, _]) (R1 := []) h (fun W hφ => hφ)) (.inr rfl)
  refine res_tmp <| res_nil ?_
  exact rfl
noncomputable def m_law13_sameOrder (p0 : GOrder) (p1 : GOrder) : Option Bool :=
  (m_ref13_Same (⟨([] : List Int), p0.fHints, ([] : List GAnchor), 0, ([] : List GFlush)⟩ : GConf) (⟨([] : List Int), p1.fHints, ([] : List GAnchor), 0, ([] : List GFlush)⟩ : GConf)).bind fun x3 =>
  if x3 = true then
    if p0.fKind = p1.fKind then
      if p0.fNode = p1.fNode then
        if p0.fName = p1.fName then
          if p0.fText = p1.fText then
            some (decide (p0.fZone = p1.fZone))
          else
            some false
        else
          some false
      else
        some false
    else
      some false
  else
    some false
theorem c_law13_sameOrder {w0 : World} {M : Nat → Prop} {H : List (Nat × Nat × Obj)} {R : List (Nat × Row)} {φ : World → Prop} (p0 : GOrder) (Ap0_0 : Option Addr) (cp0_0 : Nat) (hcp0_0 : p0.fHints.length ≤ cp0_0) (fp0_0 : ∀ W, (Sta.mk w0 M H R φ).ok W → Cl W Ap0_0 (p0.fHints.flatMap (fun x : ByteArray => [Value.string x]))) (p1 : GOrder) (Ap1_0 : Option Addr) (cp1_0 : Nat) (hcp1_0 : p1.fHints.length ≤ cp1_0) (fp1_0 : ∀ W, (Sta.mk w0 M H R φ).ok W → Cl W Ap1_0 (p1.fHints.flatMap (fun x : ByteArray => [Value.string x]))) (r : Bool) (hm : m_law13_sameOrder p0 p1 = some r) :
    Cn Try.prog 19 #[.agg #[.int .i64 p0.fKind, .int .i64 p0.fNode, .string p0.fName, .string p0.fText, .string p0.fZone, .slice Ap0_0 p0.fHints.length cp0_0], .agg #[.int .i64 p1.fKind, .int .i64 p1.fNode, .string p1.fName, .string p1.fText, .string p1.fZone, .slice Ap1_0 p1.fHints.length cp1_0]] ⟨w0, M, H, R, φ⟩ (fun x : Unit => .bool r) (fun x => True) (fun x => ⟨w0, M, H, R, φ⟩) := by
 unfold m_law13_sameOrder at hm
 refine cn_intro (fn := Try.f19) (N := 49) Try.func19 rfl Try.ntmps19 rfl <| c_seq <| c_region ?_
 refine g_e rfl (e_box 100020 rfl) (fun g1 _ => ?_)
 refine g_e rfl (e_box 100030 rfl) (fun g2 _ => ?_)
 refine g_v rfl r_assign <| g_nil <| d_then <| c_seq <| c_region <| g_v rfl (r_field (n := 5) Try.underlying35 rfl Try.sizeOf22 rfl rfl) <| g_v rfl (r_load (tag := 100020) rfl rfl rfl Try.isAgg22) <| g_v rfl (r_build _ rfl (bld29_23 _ _ _)) <| g_v rfl (r_field (n := 5) Try.underlying35 rfl Try.sizeOf22 rfl rfl) <| g_v rfl (r_load (tag := 100030) rfl rfl rfl Try.isAgg22) ?_
 refine g_v rfl (r_build _ rfl (bld29_23 _ _ _)) ?_
 replace hm := bnd hm
 obtain ⟨x3, hx4, hm⟩ := hm
 refine g_cn ⟨w0, M, _, _, φ⟩ (fun _ h => h) Try.call50 rfl rfl (c_ref13_Same (⟨([] : List Int), p0.fHints, ([] : List GAnchor), 0, ([] : List GFlush)⟩ : GConf) none 0 (Nat.le_refl 0) (fun W _ => Cl.nil _ _) Ap0_0 cp0_0 hcp0_0 (fun W hS => fp0_0 W (ok_pre (H1 := [_, _]) (R1 := []) hS (fun W h => h))) none 0 (Nat.le_refl 0) (fun W _ => Cl.nil _ _) none 0 (Nat.le_refl 0) (fun W _ => Cl.nil _ _) (⟨([] : List Int), p1.fHints, ([] : List GAnchor), 0, ([] : List GFlush)⟩ : GConf) none 0 (Nat.le_refl 0) (fun W _ => Cl.nil _ _) Ap1_0 cp1_0 hcp1_0 (fun W hS => fp1_0 W (ok_pre (H1 := [_, _]) (R1 := []) hS (fun W h => h))) none 0 (Nat.le_refl 0) (fun W _ => Cl.nil _ _) none 0 (Nat.le_refl 0) (fun W _ => Cl.nil _ _) _ hx4) (fun _ _ => ?_)
 refine g_v rfl r_assign <| g_nil <| d_then ?_
 refine c_flat [(2, .pointer (some ⟨g1, 0, none⟩)), (3, .pointer (some ⟨g2, 0, none⟩)), (5, .bool x3)] ⟨rfl, rfl, rfl, trivial⟩ (fun u => ?_)
 refine c_sta ⟨w0, M, (100030, g2, .cells #[.int .i64 p1.fKind, .int .i64 p1.fNode, .string p1.fName, .string p1.fText, .string p1.fZone, .slice Ap1_0 p1.fHints.length cp1_0] 35 (0, 0)) :: (100020, g1, .cells #[.int .i64 p0.fKind, .int .i64 p0.fNode, .string p0.fName, .string p0.fText, .string p0.fZone, .slice Ap0_0 p0.fHints.length cp0_0] 35 (0, 0)) :: H, R, φ⟩ (fun _ h => h) <| c_seq <| c_region <| g_v rfl r_move <| g_v rfl r_move ?_
 refine g_if rfl rfl rfl rfl rfl (fun h5 => ?_) (fun h5 => ?_)
 ·
  replace hm := ite_t hm h5
  refine g_v rfl (r_field (n := 0) Try.underlying35 rfl Try.sizeOf3 rfl rfl) <| g_do rfl rfl rfl rfl rfl h5 <| g_v rfl (r_load (tag := 100020) rfl rfl rfl Try.isAgg3) <| g_do rfl rfl rfl rfl rfl h5 <| g_v rfl (r_field (n := 0) Try.underlying35 rfl Try.sizeOf3 rfl rfl) <| g_do rfl rfl rfl rfl rfl h5 <| g_v rfl (r_load (tag := 100030) rfl rfl rfl Try.isAgg3) <| g_do rfl rfl rfl rfl rfl h5 <| g_v rfl (r_eql rfl rfl) <| g_v rfl (r_pick1 rfl h5) ?_
  refine g_v rfl r_move ?_
  refine g_if rfl rfl rfl rfl rfl (fun h6 => ?_) (fun h6 => ?_)
  ·
   replace hm := ite_t hm (of_decide_eq_true h6)
   refine g_v rfl (r_field (n := 1) Try.underlying35 rfl Try.sizeOf3 rfl rfl) <| g_do rfl rfl rfl rfl rfl h6 <| g_v rfl (r_load (tag := 100020) rfl rfl rfl Try.isAgg3) <| g_do rfl rfl rfl rfl rfl h6 <| g_v rfl (r_field (n := 1) Try.underlying35 rfl Try.sizeOf3 rfl rfl) <| g_do rfl rfl rfl rfl rfl h6 <| g_v rfl (r_load (tag := 100030) rfl rfl rfl Try.isAgg3) <| g_do rfl rfl rfl rfl rfl h6 <| g_v rfl (r_eql rfl rfl) <| g_v rfl (r_pick1 rfl h6) ?_
   refine g_v rfl r_move ?_
   refine g_if rfl rfl rfl rfl rfl (fun h7 => ?_) (fun h7 => ?_)
   ·
    replace hm := ite_t hm (of_decide_eq_true h7)
    refine g_v rfl (r_field (n := 2) Try.underlying35 rfl Try.sizeOf9 rfl rfl) <| g_do rfl rfl rfl rfl rfl h7 <| g_v rfl (r_load (tag := 100020) rfl rfl rfl Try.isAgg9) <| g_do rfl rfl rfl rfl rfl h7 <| g_v rfl (r_field (n := 2) Try.underlying35 rfl Try.sizeOf9 rfl rfl) <| g_do rfl rfl rfl rfl rfl h7 <| g_v rfl (r_load (tag := 100030) rfl rfl rfl Try.isAgg9) <| g_do rfl rfl rfl rfl rfl h7 <| g_v rfl (r_eqlT rfl rfl) <| g_v rfl (r_pick1 rfl h7) ?_
    refine g_v rfl r_move ?_
    refine g_if rfl rfl rfl rfl rfl (fun h8 => ?_) (fun h8 => ?_)
    ·
     replace hm := ite_t hm (of_decide_eq_true h8)
     refine g_v rfl (r_field (n := 3) Try.underlying35 rfl Try.sizeOf9 rfl rfl) <| g_do rfl rfl rfl rfl rfl h8 <| g_v rfl (r_load (tag := 100020) rfl rfl rfl Try.isAgg9) <| g_do rfl rfl rfl rfl rfl h8 <| g_v rfl (r_field (n := 3) Try.underlying35 rfl Try.sizeOf9 rfl rfl) <| g_do rfl rfl rfl rfl rfl h8 <| g_v rfl (r_load (tag := 100030) rfl rfl rfl Try.isAgg9) <| g_do rfl rfl rfl rfl rfl h8 <| g_v rfl (r_eqlT rfl rfl) <| g_v rfl (r_pick1 rfl h8) ?_
     refine g_v rfl r_move ?_
     refine g_if rfl rfl rfl rfl rfl (fun h9 => ?_) (fun h9 => ?_)
     ·
      replace hm := ite_t hm (of_decide_eq_true h9)
      refine g_v rfl (r_field (n := 4) Try.underlying35 rfl Try.sizeOf9 rfl rfl) <| g_do rfl rfl rfl rfl rfl h9 <| g_v rfl (r_load (tag := 100020) rfl rfl rfl Try.isAgg9) <| g_do rfl rfl rfl rfl rfl h9 <| g_v rfl (r_field (n := 4) Try.underlying35 rfl Try.sizeOf9 rfl rfl) <| g_do rfl rfl rfl rfl rfl h9 <| g_v rfl (r_load (tag := 100030) rfl rfl rfl Try.isAgg9) <| g_do rfl rfl rfl rfl rfl h9 <| g_v rfl (r_eqlT rfl rfl) <| g_v rfl (r_pick1 rfl h9) ?_
      refine g_v rfl r_assign <| g_nil <| d_then ?_
      refine c_flat [(4, .bool (decide (p0.fZone = p1.fZone)))] ⟨rfl, trivial⟩ (fun u => ?_)
      refine c_ret ?_
      replace hm := Option.some.inj hm
      subst hm
      refine d_retC () Try.results19 ?_ trivial (fun W h => ok_pre (H1 := [_, _]) (R1 := []) h (fun W hφ => hφ)) (.inr rfl)
      refine res_tmp <| res_nil ?_
      exact rfl
     ·
      replace hm := ite_f hm (of_decide_eq_false h9)
      refine g_no rfl rfl rfl rfl rfl h9 <| g_no rfl rfl rfl rfl rfl h9 <| g_no rfl rfl rfl rfl rfl h9 <| g_no rfl rfl rfl rfl rfl h9 <| g_v rfl (r_pick0 rfl h9) <| g_v rfl r_assign <| g_nil <| d_then ?_
      refine c_flat [(4, .bool false)] ⟨rfl, trivial⟩ (fun u => ?_)
      refine c_ret ?_
      replace hm := Option.some.inj hm
      subst hm
      refine d_retC () Try.results19 ?_ trivial (fun W h => ok_pre (H1 := [_, _]) (R1 := []) h (fun W hφ => hφ)) (.inr rfl)
      refine res_tmp <| res_nil ?_
      exact rfl
    ·
     replace hm := ite_f hm (of_decide_eq_false h8)
     refine g_no rfl rfl rfl rfl rfl h8 <| g_no rfl rfl rfl rfl rfl h8 <| g_no rfl rfl rfl rfl rfl h8 <| g_no rfl rfl rfl rfl rfl h8 <| g_v rfl (r_pick0 rfl h8) <| g_v rfl r_move <| g_no rfl rfl rfl rfl rfl rfl <| g_no rfl rfl rfl rfl rfl rfl <| g_no rfl rfl rfl rfl rfl rfl <| g_no rfl rfl rfl rfl rfl rfl ?_
     refine g_no rfl rfl rfl rfl rfl rfl <| g_v rfl (r_pick0 rfl rfl) <| g_v rfl r_assign <| g_nil <| d_then ?_
     refine c_flat [(4, .bool false)] ⟨rfl, trivial⟩ (fun u => ?_)
     refine c_ret ?_
     replace hm := Option.some.inj hm
     subst hm
     refine d_retC () Try.results19 ?_ trivial (fun W h => ok_pre (H1 := [_, _]) (R1 := []) h (fun W hφ => hφ)) (.inr rfl)
     refine res_tmp <| res_nil ?_
     exact rfl
   ·
    replace hm := ite_f hm (of_decide_eq_false h7)
    refine g_no rfl rfl rfl rfl rfl h7 <| g_no rfl rfl rfl rfl rfl h7 <| g_no rfl rfl rfl rfl rfl h7 <| g_no rfl rfl rfl rfl rfl h7 <| g_v rfl (r_pick0 rfl h7) <| g_v rfl r_move <| g_no rfl rfl rfl rfl rfl rfl <| g_no rfl rfl rfl rfl rfl rfl <| g_no rfl rfl rfl rfl rfl rfl <| g_no rfl rfl rfl rfl rfl rfl ?_
    refine g_no rfl rfl rfl rfl rfl rfl <| g_v rfl (r_pick0 rfl rfl) <| g_v rfl r_move <| g_no rfl rfl rfl rfl rfl rfl <| g_no rfl rfl rfl rfl rfl rfl <| g_no rfl rfl rfl rfl rfl rfl <| g_no rfl rfl rfl rfl rfl rfl <| g_no rfl rfl rfl rfl rfl rfl <| g_v rfl (r_pick0 rfl rfl) <| g_v rfl r_assign ?_
    refine g_nil <| d_then ?_
    refine c_flat [(4, .bool false)] ⟨rfl, trivial⟩ (fun u => ?_)
    refine c_ret ?_
    replace hm := Option.some.inj hm
    subst hm
    refine d_retC () Try.results19 ?_ trivial (fun W h => ok_pre (H1 := [_, _]) (R1 := []) h (fun W hφ => hφ)) (.inr rfl)
    refine res_tmp <| res_nil ?_
    exact rfl
  ·
   replace hm := ite_f hm (of_decide_eq_false h6)
   refine g_no rfl rfl rfl rfl rfl h6 <| g_no rfl rfl rfl rfl rfl h6 <| g_no rfl rfl rfl rfl rfl h6 <| g_no rfl rfl rfl rfl rfl h6 <| g_v rfl (r_pick0 rfl h6) <| g_v rfl r_move <| g_no rfl rfl rfl rfl rfl rfl <| g_no rfl rfl rfl rfl rfl rfl <| g_no rfl rfl rfl rfl rfl rfl <| g_no rfl rfl rfl rfl rfl rfl ?_
   refine g_no rfl rfl rfl rfl rfl rfl <| g_v rfl (r_pick0 rfl rfl) <| g_v rfl r_move <| g_no rfl rfl rfl rfl rfl rfl <| g_no rfl rfl rfl rfl rfl rfl <| g_no rfl rfl rfl rfl rfl rfl <| g_no rfl rfl rfl rfl rfl rfl <| g_no rfl rfl rfl rfl rfl rfl <| g_v rfl (r_pick0 rfl rfl) <| g_v rfl r_move ?_
   refine g_no rfl rfl rfl rfl rfl rfl <| g_no rfl rfl rfl rfl rfl rfl <| g_no rfl rfl rfl rfl rfl rfl <| g_no rfl rfl rfl rfl rfl rfl <| g_no rfl rfl rfl rfl rfl rfl <| g_v rfl (r_pick0 rfl rfl) <| g_v rfl r_assign <| g_nil <| d_then ?_
   refine c_flat [(4, .bool false)] ⟨rfl, trivial⟩ (fun u => ?_)
   refine c_ret ?_
   replace hm := Option.some.inj hm
   subst hm
   refine d_retC () Try.results19 ?_ trivial (fun W h => ok_pre (H1 := [_, _]) (R1 := []) h (fun W hφ => hφ)) (.inr rfl)
   refine res_tmp <| res_nil ?_
   exact rfl
 ·
  replace hm := ite_f hm (bool_nt h5)
  refine g_no rfl rfl rfl rfl rfl h5 <| g_no rfl rfl rfl rfl rfl h5 <| g_no rfl rfl rfl rfl rfl h5 <| g_no rfl rfl rfl rfl rfl h5 <| g_v rfl (r_pick0 rfl h5) <| g_v rfl r_move <| g_no rfl rfl rfl rfl rfl rfl <| g_no rfl rfl rfl rfl rfl rfl <| g_no rfl rfl rfl rfl rfl rfl <| g_no rfl rfl rfl rfl rfl rfl ?_
  refine g_no rfl rfl rfl rfl rfl rfl <| g_v rfl (r_pick0 rfl rfl) <| g_v rfl r_move <| g_no rfl rfl rfl rfl rfl rfl <| g_no rfl rfl rfl rfl rfl rfl <| g_no rfl rfl rfl rfl rfl rfl <| g_no rfl rfl rfl rfl rfl rfl <| g_no rfl rfl rfl rfl rfl rfl <| g_v rfl (r_pick0 rfl rfl) <| g_v rfl r_move ?_
  refine g_no rfl rfl rfl rfl rfl rfl <| g_no rfl rfl rfl rfl rfl rfl <| g_no rfl rfl rfl rfl rfl rfl <| g_no rfl rfl rfl rfl rfl rfl <| g_no rfl rfl rfl rfl rfl rfl <| g_v rfl (r_pick0 rfl rfl) <| g_v rfl r_move <| g_no rfl rfl rfl rfl rfl rfl <| g_no rfl rfl rfl rfl rfl rfl <| g_no rfl rfl rfl rfl rfl rfl ?_
  refine g_no rfl rfl rfl rfl rfl rfl <| g_no rfl rfl rfl rfl rfl rfl <| g_v rfl (r_pick0 rfl rfl) <| g_v rfl r_assign <| g_nil <| d_then ?_
  refine c_flat [(4, .bool false)] ⟨rfl, trivial⟩ (fun u => ?_)
  refine c_ret ?_
  replace hm := Option.some.inj hm
  subst hm
  refine d_retC () Try.results19 ?_ trivial (fun W h => ok_pre (H1 := [_, _]) (R1 := []) h (fun W hφ => hφ)) (.inr rfl)
  refine res_tmp <| res_nil ?_
  exact rfl
noncomputable def m_law13_ConfOrders (p0 : GOrder) (p1 : ByteArray) : Option Bool :=
  (m_law13_awake).bind fun x2 =>
  (m_law13_small p0).bind fun x4 =>
  (m_law13_short p1 600).bind fun x10 =>
  (m_conf_Bytes_3 x4.fKind x4.fNode x4.fName x4.fText x4.fZone x4.fHints).bind fun (z15 : ByteArray × Int) =>
  (m_ref13_Bytes x4).bind fun (z19 : ByteArray × Int) =>
  (m_conf_Read x10).bind fun (z27 : GOrder × Int) =>
  (m_ref13_Read x10).bind fun (z36 : GOrder × Int) =>
  (m_law13_sameOrder z27.1 z36.1).bind fun x38 =>
  (m_conf_Check_3 x4.fKind x4.fNode x4.fName x4.fText x4.fZone x4.fHints).bind fun x56 =>
  (m_ref13_Check x4).bind fun x58 =>
  if x56 ≠ x58 then
    some false
  else
    if z15.1 = z19.1 then
      if z15.2 ≠ z19.2 then
        some false
      else
        if x38 = true then
          if z27.2 ≠ z36.2 then
            some false
          else
            if z15.2 ≠ 0 then
              some x2
            else
              (m_conf_Read z15.1).bind fun (z73 : GOrder × Int) =>
              (m_law13_sameOrder z73.1 x4).bind fun x75 =>
              if x2 = true then
                if z73.2 = 0 then
                  some x75
                else
                  some false
              else
                some false
        else
          some false
    else
      some false
theorem c_law13_ConfOrders {w0 : World} {M : Nat → Prop} {H : List (Nat × Nat × Obj)} {R : List (Nat × Row)} {φ : World → Prop} (p0 : GOrder) (Ap0_0 : Option Addr) (cp0_0 : Nat) (hcp0_0 : p0.fHints.length ≤ cp0_0) (fp0_0 : ∀ W, (Sta.mk w0 M H R φ).ok W → Cl W Ap0_0 (p0.fHints.flatMap (fun x : ByteArray => [Value.string x]))) (p1 : ByteArray) (r : Bool) (hm : m_law13_ConfOrders p0 p1 = some r) :
    Cn Try.prog 6 #[.agg #[.int .i64 p0.fKind, .int .i64 p0.fNode, .string p0.fName, .string p0.fText, .string p0.fZone, .slice Ap0_0 p0.fHints.length cp0_0], .string p1] ⟨w0, M, H, R, φ⟩ (fun x : Unit => .bool r) (fun x => True) (fun x => ⟨w0, M, H, R, φ⟩) := by
 unfold m_law13_ConfOrders at hm
 refine cn_intro (fn := Try.f6) (N := 89) Try.func6 rfl Try.ntmps6 rfl <| c_seq <| c_region ?_
 refine g_e rfl (e_box 100020 rfl) (fun g1 _ => ?_)
 refine g_v rfl r_assign <| g_nil <| d_then <| c_seq <| c_region ?_
 replace hm := bnd hm
 obtain ⟨x2, hx3, hm⟩ := hm
 refine g_cn ⟨w0, M, _, _, φ⟩ (fun _ h => h) Try.call7 rfl rfl (c_law13_awake  _ hx3) (fun _ _ => ?_)
 refine g_v rfl r_assign <| g_nil <| d_then <| c_seq <| c_region <| g_v rfl (r_loadA (tag := 100020) rfl rfl Try.isAgg35 Try.sizeOf35 rfl rfl) ?_
 replace hm := bnd hm
 obtain ⟨x4, hx5, hm⟩ := hm
 refine g_cn ⟨w0, M, _, _, φ⟩ (fun _ h => h) Try.call14 rfl rfl (c_law13_small p0 Ap0_0 cp0_0 hcp0_0 (fun W hS => fp0_0 W (ok_pre (H1 := [_]) (R1 := []) hS (fun W h => h))) _ hx5) (fun ⟨A6, c7⟩ hc7 => ?_)
 refine g_abs (fun φ9 q9' => ?_)
 have q9 : ∀ W, φ9 W → φ W := fun W h => (q9' W h).1
 have f8 := fun (W : World) (h : φ9 W) => (q9' W h).2
 refine g_storeL (tag := 100020) rfl rfl rfl rfl Try.sizeOf35 rfl rfl <| g_nil <| d_then <| c_seq <| c_region <| g_v rfl r_move ?_
 replace hm := bnd hm
 obtain ⟨x10, hx11, hm⟩ := hm
 refine g_cn ⟨w0, M, _, _, φ9⟩ (fun _ h => h) Try.call8 rfl rfl (c_law13_short p1 600 _ hx11) (fun _ _ => ?_)
 refine g_v rfl r_assign <| g_nil <| d_then ?_
 refine c_flat [(1, .string x10), (2, .pointer (some ⟨g1, 0, none⟩)), (5, .bool x2)] ⟨rfl, rfl, rfl, trivial⟩ (fun u => ?_)
 refine c_sta ⟨w0, M, (100020, g1, .cells #[.int .i64 x4.fKind, .int .i64 x4.fNode, .string x4.fName, .string x4.fText, .string x4.fZone, .slice A6 x4.fHints.length c7] 35 (0, 0)) :: H, R, φ9⟩ (fun _ h => h) <| c_seq <| c_region <| g_v rfl (r_loadA (tag := 100020) rfl rfl Try.isAgg35 Try.sizeOf35 rfl rfl) ?_
 replace hm := bnd hm
 obtain ⟨⟨x12, x13⟩, hx14, hm⟩ := hm
 refine g_cn ⟨w0, M, _, _, φ9⟩ (fun _ h => h) Try.call15 rfl rfl (c_conf_Bytes_3 x4.fKind x4.fNode x4.fName x4.fText x4.fZone x4.fHints A6 c7 hc7 (fun W hS => f8 W hS.now) _ hx14) (fun _ _ => ?_)
 refine g_v rfl r_move <| g_v rfl (r_extract rfl rfl) <| g_v rfl (r_extract rfl rfl) <| g_v rfl r_assign <| g_v rfl r_assign <| g_nil <| d_then <| c_seq <| c_region <| g_v rfl (r_loadA (tag := 100020) rfl rfl Try.isAgg35 Try.sizeOf35 rfl rfl) ?_
 replace hm := bnd hm
 obtain ⟨⟨x16, x17⟩, hx18, hm⟩ := hm
 refine g_cn ⟨w0, M, _, _, φ9⟩ (fun _ h => h) Try.call16 rfl rfl (c_ref13_Bytes x4 A6 c7 hc7 (fun W hS => f8 W hS.now) _ hx18) (fun _ _ => ?_)
 refine g_v rfl r_move <| g_v rfl (r_extract rfl rfl) <| g_v rfl (r_extract rfl rfl) <| g_v rfl r_assign <| g_v rfl r_assign <| g_nil <| d_then ?_
 refine c_flat [(1, .string x10), (2, .pointer (some ⟨g1, 0, none⟩)), (5, .bool x2), (6, .string x12), (7, .int .i64 x13), (8, .string x16), (9, .int .i64 x17)] ⟨rfl, rfl, rfl, rfl, rfl, rfl, rfl, trivial⟩ (fun u => ?_)
 refine c_seq <| c_region <| g_v rfl r_move ?_
 replace hm := bnd hm
 obtain ⟨⟨x20, x21⟩, hx22, hm⟩ := hm
 refine g_cn ⟨w0, M, _, _, φ9⟩ (fun _ h => h) Try.call17 rfl rfl (c_conf_Read x10 _ hx22) (fun ⟨A23, c24⟩ hc24 => ?_)
 refine g_abs (fun φ26 q26' => ?_)
 have q26 : ∀ W, φ26 W → φ9 W := fun W h => (q26' W h).1
 have f25 := fun (W : World) (h : φ26 W) => (q26' W h).2
 refine g_v rfl r_move <| g_v rfl (r_extract rfl rfl) <| g_v rfl (r_extract rfl rfl) ?_
 refine g_e rfl (e_alloc 100100 Try.zeroValue35) (fun g28 _ => ?_)
 refine g_storeL (tag := 100100) rfl rfl rfl rfl Try.sizeOf35 rfl rfl <| g_v rfl r_assign <| g_nil <| d_then <| c_seq <| c_region <| g_v rfl r_move ?_
 replace hm := bnd hm
 obtain ⟨⟨x29, x30⟩, hx31, hm⟩ := hm
 refine g_cn ⟨w0, M, _, _, φ26⟩ (fun _ h => h) Try.call18 rfl rfl (c_ref13_Read x10 _ hx31) (fun ⟨A32, c33⟩ hc33 => ?_)
 refine g_abs (fun φ35 q35' => ?_)
 have q35 : ∀ W, φ35 W → φ26 W := fun W h => (q35' W h).1
 have f34 := fun (W : World) (h : φ35 W) => (q35' W h).2
 refine g_v rfl r_move <| g_v rfl (r_extract rfl rfl) <| g_v rfl (r_extract rfl rfl) ?_
 refine g_e rfl (e_alloc 100120 Try.zeroValue35) (fun g37 _ => ?_)
 refine g_storeL (tag := 100120) rfl rfl rfl rfl Try.sizeOf35 rfl rfl <| g_v rfl r_assign <| g_nil <| d_then ?_
 refine c_flat [(2, .pointer (some ⟨g1, 0, none⟩)), (5, .bool x2), (6, .string x12), (7, .int .i64 x13), (8, .string x16), (9, .int .i64 x17), (10, .pointer (some ⟨g28, 0, none⟩)), (11, .int .i64 x21), (12, .pointer (some ⟨g37, 0, none⟩)), (13, .int .i64 x30)] ⟨rfl, rfl, rfl, rfl, rfl, rfl, rfl, rfl, rfl, rfl, trivial⟩ (fun u => ?_)
 refine c_sta ⟨w0, M, (100120, g37, .cells #[.int .i64 x29.fKind, .int .i64 x29.fNode, .string x29.fName, .string x29.fText, .string x29.fZone, .slice A32 x29.fHints.length c33] 35 (0, 0)) :: (100100, g28, .cells #[.int .i64 x20.fKind, .int .i64 x20.fNode, .string x20.fName, .string x20.fText, .string x20.fZone, .slice A23 x20.fHints.length c24] 35 (0, 0)) :: (100020, g1, .cells #[.int .i64 x4.fKind, .int .i64 x4.fNode, .string x4.fName, .string x4.fText, .string x4.fZone, .slice A6 x4.fHints.length c7] 35 (0, 0)) :: H, R, φ35⟩ (fun _ h => h) <| c_seq <| c_region <| g_v rfl (r_loadA (tag := 100100) rfl rfl Try.isAgg35 Try.sizeOf35 rfl rfl) <| g_v rfl (r_loadA (tag := 100120) rfl rfl Try.isAgg35 Try.sizeOf35 rfl rfl) ?_
 replace hm := bnd hm
 obtain ⟨x38, hx39, hm⟩ := hm
 refine g_cn ⟨w0, M, _, _, φ35⟩ (fun _ h => h) Try.call19 rfl rfl (c_law13_sameOrder x20 A23 c24 hc24 (fun W hS => f25 W (q35 _ hS.now)) x29 A32 c33 hc33 (fun W hS => f34 W hS.now) _ hx39) (fun _ _ => ?_)
 refine g_v rfl r_assign <| g_nil <| d_then <| c_seq <| c_seq <| ga_start (n := 24) ⟨w0, M, (100120, g37, .cells #[.int .i64 x29.fKind, .int .i64 x29.fNode, .string x29.fName, .string x29.fText, .string x29.fZone, .slice A32 x29.fHints.length c33] 35 (0, 0)) :: (100100, g28, .cells #[.int .i64 x20.fKind, .int .i64 x20.fNode, .string x20.fName, .string x20.fText, .string x20.fZone, .slice A23 x20.fHints.length c24] 35 (0, 0)) :: (100020, g1, .cells #[.int .i64 x4.fKind, .int .i64 x4.fNode, .string x4.fName, .string x4.fText, .string x4.fZone, .slice A6 x4.fHints.length c7] 35 (0, 0)) :: H, R, φ35⟩ [] #[false, false, false, false, false, false, false, false, false, false, false, false, false, false, false, false, false, false, false, false, false, false, false, false] (fun W h => h.phi (fun W hφ => hφ)) mixed rfl rfl <| ga_v (i := 0) (bz 24 1) rfl (by kernel_rfl) (fun _ _ _ _ h => h) rfl (r_loadA (tag := 100020) rfl rfl Try.isAgg35 Try.sizeOf35 rfl rfl) <| ga_v (i := 2) (bz 24 5) rfl (by kernel_rfl) (fun _ _ _ _ h => h) rfl (r_loadA (tag := 100020) rfl rfl Try.isAgg35 Try.sizeOf35 rfl rfl) ?_
 replace hm := bnd hm
 obtain ⟨x56, hx57, hm⟩ := hm
 refine ga_cn (first := #[]) (i := 1) (bz 24 7) rfl (by kernel_rfl) (by decide)  ⟨w0, M, _, _, φ35⟩ (fun _ h => h) Try.call20 rfl rfl rfl (c_conf_Check_3 x4.fKind x4.fNode x4.fName x4.fText x4.fZone x4.fHints A6 c7 hc7 (fun W hS => f8 W (q26 _ (q35 _ hS.now))) _ hx57) (fun _ W _ h => h.phi (fun W hφ => hφ)) (fun _ _ => ?_)
 replace hm := bnd hm
 obtain ⟨x58, hx59, hm⟩ := hm
 refine ga_cn (first := #[]) (i := 3) (bz 24 15) rfl (by kernel_rfl) (by decide)  ⟨w0, M, _, _, φ35⟩ (fun _ h => h) Try.call21 rfl rfl rfl (c_ref13_Check x4 A6 c7 hc7 (fun W hS => f8 W (q26 _ (q35 _ hS.now))) _ hx59) (fun _ W _ h => h.phi (fun W hφ => hφ)) (fun _ _ => ?_)
 refine ga_r (i := 4) (bz 24 31) rfl (by kernel_rfl) (by decide) rfl (r_neq rfl rfl) <| ga_r (i := 5) (bz 24 63) rfl (by kernel_rfl) (by decide) rfl (r_move) ?_
 refine ga_if (t := 51) rfl (fun h60 => ?_) (fun h60 => ?_)
 ·
  replace hm := ite_t hm (of_decide_eq_true h60)
  refine ga_no (i := 6) (bz 24 127) rfl (by kernel_rfl) (fun _ _ _ _ h => h) rfl rfl rfl rfl rfl h60 <| ga_no (i := 7) (bz 24 255) rfl (by kernel_rfl) (fun _ _ _ _ h => h) rfl rfl rfl rfl rfl h60 <| ga_no (i := 8) (bz 24 511) rfl (by kernel_rfl) (fun _ _ _ _ h => h) rfl rfl rfl rfl rfl h60 <| ga_r (i := 9) (bz 24 1023) rfl (by kernel_rfl) (by decide) rfl (r_pick1 rfl h60) <| ga_r (i := 10) (bz 24 2047) rfl (by kernel_rfl) (by decide) rfl (r_move) <| ga_no (i := 11) (bz 24 4095) rfl (by kernel_rfl) (fun _ _ _ _ h => h) rfl rfl rfl rfl rfl rfl <| ga_no (i := 12) (bz 24 8191) rfl (by kernel_rfl) (fun _ _ _ _ h => h) rfl rfl rfl rfl rfl rfl <| ga_no (i := 13) (bz 24 16383) rfl (by kernel_rfl) (fun _ _ _ _ h => h) rfl rfl rfl rfl rfl rfl <| ga_r (i := 14) (bz 24 32767) rfl (by kernel_rfl) (by decide) rfl (r_pick1 rfl rfl) <| ga_r (i := 15) (bz 24 65535) rfl (by kernel_rfl) (by decide) rfl (r_move) ?_
  refine ga_no (i := 16) (bz 24 131071) rfl (by kernel_rfl) (fun _ _ _ _ h => h) rfl rfl rfl rfl rfl rfl <| ga_no (i := 17) (bz 24 262143) rfl (by kernel_rfl) (fun _ _ _ _ h => h) rfl rfl rfl rfl rfl rfl <| ga_r (i := 18) (bz 24 524287) rfl (by kernel_rfl) (by decide) rfl (r_pick1 rfl rfl) <| ga_r (i := 19) (bz 24 1048575) rfl (by kernel_rfl) (by decide) rfl (r_move) <| ga_no (i := 20) (bz 24 2097151) rfl (by kernel_rfl) (fun _ _ _ _ h => h) rfl rfl rfl rfl rfl rfl <| ga_no (i := 21) (bz 24 4194303) rfl (by kernel_rfl) (fun _ _ _ _ h => h) rfl rfl rfl rfl rfl rfl <| ga_no (i := 22) (bz 24 8388607) rfl (by kernel_rfl) (fun _ _ _ _ h => h) rfl rfl rfl rfl rfl rfl <| ga_r (i := 23) (bz 24 16777215) rfl (by kernel_rfl) (by decide) rfl (r_pick1 rfl rfl) <| ga_done (by kernel_rfl) <| d_then ?_
  refine c_flat [(2, .pointer (some ⟨g1, 0, none⟩)), (5, .bool x2), (6, .string x12), (7, .int .i64 x13), (69, .bool true)] ⟨rfl, rfl, rfl, rfl, rfl, trivial⟩ (fun u => ?_)
  refine c_cond1 rfl rfl <| c_seq <| c_region <| g_v rfl r_assign <| g_nil <| d_then <| c_ret <| d_ret_then ?_
  replace hm := Option.some.inj hm
  subst hm
  refine d_retC () Try.results6 ?_ trivial (fun W h => ok_pre (H1 := [_, _, _]) (R1 := []) h (fun W hφ => (q9 _ (q26 _ (q35 _ hφ))))) (.inr rfl)
  refine res_tmp <| res_nil ?_
  exact rfl
 ·
  replace hm := ite_f hm (of_decide_eq_false h60)
  refine ga_do (i := 6) (bz 24 127) rfl (by kernel_rfl) (fun _ _ _ _ h => h) rfl rfl rfl rfl rfl h60 (r_move) <| ga_rG (i := 7) (bz 24 255) rfl (by kernel_rfl) (by decide) rfl rfl rfl rfl rfl h60 (r_move) <| ga_rG (i := 8) (bz 24 511) rfl (by kernel_rfl) (by decide) rfl rfl rfl rfl rfl h60 (r_neqT rfl rfl) <| ga_r (i := 9) (bz 24 1023) rfl (by kernel_rfl) (by decide) rfl (r_pick0 rfl h60) <| ga_r (i := 10) (bz 24 2047) rfl (by kernel_rfl) (by decide) rfl (r_move) ?_
  refine ga_if (t := 56) rfl (fun h61 => ?_) (fun h61 => ?_)
  ·
   have h61' : (decide (x12 = x16)) = false := by revert h61; cases (decide (x12 = x16)) <;> simp
   replace hm := ite_f hm (of_decide_eq_false h61')
   refine ga_no (i := 11) (bz 24 4095) rfl (by kernel_rfl) (fun _ _ _ _ h => h) rfl rfl rfl rfl rfl h61 <| ga_no (i := 12) (bz 24 8191) rfl (by kernel_rfl) (fun _ _ _ _ h => h) rfl rfl rfl rfl rfl h61 <| ga_no (i := 13) (bz 24 16383) rfl (by kernel_rfl) (fun _ _ _ _ h => h) rfl rfl rfl rfl rfl h61 <| ga_r (i := 14) (bz 24 32767) rfl (by kernel_rfl) (by decide) rfl (r_pick1 rfl h61) <| ga_r (i := 15) (bz 24 65535) rfl (by kernel_rfl) (by decide) rfl (r_move) <| ga_no (i := 16) (bz 24 131071) rfl (by kernel_rfl) (fun _ _ _ _ h => h) rfl rfl rfl rfl rfl rfl <| ga_no (i := 17) (bz 24 262143) rfl (by kernel_rfl) (fun _ _ _ _ h => h) rfl rfl rfl rfl rfl rfl <| ga_r (i := 18) (bz 24 524287) rfl (by kernel_rfl) (by decide) rfl (r_pick1 rfl rfl) <| ga_r (i := 19) (bz 24 1048575) rfl (by kernel_rfl) (by decide) rfl (r_move) <| ga_no (i := 20) (bz 24 2097151) rfl (by kernel_rfl) (fun _ _ _ _ h => h) rfl rfl rfl rfl rfl rfl ?_
   refine ga_no (i := 21) (bz 24 4194303) rfl (by kernel_rfl) (fun _ _ _ _ h => h) rfl rfl rfl rfl rfl rfl <| ga_no (i := 22) (bz 24 8388607) rfl (by kernel_rfl) (fun _ _ _ _ h => h) rfl rfl rfl rfl rfl rfl <| ga_r (i := 23) (bz 24 16777215) rfl (by kernel_rfl) (by decide) rfl (r_pick1 rfl rfl) <| ga_done (by kernel_rfl) <| d_then ?_
   refine c_flat [(2, .pointer (some ⟨g1, 0, none⟩)), (5, .bool x2), (6, .string x12), (7, .int .i64 x13), (69, .bool true)] ⟨rfl, rfl, rfl, rfl, rfl, trivial⟩ (fun u => ?_)
   refine c_cond1 rfl rfl <| c_seq <| c_region <| g_v rfl r_assign <| g_nil <| d_then <| c_ret <| d_ret_then ?_
   replace hm := Option.some.inj hm
   subst hm
   refine d_retC () Try.results6 ?_ trivial (fun W h => ok_pre (H1 := [_, _, _]) (R1 := []) h (fun W hφ => (q9 _ (q26 _ (q35 _ hφ))))) (.inr rfl)
   refine res_tmp <| res_nil ?_
   exact rfl
  ·
   have h61' : (decide (x12 = x16)) = true := by revert h61; cases (decide (x12 = x16)) <;> simp
   replace hm := ite_t hm (of_decide_eq_true h61')
   refine ga_do (i := 11) (bz 24 4095) rfl (by kernel_rfl) (fun _ _ _ _ h => h) rfl rfl rfl rfl rfl h61 (r_move) <| ga_rG (i := 12) (bz 24 8191) rfl (by kernel_rfl) (by decide) rfl rfl rfl rfl rfl h61 (r_move) <| ga_rG (i := 13) (bz 24 16383) rfl (by kernel_rfl) (by decide) rfl rfl rfl rfl rfl h61 (r_neq rfl rfl) <| ga_r (i := 14) (bz 24 32767) rfl (by kernel_rfl) (by decide) rfl (r_pick0 rfl h61) <| ga_r (i := 15) (bz 24 65535) rfl (by kernel_rfl) (by decide) rfl (r_move) ?_
   refine ga_if (t := 61) rfl (fun h62 => ?_) (fun h62 => ?_)
   ·
    replace hm := ite_t hm (of_decide_eq_true h62)
    refine ga_no (i := 16) (bz 24 131071) rfl (by kernel_rfl) (fun _ _ _ _ h => h) rfl rfl rfl rfl rfl h62 <| ga_no (i := 17) (bz 24 262143) rfl (by kernel_rfl) (fun _ _ _ _ h => h) rfl rfl rfl rfl rfl h62 <| ga_r (i := 18) (bz 24 524287) rfl (by kernel_rfl) (by decide) rfl (r_pick1 rfl h62) <| ga_r (i := 19) (bz 24 1048575) rfl (by kernel_rfl) (by decide) rfl (r_move) <| ga_no (i := 20) (bz 24 2097151) rfl (by kernel_rfl) (fun _ _ _ _ h => h) rfl rfl rfl rfl rfl rfl <| ga_no (i := 21) (bz 24 4194303) rfl (by kernel_rfl) (fun _ _ _ _ h => h) rfl rfl rfl rfl rfl rfl <| ga_no (i := 22) (bz 24 8388607) rfl (by kernel_rfl) (fun _ _ _ _ h => h) rfl rfl rfl rfl rfl rfl <| ga_r (i := 23) (bz 24 16777215) rfl (by kernel_rfl) (by decide) rfl (r_pick1 rfl rfl) <| ga_done (by kernel_rfl) <| d_then ?_
    refine c_flat [(2, .pointer (some ⟨g1, 0, none⟩)), (5, .bool x2), (6, .string x12), (7, .int .i64 x13), (69, .bool true)] ⟨rfl, rfl, rfl, rfl, rfl, trivial⟩ (fun u => ?_)
    refine c_cond1 rfl rfl <| c_seq <| c_region <| g_v rfl r_assign <| g_nil <| d_then <| c_ret <| d_ret_then ?_
    replace hm := Option.some.inj hm
    subst hm
    refine d_retC () Try.results6 ?_ trivial (fun W h => ok_pre (H1 := [_, _, _]) (R1 := []) h (fun W hφ => (q9 _ (q26 _ (q35 _ hφ))))) (.inr rfl)
    refine res_tmp <| res_nil ?_
    exact rfl
   ·
    replace hm := ite_f hm (of_decide_eq_false h62)
    refine ga_rG (i := 16) (bz 24 131071) rfl (by kernel_rfl) (by decide) rfl rfl rfl rfl rfl h62 (r_move) <| ga_rG (i := 17) (bz 24 262143) rfl (by kernel_rfl) (by decide) rfl rfl rfl rfl rfl h62 (r_not rfl) <| ga_r (i := 18) (bz 24 524287) rfl (by kernel_rfl) (by decide) rfl (r_pick0 rfl h62) <| ga_r (i := 19) (bz 24 1048575) rfl (by kernel_rfl) (by decide) rfl (r_move) ?_
    refine ga_if (t := 65) rfl (fun h63 => ?_) (fun h63 => ?_)
    ·
     have h63' : x38 = false := by revert h63; cases x38 <;> simp
     replace hm := ite_f hm (bool_nt h63')
     refine ga_no (i := 20) (bz 24 2097151) rfl (by kernel_rfl) (fun _ _ _ _ h => h) rfl rfl rfl rfl rfl h63 <| ga_no (i := 21) (bz 24 4194303) rfl (by kernel_rfl) (fun _ _ _ _ h => h) rfl rfl rfl rfl rfl h63 <| ga_no (i := 22) (bz 24 8388607) rfl (by kernel_rfl) (fun _ _ _ _ h => h) rfl rfl rfl rfl rfl h63 <| ga_r (i := 23) (bz 24 16777215) rfl (by kernel_rfl) (by decide) rfl (r_pick1 rfl h63) <| ga_done (by kernel_rfl) <| d_then ?_
     refine c_flat [(2, .pointer (some ⟨g1, 0, none⟩)), (5, .bool x2), (6, .string x12), (7, .int .i64 x13), (69, .bool true)] ⟨rfl, rfl, rfl, rfl, rfl, trivial⟩ (fun u => ?_)
     refine c_cond1 rfl rfl <| c_seq <| c_region <| g_v rfl r_assign <| g_nil <| d_then <| c_ret <| d_ret_then ?_
     replace hm := Option.some.inj hm
     subst hm
     refine d_retC () Try.results6 ?_ trivial (fun W h => ok_pre (H1 := [_, _, _]) (R1 := []) h (fun W hφ => (q9 _ (q26 _ (q35 _ hφ))))) (.inr rfl)
     refine res_tmp <| res_nil ?_
     exact rfl
    ·
     have h63' : x38 = true := by revert h63; cases x38 <;> simp
     replace hm := ite_t hm h63'
     refine ga_do (i := 20) (bz 24 2097151) rfl (by kernel_rfl) (fun _ _ _ _ h => h) rfl rfl rfl rfl rfl h63 (r_move) <| ga_rG (i := 21) (bz 24 4194303) rfl (by kernel_rfl) (by decide) rfl rfl rfl rfl rfl h63 (r_move) <| ga_rG (i := 22) (bz 24 8388607) rfl (by kernel_rfl) (by decide) rfl rfl rfl rfl rfl h63 (r_neq rfl rfl) <| ga_r (i := 23) (bz 24 16777215) rfl (by kernel_rfl) (by decide) rfl (r_pick0 rfl h63) <| ga_done (by kernel_rfl) <| d_then ?_
     refine c_flat [(2, .pointer (some ⟨g1, 0, none⟩)), (5, .bool x2), (6, .string x12), (7, .int .i64 x13), (69, .bool (decide (x21 ≠ x30)))] ⟨rfl, rfl, rfl, rfl, rfl, trivial⟩ (fun u => ?_)
     refine c_cond rfl (fun h64 => ?_) (fun h64 => ?_)
     ·
      replace hm := ite_t hm (of_decide_eq_true h64)
      refine c_seq <| c_region <| g_v rfl r_assign <| g_nil <| d_then <| c_ret <| d_ret_then ?_
      replace hm := Option.some.inj hm
      subst hm
      refine d_retC () Try.results6 ?_ trivial (fun W h => ok_pre (H1 := [_, _, _]) (R1 := []) h (fun W hφ => (q9 _ (q26 _ (q35 _ hφ))))) (.inr rfl)
      refine res_tmp <| res_nil ?_
      exact rfl
     ·
      replace hm := ite_f hm (of_decide_eq_false h64)
      refine c_skip <| d_then <| c_seq <| c_seq <| c_region <| g_v rfl r_move <| g_v rfl (r_neq rfl rfl) <| g_nil <| d_then ?_
      refine c_cond rfl (fun h65 => ?_) (fun h65 => ?_)
      ·
       replace hm := ite_t hm (of_decide_eq_true h65)
       refine c_seq <| c_region <| g_v rfl r_move <| g_v rfl r_assign <| g_nil <| d_then <| c_ret <| d_ret_then ?_
       replace hm := Option.some.inj hm
       subst hm
       refine d_retC () Try.results6 ?_ trivial (fun W h => ok_pre (H1 := [_, _, _]) (R1 := []) h (fun W hφ => (q9 _ (q26 _ (q35 _ hφ))))) (.inr rfl)
       refine res_tmp <| res_nil ?_
       exact rfl
      ·
       replace hm := ite_f hm (of_decide_eq_false h65)
       refine c_skip <| d_then <| c_seq <| c_region <| g_v rfl r_move ?_
       replace hm := bnd hm
       obtain ⟨⟨x66, x67⟩, hx68, hm⟩ := hm
       refine g_cn ⟨w0, M, _, _, φ35⟩ (fun _ h => h) Try.call17 rfl rfl (c_conf_Read x12 _ hx68) (fun ⟨A69, c70⟩ hc70 => ?_)
       refine g_abs (fun φ72 q72' => ?_)
       have q72 : ∀ W, φ72 W → φ35 W := fun W h => (q72' W h).1
       have f71 := fun (W : World) (h : φ72 W) => (q72' W h).2
       refine g_v rfl r_move <| g_v rfl (r_extract rfl rfl) <| g_v rfl (r_extract rfl rfl) ?_
       refine g_e rfl (e_alloc 100150 Try.zeroValue35) (fun g74 _ => ?_)
       refine g_storeL (tag := 100150) rfl rfl rfl rfl Try.sizeOf35 rfl rfl <| g_v rfl r_assign <| g_nil <| d_then ?_
       refine c_flat [(2, .pointer (some ⟨g1, 0, none⟩)), (5, .bool x2), (15, .pointer (some ⟨g74, 0, none⟩)), (16, .int .i64 x67)] ⟨rfl, rfl, rfl, rfl, trivial⟩ (fun u => ?_)
       refine c_sta ⟨w0, M, (100150, g74, .cells #[.int .i64 x66.fKind, .int .i64 x66.fNode, .string x66.fName, .string x66.fText, .string x66.fZone, .slice A69 x66.fHints.length c70] 35 (0, 0)) :: (100120, g37, .cells #[.int .i64 x29.fKind, .int .i64 x29.fNode, .string x29.fName, .string x29.fText, .string x29.fZone, .slice A32 x29.fHints.length c33] 35 (0, 0)) :: (100100, g28, .cells #[.int .i64 x20.fKind, .int .i64 x20.fNode, .string x20.fName, .string x20.fText, .string x20.fZone, .slice A23 x20.fHints.length c24] 35 (0, 0)) :: (100020, g1, .cells #[.int .i64 x4.fKind, .int .i64 x4.fNode, .string x4.fName, .string x4.fText, .string x4.fZone, .slice A6 x4.fHints.length c7] 35 (0, 0)) :: H, R, φ72⟩ (fun _ h => h) <| c_seq <| c_region <| g_v rfl (r_loadA (tag := 100150) rfl rfl Try.isAgg35 Try.sizeOf35 rfl rfl) <| g_v rfl (r_loadA (tag := 100020) rfl rfl Try.isAgg35 Try.sizeOf35 rfl rfl) ?_
       replace hm := bnd hm
       obtain ⟨x75, hx76, hm⟩ := hm
       refine g_cn ⟨w0, M, _, _, φ72⟩ (fun _ h => h) Try.call19 rfl rfl (c_law13_sameOrder x66 A69 c70 hc70 (fun W hS => f71 W hS.now) x4 A6 c7 hc7 (fun W hS => f8 W (q26 _ (q35 _ (q72 _ hS.now)))) _ hx76) (fun _ _ => ?_)
       refine g_v rfl r_assign <| g_nil <| d_then <| c_seq <| c_region <| g_v rfl r_move <| g_v rfl r_move ?_
       refine g_if rfl rfl rfl rfl rfl (fun h77 => ?_) (fun h77 => ?_)
       ·
        replace hm := ite_t hm h77
        refine g_v rfl r_move <| g_do rfl rfl rfl rfl rfl h77 <| g_v rfl (r_eql rfl rfl) <| g_v rfl (r_pick1 rfl h77) <| g_v rfl r_move ?_
        refine g_if rfl rfl rfl rfl rfl (fun h78 => ?_) (fun h78 => ?_)
        ·
         replace hm := ite_t hm (of_decide_eq_true h78)
         refine g_v rfl r_move <| g_v rfl (r_pick1 rfl h78) <| g_v rfl r_assign <| g_nil <| d_then ?_
         refine c_flat [(4, .bool x75)] ⟨rfl, trivial⟩ (fun u => ?_)
         refine c_ret ?_
         replace hm := Option.some.inj hm
         subst hm
         refine d_retC () Try.results6 ?_ trivial (fun W h => ok_pre (H1 := [_, _, _, _]) (R1 := []) h (fun W hφ => (q9 _ (q26 _ (q35 _ (q72 _ hφ)))))) (.inr rfl)
         refine res_tmp <| res_nil ?_
         exact rfl
        ·
         replace hm := ite_f hm (of_decide_eq_false h78)
         refine g_v rfl (r_pick0 rfl h78) <| g_v rfl r_assign <| g_nil <| d_then ?_
         refine c_flat [(4, .bool false)] ⟨rfl, trivial⟩ (fun u => ?_)
         refine c_ret ?_
         replace hm := Option.some.inj hm
         subst hm
         refine d_retC () Try.results6 ?_ trivial (fun W h => ok_pre (H1 := [_, _, _, _]) (R1 := []) h (fun W hφ => (q9 _ (q26 _ (q35 _ (q72 _ hφ)))))) (.inr rfl)
         refine res_tmp <| res_nil ?_
         exact rfl
       ·
        replace hm := ite_f hm (bool_nt h77)
        refine g_no rfl rfl rfl rfl rfl h77 <| g_v rfl (r_pick0 rfl h77) <| g_v rfl r_move <| g_no rfl rfl rfl rfl rfl rfl <| g_v rfl (r_pick0 rfl rfl) <| g_v rfl r_assign <| g_nil <| d_then ?_
        refine c_flat [(4, .bool false)] ⟨rfl, trivial⟩ (fun u => ?_)
        refine c_ret ?_
        replace hm := Option.some.inj hm
        subst hm
        refine d_retC () Try.results6 ?_ trivial (fun W h => ok_pre (H1 := [_, _, _, _]) (R1 := []) h (fun W hφ => (q9 _ (q26 _ (q35 _ (q72 _ hφ)))))) (.inr rfl)
        refine res_tmp <| res_nil ?_
        exact rfl
end Go.Proofs.Ythpjodfjdnnckaa
