import Derived.Test.YthajfodilodhaaaWDNA
set_option maxRecDepth 100000
set_option maxHeartbeats 4000000
set_option linter.unusedVariables false
set_option linter.unusedSimpArgs false
namespace Go.Proofs.Ythajfodilodhaaa
open Go.RowKit Go.Proofs.YthajfodilodhaaaW.PrintLast
noncomputable def m_law08_awake  : Option Bool :=
  (m_net_New).bind fun x1 =>
  (m_net_Net_Send 1 2 (⟨#[97]⟩ : ByteArray) x1).bind fun (z16 : Bool × Gnet_Net) =>
  (m_net_Net_Send 2 1 (⟨#[98]⟩ : ByteArray) (⟨z16.2.fitems, x1.fconns, z16.2.flast, x1.fopens⟩ : Gnet_Net)).bind fun (z23 : Bool × Gnet_Net) =>
  (m_net_Net_Take 1 (⟨z23.2.fitems, x1.fconns, z23.2.flast, x1.fopens⟩ : Gnet_Net)).bind fun (z31 : GItem × Bool × Gnet_Net) =>
  (m_net_Net_Take 0 (⟨z31.2.2.fitems, x1.fconns, z23.2.flast, x1.fopens⟩ : Gnet_Net)).bind fun (z40 : GItem × Bool × Gnet_Net) =>
  (m_net_Net_Take 0 (⟨z40.2.2.fitems, x1.fconns, z23.2.flast, x1.fopens⟩ : Gnet_Net)).bind fun (z49 : GItem × Bool × Gnet_Net) =>
  (m_net_Net_Open 1 2 (⟨z49.2.2.fitems, x1.fconns, z23.2.flast, x1.fopens⟩ : Gnet_Net)).bind fun (z61 : Int × Bool × Gnet_Net) =>
  (m_net_Net_Write z61.1 1 (⟨#[120]⟩ : ByteArray) z61.2.2).bind fun (z68 : Bool × Gnet_Net) =>
  (m_net_Net_Write z61.1 1 (⟨#[121]⟩ : ByteArray) (⟨z68.2.fitems, z61.2.2.fconns, z68.2.flast, z61.2.2.fopens⟩ : Gnet_Net)).bind fun (z75 : Bool × Gnet_Net) =>
  (m_net_Net_Ready (⟨z75.2.fitems, z61.2.2.fconns, z75.2.flast, z61.2.2.fopens⟩ : Gnet_Net)).bind fun x76 =>
  (m_net_Net_Close z61.1 (⟨z75.2.fitems, z61.2.2.fconns, z75.2.flast, z61.2.2.fopens⟩ : Gnet_Net)).bind fun (z90 : Bool × Gnet_Net) =>
  (m_net_Net_Ready (⟨z90.2.fitems, z90.2.fconns, z90.2.flast, z61.2.2.fopens⟩ : Gnet_Net)).bind fun x91 =>
  if z31.1.fBody = (⟨#[98]⟩ : ByteArray) then
    if z31.2.1 = true then
      if z40.1.fBody = (⟨#[97]⟩ : ByteArray) then
        if z40.2.1 = true then
          if z49.2.1 = true then
            some false
          else
            if z61.1 = 1 then
              if z61.2.1 = true then
                if (x76.length : Int) = 1 then
                  (at_ x76 0).bind fun x104 =>
                  if x104.fKind = 2 then
                    if z90.1 = true then
                      if (x91.length : Int) = 2 then
                        (at_ x91 0).bind fun x112 =>
                        if x112.fTo = 1 then
                          (at_ x91 1).bind fun x118 =>
                          if x118.fTo = 2 then
                            (at_ x91 1).bind fun x124 =>
                            some (decide (x124.fKind = 4))
                          else
                            some false
                        else
                          some false
                      else
                        some false
                    else
                      some false
                  else
                    some false
                else
                  some false
              else
                some false
            else
              some false
        else
          some false
      else
        some false
    else
      some false
  else
    some false
theorem c_law08_awake {w0 : World} {M : Nat → Prop} {H : List (Nat × Nat × Obj)} {R : List (Nat × Row)} {φ : World → Prop}  (r : Bool) (hm : m_law08_awake = some r) :
    Cn Try.prog 9 #[] ⟨w0, M, H, R, φ⟩ (fun x : Unit => .bool r) (fun x => True) (fun x => ⟨w0, M, H, R, φ⟩) := by
 unfold m_law08_awake at hm
 refine cn_intro (fn := Try.f9) (N := 119) Try.func9 rfl Try.ntmps9 rfl <| c_seq <| c_region <| g_v rfl r_assign <| g_nil <| d_then <| c_seq <| c_region ?_
 replace hm := bnd hm
 obtain ⟨x1, hx2, hm⟩ := hm
 refine g_cn ⟨w0, M, _, _, φ⟩ (fun _ h => h) Try.call10 rfl rfl (c_net_New  _ hx2) (fun ⟨A3, c4, A6, c7, g9⟩ ⟨hc4, hc7⟩ => ?_)
 refine g_sta _ (fun W h => (ok_frontR (t := 2000) (t' := 100130) (ok_frontR (t := 2001) (t' := 100131) (ok_front (t := 3000) (t' := 100135) h rfl) rfl) rfl)) <| g_v rfl r_assign <| g_nil <| d_then <| c_seq <| c_seq <| c_region <| g_v rfl r_move <| g_v rfl (r_eqlP1 Try.underlying24 rfl rfl) <| g_nil ?_
 refine d_then <| c_cond0 rfl rfl <| c_skip <| d_then <| c_seq <| c_region <| g_v rfl r_move ?_
 replace hm := bnd hm
 obtain ⟨⟨x10, x11⟩, hx12, hm⟩ := hm
 refine g_cn ⟨w0, M, (1000, g9, .cells #[.slice A3 x1.fitems.length c4, .slice A6 x1.fconns.length c7, .int .i64 x1.flast, .int .i64 x1.fopens] 61 (0, 0)) :: H, (1000, ⟨.slice A3 x1.fitems.length c4, 40, 6, x1.fitems.length, x1.fitems.flatMap GItem.enc⟩) :: (1001, ⟨.slice A6 x1.fconns.length c7, 63, 3, x1.fconns.length, x1.fconns.flatMap Gnet_conn.enc⟩) :: R, φ⟩ (fun W h => (ok_front (t := 100135) (t' := 1000) (ok_frontR (t := 100130) (t' := 1000) (ok_frontR (t := 100131) (t' := 1001) h rfl) rfl) rfl)) Try.call15 rfl rfl (c_net_Net_Send 1 2 (⟨#[97]⟩ : ByteArray) g9 x1 A3 c4 hc4 A6 c7 hc7 _ hx12) (fun ⟨A13, c14⟩ hc14 => ?_)
 refine g_sta _ (fun W h => (ok_frontR (t := 2000) (t' := 100130) (ok_frontR (t := 1001) (t' := 100131) (ok_front (t := 1000) (t' := 100135) h rfl) rfl) rfl)) <| g_nil <| d_then <| c_seq <| c_region <| g_v rfl r_move ?_
 replace hm := bnd hm
 obtain ⟨⟨x17, x18⟩, hx19, hm⟩ := hm
 refine g_cn ⟨w0, M, (1000, g9, .cells #[.slice A13 x11.fitems.length c14, .slice A6 x1.fconns.length c7, .int .i64 x11.flast, .int .i64 x1.fopens] 61 (0, 0)) :: H, (1000, ⟨.slice A13 x11.fitems.length c14, 40, 6, x11.fitems.length, x11.fitems.flatMap GItem.enc⟩) :: (1001, ⟨.slice A6 x1.fconns.length c7, 63, 3, x1.fconns.length, x1.fconns.flatMap Gnet_conn.enc⟩) :: R, φ⟩ (fun W h => (ok_front (t := 100135) (t' := 1000) (ok_frontR (t := 100130) (t' := 1000) (ok_frontR (t := 100131) (t' := 1001) h rfl) rfl) rfl)) Try.call15 rfl rfl (c_net_Net_Send 2 1 (⟨#[98]⟩ : ByteArray) g9 (⟨x11.fitems, x1.fconns, x11.flast, x1.fopens⟩ : Gnet_Net) A13 c14 hc14 A6 c7 hc7 _ hx19) (fun ⟨A20, c21⟩ hc21 => ?_)
 refine g_sta _ (fun W h => (ok_frontR (t := 2000) (t' := 100130) (ok_frontR (t := 1001) (t' := 100131) (ok_front (t := 1000) (t' := 100135) h rfl) rfl) rfl)) <| g_nil <| d_then ?_
 refine c_flat [(1, .pointer (some ⟨g9, 0, none⟩))] ⟨rfl, trivial⟩ (fun u => ?_)
 refine c_sta ⟨w0, M, (100135, g9, .cells #[.slice A20 x18.fitems.length c21, .slice A6 x1.fconns.length c7, .int .i64 x18.flast, .int .i64 x1.fopens] 61 (0, 0)) :: H, (100130, ⟨.slice A20 x18.fitems.length c21, 40, 6, x18.fitems.length, x18.fitems.flatMap GItem.enc⟩) :: (100131, ⟨.slice A6 x1.fconns.length c7, 63, 3, x1.fconns.length, x1.fconns.flatMap Gnet_conn.enc⟩) :: R, φ⟩ (fun _ h => h) <| c_seq <| c_region <| g_v rfl r_move ?_
 replace hm := bnd hm
 obtain ⟨⟨x24, x25, x26⟩, hx27, hm⟩ := hm
 refine g_cn ⟨w0, M, (1000, g9, .cells #[.slice A20 x18.fitems.length c21, .slice A6 x1.fconns.length c7, .int .i64 x18.flast, .int .i64 x1.fopens] 61 (0, 0)) :: H, (1000, ⟨.slice A20 x18.fitems.length c21, 40, 6, x18.fitems.length, x18.fitems.flatMap GItem.enc⟩) :: (1001, ⟨.slice A6 x1.fconns.length c7, 63, 3, x1.fconns.length, x1.fconns.flatMap Gnet_conn.enc⟩) :: R, φ⟩ (fun W h => (ok_front (t := 100135) (t' := 1000) (ok_frontR (t := 100130) (t' := 1000) (ok_frontR (t := 100131) (t' := 1001) h rfl) rfl) rfl)) Try.call17 rfl rfl (c_net_Net_Take 1 g9 (⟨x18.fitems, x1.fconns, x18.flast, x1.fopens⟩ : Gnet_Net) A20 c21 hc21 A6 c7 hc7 _ hx27) (fun ⟨A28, c29⟩ hc29 => ?_)
 refine g_sta _ (fun W h => (ok_frontR (t := 2000) (t' := 100130) (ok_frontR (t := 1001) (t' := 100131) (ok_front (t := 1000) (t' := 100135) h rfl) rfl) rfl)) <| g_v rfl r_move <| g_v rfl (r_extract rfl rfl) <| g_v rfl (r_extract rfl rfl) ?_
 refine g_e rfl (e_alloc 100020 Try.zeroValue40) (fun g32 _ => ?_)
 refine g_storeL (tag := 100020) rfl rfl rfl rfl Try.sizeOf40 rfl rfl <| g_v rfl r_assign <| g_nil <| d_then <| c_seq <| c_region <| g_v rfl r_move ?_
 replace hm := bnd hm
 obtain ⟨⟨x33, x34, x35⟩, hx36, hm⟩ := hm
 refine g_cn ⟨w0, M, (1000, g9, .cells #[.slice A28 x26.fitems.length c29, .slice A6 x1.fconns.length c7, .int .i64 x18.flast, .int .i64 x1.fopens] 61 (0, 0)) :: (100020, g32, .cells #[.int .i64 x24.fNumber, .int .i64 x24.fKind, .int .i64 x24.fFrom, .int .i64 x24.fTo, .int .i64 x24.fConn, .string x24.fBody] 40 (0, 0)) :: H, (1000, ⟨.slice A28 x26.fitems.length c29, 40, 6, x26.fitems.length, x26.fitems.flatMap GItem.enc⟩) :: (1001, ⟨.slice A6 x1.fconns.length c7, 63, 3, x1.fconns.length, x1.fconns.flatMap Gnet_conn.enc⟩) :: R, φ⟩ (fun W h => (ok_front (t := 100135) (t' := 1000) (ok_frontR (t := 100130) (t' := 1000) (ok_frontR (t := 100131) (t' := 1001) h rfl) rfl) rfl)) Try.call17 rfl rfl (c_net_Net_Take 0 g9 (⟨x26.fitems, x1.fconns, x18.flast, x1.fopens⟩ : Gnet_Net) A28 c29 hc29 A6 c7 hc7 _ hx36) (fun ⟨A37, c38⟩ hc38 => ?_)
 refine g_sta _ (fun W h => (ok_frontR (t := 2000) (t' := 100130) (ok_frontR (t := 1001) (t' := 100131) (ok_front (t := 1000) (t' := 100135) h rfl) rfl) rfl)) <| g_v rfl r_move <| g_v rfl (r_extract rfl rfl) <| g_v rfl (r_extract rfl rfl) ?_
 refine g_e rfl (e_alloc 100040 Try.zeroValue40) (fun g41 _ => ?_)
 refine g_storeL (tag := 100040) rfl rfl rfl rfl Try.sizeOf40 rfl rfl <| g_v rfl r_assign <| g_nil <| d_then ?_
 refine c_flat [(1, .pointer (some ⟨g9, 0, none⟩)), (2, .pointer (some ⟨g32, 0, none⟩)), (3, .bool x25), (4, .pointer (some ⟨g41, 0, none⟩)), (5, .bool x34)] ⟨rfl, rfl, rfl, rfl, rfl, trivial⟩ (fun u => ?_)
 refine c_sta ⟨w0, M, (100040, g41, .cells #[.int .i64 x33.fNumber, .int .i64 x33.fKind, .int .i64 x33.fFrom, .int .i64 x33.fTo, .int .i64 x33.fConn, .string x33.fBody] 40 (0, 0)) :: (100135, g9, .cells #[.slice A37 x35.fitems.length c38, .slice A6 x1.fconns.length c7, .int .i64 x18.flast, .int .i64 x1.fopens] 61 (0, 0)) :: (100020, g32, .cells #[.int .i64 x24.fNumber, .int .i64 x24.fKind, .int .i64 x24.fFrom, .int .i64 x24.fTo, .int .i64 x24.fConn, .string x24.fBody] 40 (0, 0)) :: H, (100130, ⟨.slice A37 x35.fitems.length c38, 40, 6, x35.fitems.length, x35.fitems.flatMap GItem.enc⟩) :: (100131, ⟨.slice A6 x1.fconns.length c7, 63, 3, x1.fconns.length, x1.fconns.flatMap Gnet_conn.enc⟩) :: R, φ⟩ (fun _ h => h) <| c_seq <| c_region <| g_v rfl r_move ?_
 replace hm := bnd hm
 obtain ⟨⟨x42, x43, x44⟩, hx45, hm⟩ := hm
 refine g_cn ⟨w0, M, (1000, g9, .cells #[.slice A37 x35.fitems.length c38, .slice A6 x1.fconns.length c7, .int .i64 x18.flast, .int .i64 x1.fopens] 61 (0, 0)) :: (100040, g41, .cells #[.int .i64 x33.fNumber, .int .i64 x33.fKind, .int .i64 x33.fFrom, .int .i64 x33.fTo, .int .i64 x33.fConn, .string x33.fBody] 40 (0, 0)) :: (100020, g32, .cells #[.int .i64 x24.fNumber, .int .i64 x24.fKind, .int .i64 x24.fFrom, .int .i64 x24.fTo, .int .i64 x24.fConn, .string x24.fBody] 40 (0, 0)) :: H, (1000, ⟨.slice A37 x35.fitems.length c38, 40, 6, x35.fitems.length, x35.fitems.flatMap GItem.enc⟩) :: (1001, ⟨.slice A6 x1.fconns.length c7, 63, 3, x1.fconns.length, x1.fconns.flatMap Gnet_conn.enc⟩) :: R, φ⟩ (fun W h => (ok_front (t := 100135) (t' := 1000) (ok_frontR (t := 100130) (t' := 1000) (ok_frontR (t := 100131) (t' := 1001) h rfl) rfl) rfl)) Try.call17 rfl rfl (c_net_Net_Take 0 g9 (⟨x35.fitems, x1.fconns, x18.flast, x1.fopens⟩ : Gnet_Net) A37 c38 hc38 A6 c7 hc7 _ hx45) (fun ⟨A46, c47⟩ hc47 => ?_)
 refine g_sta _ (fun W h => (ok_frontR (t := 2000) (t' := 100130) (ok_frontR (t := 1001) (t' := 100131) (ok_front (t := 1000) (t' := 100135) h rfl) rfl) rfl)) <| g_v rfl r_move <| g_v rfl (r_extract rfl rfl) <| g_v rfl (r_extract rfl rfl) ?_
 refine g_e rfl (e_alloc 100060 Try.zeroValue40) (fun g50 _ => ?_)
 refine g_storeL (tag := 100060) rfl rfl rfl rfl Try.sizeOf40 rfl rfl <| g_v rfl r_assign <| g_nil <| d_then <| c_seq <| c_region <| g_v rfl r_move ?_
 replace hm := bnd hm
 obtain ⟨⟨x51, x52, x53⟩, hx54, hm⟩ := hm
 refine g_cn ⟨w0, M, (1000, g9, .cells #[.slice A46 x44.fitems.length c47, .slice A6 x1.fconns.length c7, .int .i64 x18.flast, .int .i64 x1.fopens] 61 (0, 0)) :: (100060, g50, .cells #[.int .i64 x42.fNumber, .int .i64 x42.fKind, .int .i64 x42.fFrom, .int .i64 x42.fTo, .int .i64 x42.fConn, .string x42.fBody] 40 (0, 0)) :: (100040, g41, .cells #[.int .i64 x33.fNumber, .int .i64 x33.fKind, .int .i64 x33.fFrom, .int .i64 x33.fTo, .int .i64 x33.fConn, .string x33.fBody] 40 (0, 0)) :: (100020, g32, .cells #[.int .i64 x24.fNumber, .int .i64 x24.fKind, .int .i64 x24.fFrom, .int .i64 x24.fTo, .int .i64 x24.fConn, .string x24.fBody] 40 (0, 0)) :: H, (1000, ⟨.slice A46 x44.fitems.length c47, 40, 6, x44.fitems.length, x44.fitems.flatMap GItem.enc⟩) :: (1001, ⟨.slice A6 x1.fconns.length c7, 63, 3, x1.fconns.length, x1.fconns.flatMap Gnet_conn.enc⟩) :: R, φ⟩ (fun W h => (ok_front (t := 100135) (t' := 1000) (ok_frontR (t := 100130) (t' := 1000) (ok_frontR (t := 100131) (t' := 1001) h rfl) rfl) rfl)) Try.call12 rfl rfl (c_net_Net_Open 1 2 g9 (⟨x44.fitems, x1.fconns, x18.flast, x1.fopens⟩ : Gnet_Net) A46 c47 hc47 A6 c7 hc7 _ hx54) (fun ⟨A55, c56, A58, c59⟩ ⟨hc56, hc59⟩ => ?_)
 refine g_sta _ (fun W h => (ok_frontR (t := 2000) (t' := 100130) (ok_frontR (t := 2001) (t' := 100131) (ok_front (t := 1000) (t' := 100135) h rfl) rfl) rfl)) <| g_v rfl r_move <| g_v rfl (r_extract rfl rfl) <| g_v rfl (r_extract rfl rfl) <| g_v rfl r_assign <| g_v rfl r_assign <| g_nil <| d_then ?_
 refine c_flat [(1, .pointer (some ⟨g9, 0, none⟩)), (2, .pointer (some ⟨g32, 0, none⟩)), (3, .bool x25), (4, .pointer (some ⟨g41, 0, none⟩)), (5, .bool x34), (7, .bool x43), (8, .int .i64 x51), (9, .bool x52)] ⟨rfl, rfl, rfl, rfl, rfl, rfl, rfl, rfl, trivial⟩ (fun u => ?_)
 refine c_sta ⟨w0, M, (100135, g9, .cells #[.slice A55 x53.fitems.length c56, .slice A58 x53.fconns.length c59, .int .i64 x53.flast, .int .i64 x53.fopens] 61 (0, 0)) :: (100060, g50, .cells #[.int .i64 x42.fNumber, .int .i64 x42.fKind, .int .i64 x42.fFrom, .int .i64 x42.fTo, .int .i64 x42.fConn, .string x42.fBody] 40 (0, 0)) :: (100040, g41, .cells #[.int .i64 x33.fNumber, .int .i64 x33.fKind, .int .i64 x33.fFrom, .int .i64 x33.fTo, .int .i64 x33.fConn, .string x33.fBody] 40 (0, 0)) :: (100020, g32, .cells #[.int .i64 x24.fNumber, .int .i64 x24.fKind, .int .i64 x24.fFrom, .int .i64 x24.fTo, .int .i64 x24.fConn, .string x24.fBody] 40 (0, 0)) :: H, (100130, ⟨.slice A55 x53.fitems.length c56, 40, 6, x53.fitems.length, x53.fitems.flatMap GItem.enc⟩) :: (100131, ⟨.slice A58 x53.fconns.length c59, 63, 3, x53.fconns.length, x53.fconns.flatMap Gnet_conn.enc⟩) :: R, φ⟩ (fun _ h => h) <| c_seq <| c_region <| g_v rfl r_move <| g_v rfl r_move ?_
 replace hm := bnd hm
 obtain ⟨⟨x62, x63⟩, hx64, hm⟩ := hm
 refine g_cn ⟨w0, M, (1000, g9, .cells #[.slice A55 x53.fitems.length c56, .slice A58 x53.fconns.length c59, .int .i64 x53.flast, .int .i64 x53.fopens] 61 (0, 0)) :: (100060, g50, .cells #[.int .i64 x42.fNumber, .int .i64 x42.fKind, .int .i64 x42.fFrom, .int .i64 x42.fTo, .int .i64 x42.fConn, .string x42.fBody] 40 (0, 0)) :: (100040, g41, .cells #[.int .i64 x33.fNumber, .int .i64 x33.fKind, .int .i64 x33.fFrom, .int .i64 x33.fTo, .int .i64 x33.fConn, .string x33.fBody] 40 (0, 0)) :: (100020, g32, .cells #[.int .i64 x24.fNumber, .int .i64 x24.fKind, .int .i64 x24.fFrom, .int .i64 x24.fTo, .int .i64 x24.fConn, .string x24.fBody] 40 (0, 0)) :: H, (1000, ⟨.slice A55 x53.fitems.length c56, 40, 6, x53.fitems.length, x53.fitems.flatMap GItem.enc⟩) :: (1001, ⟨.slice A58 x53.fconns.length c59, 63, 3, x53.fconns.length, x53.fconns.flatMap Gnet_conn.enc⟩) :: R, φ⟩ (fun W h => (ok_front (t := 100135) (t' := 1000) (ok_frontR (t := 100130) (t' := 1000) (ok_frontR (t := 100131) (t' := 1001) h rfl) rfl) rfl)) Try.call13 rfl rfl (c_net_Net_Write x51 1 (⟨#[120]⟩ : ByteArray) g9 x53 A55 c56 hc56 A58 c59 hc59 _ hx64) (fun ⟨A65, c66⟩ hc66 => ?_)
 refine g_sta _ (fun W h => (ok_frontR (t := 2000) (t' := 100130) (ok_frontR (t := 1001) (t' := 100131) (ok_front (t := 1000) (t' := 100135) h rfl) rfl) rfl)) <| g_nil <| d_then <| c_seq <| c_region <| g_v rfl r_move <| g_v rfl r_move ?_
 replace hm := bnd hm
 obtain ⟨⟨x69, x70⟩, hx71, hm⟩ := hm
 refine g_cn ⟨w0, M, (1000, g9, .cells #[.slice A65 x63.fitems.length c66, .slice A58 x53.fconns.length c59, .int .i64 x63.flast, .int .i64 x53.fopens] 61 (0, 0)) :: (100060, g50, .cells #[.int .i64 x42.fNumber, .int .i64 x42.fKind, .int .i64 x42.fFrom, .int .i64 x42.fTo, .int .i64 x42.fConn, .string x42.fBody] 40 (0, 0)) :: (100040, g41, .cells #[.int .i64 x33.fNumber, .int .i64 x33.fKind, .int .i64 x33.fFrom, .int .i64 x33.fTo, .int .i64 x33.fConn, .string x33.fBody] 40 (0, 0)) :: (100020, g32, .cells #[.int .i64 x24.fNumber, .int .i64 x24.fKind, .int .i64 x24.fFrom, .int .i64 x24.fTo, .int .i64 x24.fConn, .string x24.fBody] 40 (0, 0)) :: H, (1000, ⟨.slice A65 x63.fitems.length c66, 40, 6, x63.fitems.length, x63.fitems.flatMap GItem.enc⟩) :: (1001, ⟨.slice A58 x53.fconns.length c59, 63, 3, x53.fconns.length, x53.fconns.flatMap Gnet_conn.enc⟩) :: R, φ⟩ (fun W h => (ok_front (t := 100135) (t' := 1000) (ok_frontR (t := 100130) (t' := 1000) (ok_frontR (t := 100131) (t' := 1001) h rfl) rfl) rfl)) Try.call13 rfl rfl (c_net_Net_Write x51 1 (⟨#[121]⟩ : ByteArray) g9 (⟨x63.fitems, x53.fconns, x63.flast, x53.fopens⟩ : Gnet_Net) A65 c66 hc66 A58 c59 hc59 _ hx71) (fun ⟨A72, c73⟩ hc73 => ?_)
 refine g_sta _ (fun W h => (ok_frontR (t := 2000) (t' := 100130) (ok_frontR (t := 1001) (t' := 100131) (ok_front (t := 1000) (t' := 100135) h rfl) rfl) rfl)) <| g_nil <| d_then <| c_seq <| c_region <| g_v rfl r_move ?_
 replace hm := bnd hm
 obtain ⟨x76, hx77, hm⟩ := hm
 refine g_cn ⟨w0, M, (1000, g9, .cells #[.slice A72 x70.fitems.length c73, .slice A58 x53.fconns.length c59, .int .i64 x70.flast, .int .i64 x53.fopens] 61 (0, 0)) :: (100060, g50, .cells #[.int .i64 x42.fNumber, .int .i64 x42.fKind, .int .i64 x42.fFrom, .int .i64 x42.fTo, .int .i64 x42.fConn, .string x42.fBody] 40 (0, 0)) :: (100040, g41, .cells #[.int .i64 x33.fNumber, .int .i64 x33.fKind, .int .i64 x33.fFrom, .int .i64 x33.fTo, .int .i64 x33.fConn, .string x33.fBody] 40 (0, 0)) :: (100020, g32, .cells #[.int .i64 x24.fNumber, .int .i64 x24.fKind, .int .i64 x24.fFrom, .int .i64 x24.fTo, .int .i64 x24.fConn, .string x24.fBody] 40 (0, 0)) :: H, (1000, ⟨.slice A72 x70.fitems.length c73, 40, 6, x70.fitems.length, x70.fitems.flatMap GItem.enc⟩) :: (1001, ⟨.slice A58 x53.fconns.length c59, 63, 3, x53.fconns.length, x53.fconns.flatMap Gnet_conn.enc⟩) :: R, φ⟩ (fun W h => (ok_front (t := 100135) (t' := 1000) (ok_frontR (t := 100130) (t' := 1000) (ok_frontR (t := 100131) (t' := 1001) h rfl) rfl) rfl)) Try.call25 rfl rfl (c_net_Net_Ready g9 (⟨x70.fitems, x53.fconns, x70.flast, x53.fopens⟩ : Gnet_Net) A72 c73 hc73 A58 c59 hc59 _ hx77) (fun ⟨A78, c79⟩ hc79 => ?_)
 refine g_sta _ (fun W h => (ok_frontR (t := 2000) (t' := 100470) (ok_frontR (t := 1000) (t' := 100130) (ok_frontR (t := 1001) (t' := 100131) (ok_front (t := 1000) (t' := 100135) h rfl) rfl) rfl) rfl)) <| g_v rfl r_assign <| g_nil <| d_then ?_
 refine c_flat [(1, .pointer (some ⟨g9, 0, none⟩)), (2, .pointer (some ⟨g32, 0, none⟩)), (3, .bool x25), (4, .pointer (some ⟨g41, 0, none⟩)), (5, .bool x34), (7, .bool x43), (8, .int .i64 x51), (9, .bool x52), (10, .slice A78 x76.length c79)] ⟨rfl, rfl, rfl, rfl, rfl, rfl, rfl, rfl, rfl, trivial⟩ (fun u => ?_)
 refine c_sta ⟨w0, M, (100135, g9, .cells #[.slice A72 x70.fitems.length c73, .slice A58 x53.fconns.length c59, .int .i64 x70.flast, .int .i64 x53.fopens] 61 (0, 0)) :: (100060, g50, .cells #[.int .i64 x42.fNumber, .int .i64 x42.fKind, .int .i64 x42.fFrom, .int .i64 x42.fTo, .int .i64 x42.fConn, .string x42.fBody] 40 (0, 0)) :: (100040, g41, .cells #[.int .i64 x33.fNumber, .int .i64 x33.fKind, .int .i64 x33.fFrom, .int .i64 x33.fTo, .int .i64 x33.fConn, .string x33.fBody] 40 (0, 0)) :: (100020, g32, .cells #[.int .i64 x24.fNumber, .int .i64 x24.fKind, .int .i64 x24.fFrom, .int .i64 x24.fTo, .int .i64 x24.fConn, .string x24.fBody] 40 (0, 0)) :: H, (100470, ⟨.slice A78 x76.length c79, 40, 6, x76.length, x76.flatMap GItem.enc⟩) :: (100130, ⟨.slice A72 x70.fitems.length c73, 40, 6, x70.fitems.length, x70.fitems.flatMap GItem.enc⟩) :: (100131, ⟨.slice A58 x53.fconns.length c59, 63, 3, x53.fconns.length, x53.fconns.flatMap Gnet_conn.enc⟩) :: R, φ⟩ (fun _ h => h) <| c_seq <| c_region <| g_v rfl r_move <| g_v rfl r_move ?_
 replace hm := bnd hm
 obtain ⟨⟨x81, x82⟩, hx83, hm⟩ := hm
 refine g_cn ⟨w0, M, (1000, g9, .cells #[.slice A72 x70.fitems.length c73, .slice A58 x53.fconns.length c59, .int .i64 x70.flast, .int .i64 x53.fopens] 61 (0, 0)) :: (100060, g50, .cells #[.int .i64 x42.fNumber, .int .i64 x42.fKind, .int .i64 x42.fFrom, .int .i64 x42.fTo, .int .i64 x42.fConn, .string x42.fBody] 40 (0, 0)) :: (100040, g41, .cells #[.int .i64 x33.fNumber, .int .i64 x33.fKind, .int .i64 x33.fFrom, .int .i64 x33.fTo, .int .i64 x33.fConn, .string x33.fBody] 40 (0, 0)) :: (100020, g32, .cells #[.int .i64 x24.fNumber, .int .i64 x24.fKind, .int .i64 x24.fFrom, .int .i64 x24.fTo, .int .i64 x24.fConn, .string x24.fBody] 40 (0, 0)) :: H, (1000, ⟨.slice A72 x70.fitems.length c73, 40, 6, x70.fitems.length, x70.fitems.flatMap GItem.enc⟩) :: (1001, ⟨.slice A58 x53.fconns.length c59, 63, 3, x53.fconns.length, x53.fconns.flatMap Gnet_conn.enc⟩) :: (100470, ⟨.slice A78 x76.length c79, 40, 6, x76.length, x76.flatMap GItem.enc⟩) :: R, φ⟩ (fun W h => (ok_front (t := 100135) (t' := 1000) (ok_frontR (t := 100130) (t' := 1000) (ok_frontR (t := 100131) (t' := 1001) h rfl) rfl) rfl)) Try.call14 rfl rfl (c_net_Net_Close x51 g9 (⟨x70.fitems, x53.fconns, x70.flast, x53.fopens⟩ : Gnet_Net) A72 c73 hc73 A58 c59 hc59 _ hx83) (fun ⟨A84, c85, A87, c88⟩ ⟨hc85, hc88⟩ => ?_)
 refine g_sta _ (fun W h => (ok_frontR (t := 2000) (t' := 100130) (ok_frontR (t := 2001) (t' := 100131) (ok_front (t := 1000) (t' := 100135) h rfl) rfl) rfl)) <| g_v rfl r_assign <| g_nil <| d_then <| c_seq <| c_region <| g_v rfl r_move ?_
 replace hm := bnd hm
 obtain ⟨x91, hx92, hm⟩ := hm
 refine g_cn ⟨w0, M, (1000, g9, .cells #[.slice A84 x82.fitems.length c85, .slice A87 x82.fconns.length c88, .int .i64 x82.flast, .int .i64 x53.fopens] 61 (0, 0)) :: (100060, g50, .cells #[.int .i64 x42.fNumber, .int .i64 x42.fKind, .int .i64 x42.fFrom, .int .i64 x42.fTo, .int .i64 x42.fConn, .string x42.fBody] 40 (0, 0)) :: (100040, g41, .cells #[.int .i64 x33.fNumber, .int .i64 x33.fKind, .int .i64 x33.fFrom, .int .i64 x33.fTo, .int .i64 x33.fConn, .string x33.fBody] 40 (0, 0)) :: (100020, g32, .cells #[.int .i64 x24.fNumber, .int .i64 x24.fKind, .int .i64 x24.fFrom, .int .i64 x24.fTo, .int .i64 x24.fConn, .string x24.fBody] 40 (0, 0)) :: H, (1000, ⟨.slice A84 x82.fitems.length c85, 40, 6, x82.fitems.length, x82.fitems.flatMap GItem.enc⟩) :: (1001, ⟨.slice A87 x82.fconns.length c88, 63, 3, x82.fconns.length, x82.fconns.flatMap Gnet_conn.enc⟩) :: (100470, ⟨.slice A78 x76.length c79, 40, 6, x76.length, x76.flatMap GItem.enc⟩) :: R, φ⟩ (fun W h => (ok_front (t := 100135) (t' := 1000) (ok_frontR (t := 100130) (t' := 1000) (ok_frontR (t := 100131) (t' := 1001) h rfl) rfl) rfl)) Try.call25 rfl rfl (c_net_Net_Ready g9 (⟨x82.fitems, x82.fconns, x82.flast, x53.fopens⟩ : Gnet_Net) A84 c85 hc85 A87 c88 hc88 _ hx92) (fun ⟨A93, c94⟩ hc94 => ?_)
 refine g_sta _ (fun W h => (ok_frontR (t := 2000) (t' := 100520) (ok_frontR (t := 1000) (t' := 100130) (ok_frontR (t := 1001) (t' := 100131) (ok_front (t := 1000) (t' := 100135) h rfl) rfl) rfl) rfl)) <| g_v rfl r_assign <| g_nil <| d_then <| c_seq <| c_region <| g_v rfl (r_field (n := 5) Try.underlying40 rfl Try.sizeOf9 rfl rfl) <| g_v rfl (r_load (tag := 100020) rfl rfl rfl Try.isAgg9) <| g_v rfl (r_eqlT rfl rfl) <| g_v rfl r_move ?_
 refine g_if rfl rfl rfl rfl rfl (fun h96 => ?_) (fun h96 => ?_)
 ·
  replace hm := ite_t hm (of_decide_eq_true h96)
  refine g_v rfl r_move <| g_v rfl (r_pick1 rfl h96) <| g_v rfl r_move ?_
  refine g_if rfl rfl rfl rfl rfl (fun h97 => ?_) (fun h97 => ?_)
  ·
   replace hm := ite_t hm h97
   refine g_v rfl (r_field (n := 5) Try.underlying40 rfl Try.sizeOf9 rfl rfl) <| g_do rfl rfl rfl rfl rfl h97 <| g_v rfl (r_load (tag := 100040) rfl rfl rfl Try.isAgg9) <| g_do rfl rfl rfl rfl rfl h97 <| g_v rfl (r_eqlT rfl rfl) <| g_v rfl (r_pick1 rfl h97) <| g_v rfl r_move ?_
   refine g_if rfl rfl rfl rfl rfl (fun h98 => ?_) (fun h98 => ?_)
   ·
    replace hm := ite_t hm (of_decide_eq_true h98)
    refine g_v rfl r_move <| g_v rfl (r_pick1 rfl h98) <| g_v rfl r_move ?_
    refine g_if rfl rfl rfl rfl rfl (fun h99 => ?_) (fun h99 => ?_)
    ·
     replace hm := ite_t hm h99
     refine g_v rfl r_move <| g_do rfl rfl rfl rfl rfl h99 <| g_v rfl (r_not rfl) <| g_v rfl (r_pick1 rfl h99) <| g_v rfl r_move ?_
     refine g_if rfl rfl rfl rfl rfl (fun h100 => ?_) (fun h100 => ?_)
     ·
      have h100' : x43 = false := by revert h100; cases x43 <;> simp
      replace hm := ite_f hm (bool_nt h100')
      refine g_v rfl r_move <| g_do rfl rfl rfl rfl rfl h100 <| g_v rfl (r_eql rfl rfl) <| g_v rfl (r_pick1 rfl h100) <| g_v rfl r_move ?_
      refine g_if rfl rfl rfl rfl rfl (fun h101 => ?_) (fun h101 => ?_)
      ·
       replace hm := ite_t hm (of_decide_eq_true h101)
       refine g_v rfl r_move <| g_v rfl (r_pick1 rfl h101) <| g_v rfl r_move ?_
       refine g_if rfl rfl rfl rfl rfl (fun h102 => ?_) (fun h102 => ?_)
       ·
        replace hm := ite_t hm h102
        refine g_v rfl r_move <| g_do rfl rfl rfl rfl rfl h102 <| g_v rfl (r_lenL Try.underlying52 rfl) <| g_do rfl rfl rfl rfl rfl h102 <| g_v rfl (r_eql rfl rfl) <| g_v rfl (r_pick1 rfl h102) <| g_v rfl r_move ?_
        refine g_if rfl rfl rfl rfl rfl (fun h103 => ?_) (fun h103 => ?_)
        ·
         replace hm := ite_t hm (of_decide_eq_true h103)
         refine g_v rfl r_move <| g_do rfl rfl rfl rfl rfl h103 ?_
         replace hm := bnd hm
         obtain ⟨x104, hx104, hm⟩ := hm
         refine g_know _ (fun W hS => cl_at (p := (Sta.ok ⟨w0, M, (100135, g9, .cells #[.slice A84 x82.fitems.length c85, .slice A87 x82.fconns.length c88, .int .i64 x82.flast, .int .i64 x53.fopens] 61 (0, 0)) :: (100060, g50, .cells #[.int .i64 x42.fNumber, .int .i64 x42.fKind, .int .i64 x42.fFrom, .int .i64 x42.fTo, .int .i64 x42.fConn, .string x42.fBody] 40 (0, 0)) :: (100040, g41, .cells #[.int .i64 x33.fNumber, .int .i64 x33.fKind, .int .i64 x33.fFrom, .int .i64 x33.fTo, .int .i64 x33.fConn, .string x33.fBody] 40 (0, 0)) :: (100020, g32, .cells #[.int .i64 x24.fNumber, .int .i64 x24.fKind, .int .i64 x24.fFrom, .int .i64 x24.fTo, .int .i64 x24.fConn, .string x24.fBody] 40 (0, 0)) :: H, (100520, ⟨.slice A93 x91.length c94, 40, 6, x91.length, x91.flatMap GItem.enc⟩) :: (100130, ⟨.slice A84 x82.fitems.length c85, 40, 6, x82.fitems.length, x82.fitems.flatMap GItem.enc⟩) :: (100131, ⟨.slice A87 x82.fconns.length c88, 63, 3, x82.fconns.length, x82.fconns.flatMap Gnet_conn.enc⟩) :: (100470, ⟨.slice A78 x76.length c79, 40, 6, x76.length, x76.flatMap GItem.enc⟩) :: R, φ⟩)) (sz := 6) (fun _ => rfl) (by decide) hS (fun W hS => rowCl (S := ⟨w0, M, (100135, g9, .cells #[.slice A84 x82.fitems.length c85, .slice A87 x82.fconns.length c88, .int .i64 x82.flast, .int .i64 x53.fopens] 61 (0, 0)) :: (100060, g50, .cells #[.int .i64 x42.fNumber, .int .i64 x42.fKind, .int .i64 x42.fFrom, .int .i64 x42.fTo, .int .i64 x42.fConn, .string x42.fBody] 40 (0, 0)) :: (100040, g41, .cells #[.int .i64 x33.fNumber, .int .i64 x33.fKind, .int .i64 x33.fFrom, .int .i64 x33.fTo, .int .i64 x33.fConn, .string x33.fBody] 40 (0, 0)) :: (100020, g32, .cells #[.int .i64 x24.fNumber, .int .i64 x24.fKind, .int .i64 x24.fFrom, .int .i64 x24.fTo, .int .i64 x24.fConn, .string x24.fBody] 40 (0, 0)) :: H, (100520, ⟨.slice A93 x91.length c94, 40, 6, x91.length, x91.flatMap GItem.enc⟩) :: (100130, ⟨.slice A84 x82.fitems.length c85, 40, 6, x82.fitems.length, x82.fitems.flatMap GItem.enc⟩) :: (100131, ⟨.slice A87 x82.fconns.length c88, 63, 3, x82.fconns.length, x82.fconns.flatMap Gnet_conn.enc⟩) :: (100470, ⟨.slice A78 x76.length c79, 40, 6, x76.length, x76.flatMap GItem.enc⟩) :: R, φ⟩) (tag := 100470) rfl W hS) hx104) ?_
         rintro ⟨ad105, hA107, f106⟩
         refine g_v rfl (r_ix Try.underlying52 Try.sizeOf40 rfl hA107 rfl hx104) <| g_do rfl rfl rfl rfl rfl h103 ?_
         have f108 := fun (W : World) (h : (Sta.ok ⟨w0, M, (100135, g9, .cells #[.slice A84 x82.fitems.length c85, .slice A87 x82.fconns.length c88, .int .i64 x82.flast, .int .i64 x53.fopens] 61 (0, 0)) :: (100060, g50, .cells #[.int .i64 x42.fNumber, .int .i64 x42.fKind, .int .i64 x42.fFrom, .int .i64 x42.fTo, .int .i64 x42.fConn, .string x42.fBody] 40 (0, 0)) :: (100040, g41, .cells #[.int .i64 x33.fNumber, .int .i64 x33.fKind, .int .i64 x33.fFrom, .int .i64 x33.fTo, .int .i64 x33.fConn, .string x33.fBody] 40 (0, 0)) :: (100020, g32, .cells #[.int .i64 x24.fNumber, .int .i64 x24.fKind, .int .i64 x24.fFrom, .int .i64 x24.fTo, .int .i64 x24.fConn, .string x24.fBody] 40 (0, 0)) :: H, (100520, ⟨.slice A93 x91.length c94, 40, 6, x91.length, x91.flatMap GItem.enc⟩) :: (100130, ⟨.slice A84 x82.fitems.length c85, 40, 6, x82.fitems.length, x82.fitems.flatMap GItem.enc⟩) :: (100131, ⟨.slice A87 x82.fconns.length c88, 63, 3, x82.fconns.length, x82.fconns.flatMap Gnet_conn.enc⟩) :: (100470, ⟨.slice A78 x76.length c79, 40, 6, x76.length, x76.flatMap GItem.enc⟩) :: R, φ⟩) W) => Cl.drop (f106 W h) 1
         refine g_v rfl (r_fieldF Try.underlying40 rfl Try.sizeOf3 rfl) <| g_do rfl rfl rfl rfl rfl h103 <| g_v rfl (r_ld rfl Try.isAgg3 (fun W hS => Cl.head (f108 W hS))) <| g_do rfl rfl rfl rfl rfl h103 <| g_v rfl (r_eql rfl rfl) <| g_v rfl (r_pick1 rfl h103) <| g_v rfl r_move ?_
         refine g_if rfl rfl rfl rfl rfl (fun h109 => ?_) (fun h109 => ?_)
         ·
          replace hm := ite_t hm (of_decide_eq_true h109)
          refine g_v rfl r_move <| g_v rfl (r_pick1 rfl h109) <| g_v rfl r_move ?_
          refine g_if rfl rfl rfl rfl rfl (fun h110 => ?_) (fun h110 => ?_)
          ·
           replace hm := ite_t hm h110
           refine g_v rfl r_move <| g_do rfl rfl rfl rfl rfl h110 <| g_v rfl (r_lenL Try.underlying52 rfl) <| g_do rfl rfl rfl rfl rfl h110 <| g_v rfl (r_eql rfl rfl) <| g_v rfl (r_pick1 rfl h110) <| g_v rfl r_move ?_
           refine g_if rfl rfl rfl rfl rfl (fun h111 => ?_) (fun h111 => ?_)
           ·
            replace hm := ite_t hm (of_decide_eq_true h111)
            refine g_v rfl r_move <| g_do rfl rfl rfl rfl rfl h111 ?_
            replace hm := bnd hm
            obtain ⟨x112, hx112, hm⟩ := hm
            refine g_know _ (fun W hS => cl_at (p := (Sta.ok ⟨w0, M, (100135, g9, .cells #[.slice A84 x82.fitems.length c85, .slice A87 x82.fconns.length c88, .int .i64 x82.flast, .int .i64 x53.fopens] 61 (0, 0)) :: (100060, g50, .cells #[.int .i64 x42.fNumber, .int .i64 x42.fKind, .int .i64 x42.fFrom, .int .i64 x42.fTo, .int .i64 x42.fConn, .string x42.fBody] 40 (0, 0)) :: (100040, g41, .cells #[.int .i64 x33.fNumber, .int .i64 x33.fKind, .int .i64 x33.fFrom, .int .i64 x33.fTo, .int .i64 x33.fConn, .string x33.fBody] 40 (0, 0)) :: (100020, g32, .cells #[.int .i64 x24.fNumber, .int .i64 x24.fKind, .int .i64 x24.fFrom, .int .i64 x24.fTo, .int .i64 x24.fConn, .string x24.fBody] 40 (0, 0)) :: H, (100520, ⟨.slice A93 x91.length c94, 40, 6, x91.length, x91.flatMap GItem.enc⟩) :: (100130, ⟨.slice A84 x82.fitems.length c85, 40, 6, x82.fitems.length, x82.fitems.flatMap GItem.enc⟩) :: (100131, ⟨.slice A87 x82.fconns.length c88, 63, 3, x82.fconns.length, x82.fconns.flatMap Gnet_conn.enc⟩) :: (100470, ⟨.slice A78 x76.length c79, 40, 6, x76.length, x76.flatMap GItem.enc⟩) :: R, φ⟩)) (sz := 6) (fun _ => rfl) (by decide) hS (fun W hS => rowCl (S := ⟨w0, M, (100135, g9, .cells #[.slice A84 x82.fitems.length c85, .slice A87 x82.fconns.length c88, .int .i64 x82.flast, .int .i64 x53.fopens] 61 (0, 0)) :: (100060, g50, .cells #[.int .i64 x42.fNumber, .int .i64 x42.fKind, .int .i64 x42.fFrom, .int .i64 x42.fTo, .int .i64 x42.fConn, .string x42.fBody] 40 (0, 0)) :: (100040, g41, .cells #[.int .i64 x33.fNumber, .int .i64 x33.fKind, .int .i64 x33.fFrom, .int .i64 x33.fTo, .int .i64 x33.fConn, .string x33.fBody] 40 (0, 0)) :: (100020, g32, .cells #[.int .i64 x24.fNumber, .int .i64 x24.fKind, .int .i64 x24.fFrom, .int .i64 x24.fTo, .int .i64 x24.fConn, .string x24.fBody] 40 (0, 0)) :: H, (100520, ⟨.slice A93 x91.length c94, 40, 6, x91.length, x91.flatMap GItem.enc⟩) :: (100130, ⟨.slice A84 x82.fitems.length c85, 40, 6, x82.fitems.length, x82.fitems.flatMap GItem.enc⟩) :: (100131, ⟨.slice A87 x82.fconns.length c88, 63, 3, x82.fconns.length, x82.fconns.flatMap Gnet_conn.enc⟩) :: (100470, ⟨.slice A78 x76.length c79, 40, 6, x76.length, x76.flatMap GItem.enc⟩) :: R, φ⟩) (tag := 100520) rfl W hS) hx112) ?_
            rintro ⟨ad113, hA115, f114⟩
            refine g_v rfl (r_ix Try.underlying52 Try.sizeOf40 rfl hA115 rfl hx112) <| g_do rfl rfl rfl rfl rfl h111 ?_
            have f116 := fun (W : World) (h : (Sta.ok ⟨w0, M, (100135, g9, .cells #[.slice A84 x82.fitems.length c85, .slice A87 x82.fconns.length c88, .int .i64 x82.flast, .int .i64 x53.fopens] 61 (0, 0)) :: (100060, g50, .cells #[.int .i64 x42.fNumber, .int .i64 x42.fKind, .int .i64 x42.fFrom, .int .i64 x42.fTo, .int .i64 x42.fConn, .string x42.fBody] 40 (0, 0)) :: (100040, g41, .cells #[.int .i64 x33.fNumber, .int .i64 x33.fKind, .int .i64 x33.fFrom, .int .i64 x33.fTo, .int .i64 x33.fConn, .string x33.fBody] 40 (0, 0)) :: (100020, g32, .cells #[.int .i64 x24.fNumber, .int .i64 x24.fKind, .int .i64 x24.fFrom, .int .i64 x24.fTo, .int .i64 x24.fConn, .string x24.fBody] 40 (0, 0)) :: H, (100520, ⟨.slice A93 x91.length c94, 40, 6, x91.length, x91.flatMap GItem.enc⟩) :: (100130, ⟨.slice A84 x82.fitems.length c85, 40, 6, x82.fitems.length, x82.fitems.flatMap GItem.enc⟩) :: (100131, ⟨.slice A87 x82.fconns.length c88, 63, 3, x82.fconns.length, x82.fconns.flatMap Gnet_conn.enc⟩) :: (100470, ⟨.slice A78 x76.length c79, 40, 6, x76.length, x76.flatMap GItem.enc⟩) :: R, φ⟩) W) => Cl.drop (f114 W h) 3
            refine g_v rfl (r_fieldF Try.underlying40 rfl Try.sizeOf3 rfl) <| g_do rfl rfl rfl rfl rfl h111 <| g_v rfl (r_ld rfl Try.isAgg3 (fun W hS => Cl.head (f116 W hS))) <| g_do rfl rfl rfl rfl rfl h111 <| g_v rfl (r_eql rfl rfl) <| g_v rfl (r_pick1 rfl h111) <| g_v rfl r_move ?_
            refine g_if rfl rfl rfl rfl rfl (fun h117 => ?_) (fun h117 => ?_)
            ·
             replace hm := ite_t hm (of_decide_eq_true h117)
             refine g_v rfl r_move <| g_do rfl rfl rfl rfl rfl h117 ?_
             replace hm := bnd hm
             obtain ⟨x118, hx118, hm⟩ := hm
             refine g_know _ (fun W hS => cl_at (p := (Sta.ok ⟨w0, M, (100135, g9, .cells #[.slice A84 x82.fitems.length c85, .slice A87 x82.fconns.length c88, .int .i64 x82.flast, .int .i64 x53.fopens] 61 (0, 0)) :: (100060, g50, .cells #[.int .i64 x42.fNumber, .int .i64 x42.fKind, .int .i64 x42.fFrom, .int .i64 x42.fTo, .int .i64 x42.fConn, .string x42.fBody] 40 (0, 0)) :: (100040, g41, .cells #[.int .i64 x33.fNumber, .int .i64 x33.fKind, .int .i64 x33.fFrom, .int .i64 x33.fTo, .int .i64 x33.fConn, .string x33.fBody] 40 (0, 0)) :: (100020, g32, .cells #[.int .i64 x24.fNumber, .int .i64 x24.fKind, .int .i64 x24.fFrom, .int .i64 x24.fTo, .int .i64 x24.fConn, .string x24.fBody] 40 (0, 0)) :: H, (100520, ⟨.slice A93 x91.length c94, 40, 6, x91.length, x91.flatMap GItem.enc⟩) :: (100130, ⟨.slice A84 x82.fitems.length c85, 40, 6, x82.fitems.length, x82.fitems.flatMap GItem.enc⟩) :: (100131, ⟨.slice A87 x82.fconns.length c88, 63, 3, x82.fconns.length, x82.fconns.flatMap Gnet_conn.enc⟩) :: (100470, ⟨.slice A78 x76.length c79, 40, 6, x76.length, x76.flatMap GItem.enc⟩) :: R, φ⟩)) (sz := 6) (fun _ => rfl) (by decide) hS (fun W hS => rowCl (S := ⟨w0, M, (100135, g9, .cells #[.slice A84 x82.fitems.length c85, .slice A87 x82.fconns.length c88, .int .i64 x82.flast, .int .i64 x53.fopens] 61 (0, 0)) :: (100060, g50, .cells #[.int .i64 x42.fNumber, .int .i64 x42.fKind, .int .i64 x42.fFrom, .int .i64 x42.fTo, .int .i64 x42.fConn, .string x42.fBody] 40 (0, 0)) :: (100040, g41, .cells #[.int .i64 x33.fNumber, .int .i64 x33.fKind, .int .i64 x33.fFrom, .int .i64 x33.fTo, .int .i64 x33.fConn, .string x33.fBody] 40 (0, 0)) :: (100020, g32, .cells #[.int .i64 x24.fNumber, .int .i64 x24.fKind, .int .i64 x24.fFrom, .int .i64 x24.fTo, .int .i64 x24.fConn, .string x24.fBody] 40 (0, 0)) :: H, (100520, ⟨.slice A93 x91.length c94, 40, 6, x91.length, x91.flatMap GItem.enc⟩) :: (100130, ⟨.slice A84 x82.fitems.length c85, 40, 6, x82.fitems.length, x82.fitems.flatMap GItem.enc⟩) :: (100131, ⟨.slice A87 x82.fconns.length c88, 63, 3, x82.fconns.length, x82.fconns.flatMap Gnet_conn.enc⟩) :: (100470, ⟨.slice A78 x76.length c79, 40, 6, x76.length, x76.flatMap GItem.enc⟩) :: R, φ⟩) (tag := 100520) rfl W hS) hx118) ?_
             rintro ⟨ad119, hA121, f120⟩
             refine g_v rfl (r_ix Try.underlying52 Try.sizeOf40 rfl hA121 rfl hx118) <| g_do rfl rfl rfl rfl rfl h117 ?_
             have f122 := fun (W : World) (h : (Sta.ok ⟨w0, M, (100135, g9, .cells #[.slice A84 x82.fitems.length c85, .slice A87 x82.fconns.length c88, .int .i64 x82.flast, .int .i64 x53.fopens] 61 (0, 0)) :: (100060, g50, .cells #[.int .i64 x42.fNumber, .int .i64 x42.fKind, .int .i64 x42.fFrom, .int .i64 x42.fTo, .int .i64 x42.fConn, .string x42.fBody] 40 (0, 0)) :: (100040, g41, .cells #[.int .i64 x33.fNumber, .int .i64 x33.fKind, .int .i64 x33.fFrom, .int .i64 x33.fTo, .int .i64 x33.fConn, .string x33.fBody] 40 (0, 0)) :: (100020, g32, .cells #[.int .i64 x24.fNumber, .int .i64 x24.fKind, .int .i64 x24.fFrom, .int .i64 x24.fTo, .int .i64 x24.fConn, .string x24.fBody] 40 (0, 0)) :: H, (100520, ⟨.slice A93 x91.length c94, 40, 6, x91.length, x91.flatMap GItem.enc⟩) :: (100130, ⟨.slice A84 x82.fitems.length c85, 40, 6, x82.fitems.length, x82.fitems.flatMap GItem.enc⟩) :: (100131, ⟨.slice A87 x82.fconns.length c88, 63, 3, x82.fconns.length, x82.fconns.flatMap Gnet_conn.enc⟩) :: (100470, ⟨.slice A78 x76.length c79, 40, 6, x76.length, x76.flatMap GItem.enc⟩) :: R, φ⟩) W) => Cl.drop (f120 W h) 3
             refine g_v rfl (r_fieldF Try.underlying40 rfl Try.sizeOf3 rfl) <| g_do rfl rfl rfl rfl rfl h117 <| g_v rfl (r_ld rfl Try.isAgg3 (fun W hS => Cl.head (f122 W hS))) <| g_do rfl rfl rfl rfl rfl h117 <| g_v rfl (r_eql rfl rfl) <| g_v rfl (r_pick1 rfl h117) <| g_v rfl r_move ?_
             refine g_if rfl rfl rfl rfl rfl (fun h123 => ?_) (fun h123 => ?_)
             ·
              replace hm := ite_t hm (of_decide_eq_true h123)
              refine g_v rfl r_move <| g_do rfl rfl rfl rfl rfl h123 ?_
              replace hm := bnd hm
              obtain ⟨x124, hx124, hm⟩ := hm
              refine g_know _ (fun W hS => cl_at (p := (Sta.ok ⟨w0, M, (100135, g9, .cells #[.slice A84 x82.fitems.length c85, .slice A87 x82.fconns.length c88, .int .i64 x82.flast, .int .i64 x53.fopens] 61 (0, 0)) :: (100060, g50, .cells #[.int .i64 x42.fNumber, .int .i64 x42.fKind, .int .i64 x42.fFrom, .int .i64 x42.fTo, .int .i64 x42.fConn, .string x42.fBody] 40 (0, 0)) :: (100040, g41, .cells #[.int .i64 x33.fNumber, .int .i64 x33.fKind, .int .i64 x33.fFrom, .int .i64 x33.fTo, .int .i64 x33.fConn, .string x33.fBody] 40 (0, 0)) :: (100020, g32, .cells #[.int .i64 x24.fNumber, .int .i64 x24.fKind, .int .i64 x24.fFrom, .int .i64 x24.fTo, .int .i64 x24.fConn, .string x24.fBody] 40 (0, 0)) :: H, (100520, ⟨.slice A93 x91.length c94, 40, 6, x91.length, x91.flatMap GItem.enc⟩) :: (100130, ⟨.slice A84 x82.fitems.length c85, 40, 6, x82.fitems.length, x82.fitems.flatMap GItem.enc⟩) :: (100131, ⟨.slice A87 x82.fconns.length c88, 63, 3, x82.fconns.length, x82.fconns.flatMap Gnet_conn.enc⟩) :: (100470, ⟨.slice A78 x76.length c79, 40, 6, x76.length, x76.flatMap GItem.enc⟩) :: R, φ⟩)) (sz := 6) (fun _ => rfl) (by decide) hS (fun W hS => rowCl (S := ⟨w0, M, (100135, g9, .cells #[.slice A84 x82.fitems.length c85, .slice A87 x82.fconns.length c88, .int .i64 x82.flast, .int .i64 x53.fopens] 61 (0, 0)) :: (100060, g50, .cells #[.int .i64 x42.fNumber, .int .i64 x42.fKind, .int .i64 x42.fFrom, .int .i64 x42.fTo, .int .i64 x42.fConn, .string x42.fBody] 40 (0, 0)) :: (100040, g41, .cells #[.int .i64 x33.fNumber, .int .i64 x33.fKind, .int .i64 x33.fFrom, .int .i64 x33.fTo, .int .i64 x33.fConn, .string x33.fBody] 40 (0, 0)) :: (100020, g32, .cells #[.int .i64 x24.fNumber, .int .i64 x24.fKind, .int .i64 x24.fFrom, .int .i64 x24.fTo, .int .i64 x24.fConn, .string x24.fBody] 40 (0, 0)) :: H, (100520, ⟨.slice A93 x91.length c94, 40, 6, x91.length, x91.flatMap GItem.enc⟩) :: (100130, ⟨.slice A84 x82.fitems.length c85, 40, 6, x82.fitems.length, x82.fitems.flatMap GItem.enc⟩) :: (100131, ⟨.slice A87 x82.fconns.length c88, 63, 3, x82.fconns.length, x82.fconns.flatMap Gnet_conn.enc⟩) :: (100470, ⟨.slice A78 x76.length c79, 40, 6, x76.length, x76.flatMap GItem.enc⟩) :: R, φ⟩) (tag := 100520) rfl W hS) hx124) ?_
              rintro ⟨ad125, hA127, f126⟩
              refine g_v rfl (r_ix Try.underlying52 Try.sizeOf40 rfl hA127 rfl hx124) <| g_do rfl rfl rfl rfl rfl h123 ?_
              have f128 := fun (W : World) (h : (Sta.ok ⟨w0, M, (100135, g9, .cells #[.slice A84 x82.fitems.length c85, .slice A87 x82.fconns.length c88, .int .i64 x82.flast, .int .i64 x53.fopens] 61 (0, 0)) :: (100060, g50, .cells #[.int .i64 x42.fNumber, .int .i64 x42.fKind, .int .i64 x42.fFrom, .int .i64 x42.fTo, .int .i64 x42.fConn, .string x42.fBody] 40 (0, 0)) :: (100040, g41, .cells #[.int .i64 x33.fNumber, .int .i64 x33.fKind, .int .i64 x33.fFrom, .int .i64 x33.fTo, .int .i64 x33.fConn, .string x33.fBody] 40 (0, 0)) :: (100020, g32, .cells #[.int .i64 x24.fNumber, .int .i64 x24.fKind, .int .i64 x24.fFrom, .int .i64 x24.fTo, .int .i64 x24.fConn, .string x24.fBody] 40 (0, 0)) :: H, (100520, ⟨.slice A93 x91.length c94, 40, 6, x91.length, x91.flatMap GItem.enc⟩) :: (100130, ⟨.slice A84 x82.fitems.length c85, 40, 6, x82.fitems.length, x82.fitems.flatMap GItem.enc⟩) :: (100131, ⟨.slice A87 x82.fconns.length c88, 63, 3, x82.fconns.length, x82.fconns.flatMap Gnet_conn.enc⟩) :: (100470, ⟨.slice A78 x76.length c79, 40, 6, x76.length, x76.flatMap GItem.enc⟩) :: R, φ⟩) W) => Cl.drop (f126 W h) 1
              refine g_v rfl (r_fieldF Try.underlying40 rfl Try.sizeOf3 rfl) <| g_do rfl rfl rfl rfl rfl h123 <| g_v rfl (r_ld rfl Try.isAgg3 (fun W hS => Cl.head (f128 W hS))) <| g_do rfl rfl rfl rfl rfl h123 <| g_v rfl (r_eql rfl rfl) <| g_v rfl (r_pick1 rfl h123) <| g_v rfl r_assign <| g_nil <| d_then ?_
              refine c_flat [(0, .bool (decide (x124.fKind = 4)))] ⟨rfl, trivial⟩ (fun u => ?_)
              refine c_sta ⟨w0, M, (100135, g9, .cells #[.slice A84 x82.fitems.length c85, .slice A87 x82.fconns.length c88, .int .i64 x82.flast, .int .i64 x53.fopens] 61 (0, 0)) :: (100060, g50, .cells #[.int .i64 x42.fNumber, .int .i64 x42.fKind, .int .i64 x42.fFrom, .int .i64 x42.fTo, .int .i64 x42.fConn, .string x42.fBody] 40 (0, 0)) :: (100040, g41, .cells #[.int .i64 x33.fNumber, .int .i64 x33.fKind, .int .i64 x33.fFrom, .int .i64 x33.fTo, .int .i64 x33.fConn, .string x33.fBody] 40 (0, 0)) :: (100020, g32, .cells #[.int .i64 x24.fNumber, .int .i64 x24.fKind, .int .i64 x24.fFrom, .int .i64 x24.fTo, .int .i64 x24.fConn, .string x24.fBody] 40 (0, 0)) :: H, (100520, ⟨.slice A93 x91.length c94, 40, 6, x91.length, x91.flatMap GItem.enc⟩) :: (100130, ⟨.slice A84 x82.fitems.length c85, 40, 6, x82.fitems.length, x82.fitems.flatMap GItem.enc⟩) :: (100131, ⟨.slice A87 x82.fconns.length c88, 63, 3, x82.fconns.length, x82.fconns.flatMap Gnet_conn.enc⟩) :: (100470, ⟨.slice A78 x76.length c79, 40, 6, x76.length, x76.flatMap GItem.enc⟩) :: R, φ⟩ (fun _ h => h) <| c_ret ?_
              replace hm := Option.some.inj hm
              subst hm
              refine d_retC () Try.results9 ?_ trivial (fun W h => ok_pre (H1 := [_, _, _, _]) (R1 := [_, _, _, _]) h (fun W hφ => hφ)) (.inr rfl)
              refine res_tmp <| res_nil ?_
              exact rfl
             ·
              replace hm := ite_f hm (of_decide_eq_false h123)
              refine g_no rfl rfl rfl rfl rfl h123 <| g_no rfl rfl rfl rfl rfl h123 <| g_no rfl rfl rfl rfl rfl h123 <| g_no rfl rfl rfl rfl rfl h123 <| g_v rfl (r_pick0 rfl h123) <| g_v rfl r_assign <| g_nil <| d_then ?_
              refine c_flat [(0, .bool false)] ⟨rfl, trivial⟩ (fun u => ?_)
              refine c_sta ⟨w0, M, (100135, g9, .cells #[.slice A84 x82.fitems.length c85, .slice A87 x82.fconns.length c88, .int .i64 x82.flast, .int .i64 x53.fopens] 61 (0, 0)) :: (100060, g50, .cells #[.int .i64 x42.fNumber, .int .i64 x42.fKind, .int .i64 x42.fFrom, .int .i64 x42.fTo, .int .i64 x42.fConn, .string x42.fBody] 40 (0, 0)) :: (100040, g41, .cells #[.int .i64 x33.fNumber, .int .i64 x33.fKind, .int .i64 x33.fFrom, .int .i64 x33.fTo, .int .i64 x33.fConn, .string x33.fBody] 40 (0, 0)) :: (100020, g32, .cells #[.int .i64 x24.fNumber, .int .i64 x24.fKind, .int .i64 x24.fFrom, .int .i64 x24.fTo, .int .i64 x24.fConn, .string x24.fBody] 40 (0, 0)) :: H, (100520, ⟨.slice A93 x91.length c94, 40, 6, x91.length, x91.flatMap GItem.enc⟩) :: (100130, ⟨.slice A84 x82.fitems.length c85, 40, 6, x82.fitems.length, x82.fitems.flatMap GItem.enc⟩) :: (100131, ⟨.slice A87 x82.fconns.length c88, 63, 3, x82.fconns.length, x82.fconns.flatMap Gnet_conn.enc⟩) :: (100470, ⟨.slice A78 x76.length c79, 40, 6, x76.length, x76.flatMap GItem.enc⟩) :: R, φ⟩ (fun _ h => h) <| c_ret ?_
              replace hm := Option.some.inj hm
              subst hm
              refine d_retC () Try.results9 ?_ trivial (fun W h => ok_pre (H1 := [_, _, _, _]) (R1 := [_, _, _, _]) h (fun W hφ => hφ)) (.inr rfl)
              refine res_tmp <| res_nil ?_
              exact rfl
            ·
             replace hm := ite_f hm (of_decide_eq_false h117)
             refine g_no rfl rfl rfl rfl rfl h117 <| g_no rfl rfl rfl rfl rfl h117 <| g_no rfl rfl rfl rfl rfl h117 <| g_no rfl rfl rfl rfl rfl h117 <| g_v rfl (r_pick0 rfl h117) <| g_v rfl r_move <| g_no rfl rfl rfl rfl rfl rfl <| g_no rfl rfl rfl rfl rfl rfl <| g_no rfl rfl rfl rfl rfl rfl <| g_no rfl rfl rfl rfl rfl rfl ?_
             refine g_no rfl rfl rfl rfl rfl rfl <| g_v rfl (r_pick0 rfl rfl) <| g_v rfl r_assign <| g_nil <| d_then ?_
             refine c_flat [(0, .bool false)] ⟨rfl, trivial⟩ (fun u => ?_)
             refine c_sta ⟨w0, M, (100135, g9, .cells #[.slice A84 x82.fitems.length c85, .slice A87 x82.fconns.length c88, .int .i64 x82.flast, .int .i64 x53.fopens] 61 (0, 0)) :: (100060, g50, .cells #[.int .i64 x42.fNumber, .int .i64 x42.fKind, .int .i64 x42.fFrom, .int .i64 x42.fTo, .int .i64 x42.fConn, .string x42.fBody] 40 (0, 0)) :: (100040, g41, .cells #[.int .i64 x33.fNumber, .int .i64 x33.fKind, .int .i64 x33.fFrom, .int .i64 x33.fTo, .int .i64 x33.fConn, .string x33.fBody] 40 (0, 0)) :: (100020, g32, .cells #[.int .i64 x24.fNumber, .int .i64 x24.fKind, .int .i64 x24.fFrom, .int .i64 x24.fTo, .int .i64 x24.fConn, .string x24.fBody] 40 (0, 0)) :: H, (100520, ⟨.slice A93 x91.length c94, 40, 6, x91.length, x91.flatMap GItem.enc⟩) :: (100130, ⟨.slice A84 x82.fitems.length c85, 40, 6, x82.fitems.length, x82.fitems.flatMap GItem.enc⟩) :: (100131, ⟨.slice A87 x82.fconns.length c88, 63, 3, x82.fconns.length, x82.fconns.flatMap Gnet_conn.enc⟩) :: (100470, ⟨.slice A78 x76.length c79, 40, 6, x76.length, x76.flatMap GItem.enc⟩) :: R, φ⟩ (fun _ h => h) <| c_ret ?_
             replace hm := Option.some.inj hm
             subst hm
             refine d_retC () Try.results9 ?_ trivial (fun W h => ok_pre (H1 := [_, _, _, _]) (R1 := [_, _, _, _]) h (fun W hφ => hφ)) (.inr rfl)
             refine res_tmp <| res_nil ?_
             exact rfl
           ·
            replace hm := ite_f hm (of_decide_eq_false h111)
            refine g_no rfl rfl rfl rfl rfl h111 <| g_no rfl rfl rfl rfl rfl h111 <| g_no rfl rfl rfl rfl rfl h111 <| g_no rfl rfl rfl rfl rfl h111 <| g_v rfl (r_pick0 rfl h111) <| g_v rfl r_move <| g_no rfl rfl rfl rfl rfl rfl <| g_no rfl rfl rfl rfl rfl rfl <| g_no rfl rfl rfl rfl rfl rfl <| g_no rfl rfl rfl rfl rfl rfl ?_
            refine g_no rfl rfl rfl rfl rfl rfl <| g_v rfl (r_pick0 rfl rfl) <| g_v rfl r_move <| g_no rfl rfl rfl rfl rfl rfl <| g_no rfl rfl rfl rfl rfl rfl <| g_no rfl rfl rfl rfl rfl rfl <| g_no rfl rfl rfl rfl rfl rfl <| g_no rfl rfl rfl rfl rfl rfl <| g_v rfl (r_pick0 rfl rfl) <| g_v rfl r_assign ?_
            refine g_nil <| d_then ?_
            refine c_flat [(0, .bool false)] ⟨rfl, trivial⟩ (fun u => ?_)
            refine c_sta ⟨w0, M, (100135, g9, .cells #[.slice A84 x82.fitems.length c85, .slice A87 x82.fconns.length c88, .int .i64 x82.flast, .int .i64 x53.fopens] 61 (0, 0)) :: (100060, g50, .cells #[.int .i64 x42.fNumber, .int .i64 x42.fKind, .int .i64 x42.fFrom, .int .i64 x42.fTo, .int .i64 x42.fConn, .string x42.fBody] 40 (0, 0)) :: (100040, g41, .cells #[.int .i64 x33.fNumber, .int .i64 x33.fKind, .int .i64 x33.fFrom, .int .i64 x33.fTo, .int .i64 x33.fConn, .string x33.fBody] 40 (0, 0)) :: (100020, g32, .cells #[.int .i64 x24.fNumber, .int .i64 x24.fKind, .int .i64 x24.fFrom, .int .i64 x24.fTo, .int .i64 x24.fConn, .string x24.fBody] 40 (0, 0)) :: H, (100520, ⟨.slice A93 x91.length c94, 40, 6, x91.length, x91.flatMap GItem.enc⟩) :: (100130, ⟨.slice A84 x82.fitems.length c85, 40, 6, x82.fitems.length, x82.fitems.flatMap GItem.enc⟩) :: (100131, ⟨.slice A87 x82.fconns.length c88, 63, 3, x82.fconns.length, x82.fconns.flatMap Gnet_conn.enc⟩) :: (100470, ⟨.slice A78 x76.length c79, 40, 6, x76.length, x76.flatMap GItem.enc⟩) :: R, φ⟩ (fun _ h => h) <| c_ret ?_
            replace hm := Option.some.inj hm
            subst hm
            refine d_retC () Try.results9 ?_ trivial (fun W h => ok_pre (H1 := [_, _, _, _]) (R1 := [_, _, _, _]) h (fun W hφ => hφ)) (.inr rfl)
            refine res_tmp <| res_nil ?_
            exact rfl
          ·
           replace hm := ite_f hm (bool_nt h110)
           refine g_no rfl rfl rfl rfl rfl h110 <| g_no rfl rfl rfl rfl rfl h110 <| g_v rfl (r_pick0 rfl h110) <| g_v rfl r_move <| g_no rfl rfl rfl rfl rfl rfl <| g_no rfl rfl rfl rfl rfl rfl <| g_no rfl rfl rfl rfl rfl rfl <| g_no rfl rfl rfl rfl rfl rfl <| g_no rfl rfl rfl rfl rfl rfl <| g_v rfl (r_pick0 rfl rfl) ?_
           refine g_v rfl r_move <| g_no rfl rfl rfl rfl rfl rfl <| g_no rfl rfl rfl rfl rfl rfl <| g_no rfl rfl rfl rfl rfl rfl <| g_no rfl rfl rfl rfl rfl rfl <| g_no rfl rfl rfl rfl rfl rfl <| g_v rfl (r_pick0 rfl rfl) <| g_v rfl r_move <| g_no rfl rfl rfl rfl rfl rfl <| g_no rfl rfl rfl rfl rfl rfl ?_
           refine g_no rfl rfl rfl rfl rfl rfl <| g_no rfl rfl rfl rfl rfl rfl <| g_no rfl rfl rfl rfl rfl rfl <| g_v rfl (r_pick0 rfl rfl) <| g_v rfl r_assign <| g_nil <| d_then ?_
           refine c_flat [(0, .bool false)] ⟨rfl, trivial⟩ (fun u => ?_)
           refine c_sta ⟨w0, M, (100135, g9, .cells #[.slice A84 x82.fitems.length c85, .slice A87 x82.fconns.length c88, .int .i64 x82.flast, .int .i64 x53.fopens] 61 (0, 0)) :: (100060, g50, .cells #[.int .i64 x42.fNumber, .int .i64 x42.fKind, .int .i64 x42.fFrom, .int .i64 x42.fTo, .int .i64 x42.fConn, .string x42.fBody] 40 (0, 0)) :: (100040, g41, .cells #[.int .i64 x33.fNumber, .int .i64 x33.fKind, .int .i64 x33.fFrom, .int .i64 x33.fTo, .int .i64 x33.fConn, .string x33.fBody] 40 (0, 0)) :: (100020, g32, .cells #[.int .i64 x24.fNumber, .int .i64 x24.fKind, .int .i64 x24.fFrom, .int .i64 x24.fTo, .int .i64 x24.fConn, .string x24.fBody] 40 (0, 0)) :: H, (100520, ⟨.slice A93 x91.length c94, 40, 6, x91.length, x91.flatMap GItem.enc⟩) :: (100130, ⟨.slice A84 x82.fitems.length c85, 40, 6, x82.fitems.length, x82.fitems.flatMap GItem.enc⟩) :: (100131, ⟨.slice A87 x82.fconns.length c88, 63, 3, x82.fconns.length, x82.fconns.flatMap Gnet_conn.enc⟩) :: (100470, ⟨.slice A78 x76.length c79, 40, 6, x76.length, x76.flatMap GItem.enc⟩) :: R, φ⟩ (fun _ h => h) <| c_ret ?_
           replace hm := Option.some.inj hm
           subst hm
           refine d_retC () Try.results9 ?_ trivial (fun W h => ok_pre (H1 := [_, _, _, _]) (R1 := [_, _, _, _]) h (fun W hφ => hφ)) (.inr rfl)
           refine res_tmp <| res_nil ?_
           exact rfl
         ·
          replace hm := ite_f hm (of_decide_eq_false h109)
          refine g_v rfl (r_pick0 rfl h109) <| g_v rfl r_move <| g_no rfl rfl rfl rfl rfl rfl <| g_no rfl rfl rfl rfl rfl rfl <| g_no rfl rfl rfl rfl rfl rfl <| g_v rfl (r_pick0 rfl rfl) <| g_v rfl r_move <| g_no rfl rfl rfl rfl rfl rfl <| g_no rfl rfl rfl rfl rfl rfl <| g_no rfl rfl rfl rfl rfl rfl ?_
          refine g_no rfl rfl rfl rfl rfl rfl <| g_no rfl rfl rfl rfl rfl rfl <| g_v rfl (r_pick0 rfl rfl) <| g_v rfl r_move <| g_no rfl rfl rfl rfl rfl rfl <| g_no rfl rfl rfl rfl rfl rfl <| g_no rfl rfl rfl rfl rfl rfl <| g_no rfl rfl rfl rfl rfl rfl <| g_no rfl rfl rfl rfl rfl rfl <| g_v rfl (r_pick0 rfl rfl) ?_
          refine g_v rfl r_move <| g_no rfl rfl rfl rfl rfl rfl <| g_no rfl rfl rfl rfl rfl rfl <| g_no rfl rfl rfl rfl rfl rfl <| g_no rfl rfl rfl rfl rfl rfl <| g_no rfl rfl rfl rfl rfl rfl <| g_v rfl (r_pick0 rfl rfl) <| g_v rfl r_assign <| g_nil <| d_then ?_
          refine c_flat [(0, .bool false)] ⟨rfl, trivial⟩ (fun u => ?_)
          refine c_sta ⟨w0, M, (100135, g9, .cells #[.slice A84 x82.fitems.length c85, .slice A87 x82.fconns.length c88, .int .i64 x82.flast, .int .i64 x53.fopens] 61 (0, 0)) :: (100060, g50, .cells #[.int .i64 x42.fNumber, .int .i64 x42.fKind, .int .i64 x42.fFrom, .int .i64 x42.fTo, .int .i64 x42.fConn, .string x42.fBody] 40 (0, 0)) :: (100040, g41, .cells #[.int .i64 x33.fNumber, .int .i64 x33.fKind, .int .i64 x33.fFrom, .int .i64 x33.fTo, .int .i64 x33.fConn, .string x33.fBody] 40 (0, 0)) :: (100020, g32, .cells #[.int .i64 x24.fNumber, .int .i64 x24.fKind, .int .i64 x24.fFrom, .int .i64 x24.fTo, .int .i64 x24.fConn, .string x24.fBody] 40 (0, 0)) :: H, (100520, ⟨.slice A93 x91.length c94, 40, 6, x91.length, x91.flatMap GItem.enc⟩) :: (100130, ⟨.slice A84 x82.fitems.length c85, 40, 6, x82.fitems.length, x82.fitems.flatMap GItem.enc⟩) :: (100131, ⟨.slice A87 x82.fconns.length c88, 63, 3, x82.fconns.length, x82.fconns.flatMap Gnet_conn.enc⟩) :: (100470, ⟨.slice A78 x76.length c79, 40, 6, x76.length, x76.flatMap GItem.enc⟩) :: R, φ⟩ (fun _ h => h) <| c_ret ?_
          replace hm := Option.some.inj hm
          subst hm
          refine d_retC () Try.results9 ?_ trivial (fun W h => ok_pre (H1 := [_, _, _, _]) (R1 := [_, _, _, _]) h (fun W hφ => hφ)) (.inr rfl)
          refine res_tmp <| res_nil ?_
          exact rfl
        ·
         replace hm := ite_f hm (of_decide_eq_false h103)
         refine g_no rfl rfl rfl rfl rfl h103 <| g_no rfl rfl rfl rfl rfl h103 <| g_no rfl rfl rfl rfl rfl h103 <| g_no rfl rfl rfl rfl rfl h103 <| g_v rfl (r_pick0 rfl h103) <| g_v rfl r_move <| g_no rfl rfl rfl rfl rfl rfl <| g_v rfl (r_pick0 rfl rfl) <| g_v rfl r_move <| g_no rfl rfl rfl rfl rfl rfl ?_
         refine g_no rfl rfl rfl rfl rfl rfl <| g_no rfl rfl rfl rfl rfl rfl <| g_v rfl (r_pick0 rfl rfl) <| g_v rfl r_move <| g_no rfl rfl rfl rfl rfl rfl <| g_no rfl rfl rfl rfl rfl rfl <| g_no rfl rfl rfl rfl rfl rfl <| g_no rfl rfl rfl rfl rfl rfl <| g_no rfl rfl rfl rfl rfl rfl <| g_v rfl (r_pick0 rfl rfl) ?_
         refine g_v rfl r_move <| g_no rfl rfl rfl rfl rfl rfl <| g_no rfl rfl rfl rfl rfl rfl <| g_no rfl rfl rfl rfl rfl rfl <| g_no rfl rfl rfl rfl rfl rfl <| g_no rfl rfl rfl rfl rfl rfl <| g_v rfl (r_pick0 rfl rfl) <| g_v rfl r_move <| g_no rfl rfl rfl rfl rfl rfl <| g_no rfl rfl rfl rfl rfl rfl ?_
         refine g_no rfl rfl rfl rfl rfl rfl <| g_no rfl rfl rfl rfl rfl rfl <| g_no rfl rfl rfl rfl rfl rfl <| g_v rfl (r_pick0 rfl rfl) <| g_v rfl r_assign <| g_nil <| d_then ?_
         refine c_flat [(0, .bool false)] ⟨rfl, trivial⟩ (fun u => ?_)
         refine c_sta ⟨w0, M, (100135, g9, .cells #[.slice A84 x82.fitems.length c85, .slice A87 x82.fconns.length c88, .int .i64 x82.flast, .int .i64 x53.fopens] 61 (0, 0)) :: (100060, g50, .cells #[.int .i64 x42.fNumber, .int .i64 x42.fKind, .int .i64 x42.fFrom, .int .i64 x42.fTo, .int .i64 x42.fConn, .string x42.fBody] 40 (0, 0)) :: (100040, g41, .cells #[.int .i64 x33.fNumber, .int .i64 x33.fKind, .int .i64 x33.fFrom, .int .i64 x33.fTo, .int .i64 x33.fConn, .string x33.fBody] 40 (0, 0)) :: (100020, g32, .cells #[.int .i64 x24.fNumber, .int .i64 x24.fKind, .int .i64 x24.fFrom, .int .i64 x24.fTo, .int .i64 x24.fConn, .string x24.fBody] 40 (0, 0)) :: H, (100520, ⟨.slice A93 x91.length c94, 40, 6, x91.length, x91.flatMap GItem.enc⟩) :: (100130, ⟨.slice A84 x82.fitems.length c85, 40, 6, x82.fitems.length, x82.fitems.flatMap GItem.enc⟩) :: (100131, ⟨.slice A87 x82.fconns.length c88, 63, 3, x82.fconns.length, x82.fconns.flatMap Gnet_conn.enc⟩) :: (100470, ⟨.slice A78 x76.length c79, 40, 6, x76.length, x76.flatMap GItem.enc⟩) :: R, φ⟩ (fun _ h => h) <| c_ret ?_
         replace hm := Option.some.inj hm
         subst hm
         refine d_retC () Try.results9 ?_ trivial (fun W h => ok_pre (H1 := [_, _, _, _]) (R1 := [_, _, _, _]) h (fun W hφ => hφ)) (.inr rfl)
         refine res_tmp <| res_nil ?_
         exact rfl
       ·
        replace hm := ite_f hm (bool_nt h102)
        refine g_no rfl rfl rfl rfl rfl h102 <| g_no rfl rfl rfl rfl rfl h102 <| g_v rfl (r_pick0 rfl h102) <| g_v rfl r_move <| g_no rfl rfl rfl rfl rfl rfl <| g_no rfl rfl rfl rfl rfl rfl <| g_no rfl rfl rfl rfl rfl rfl <| g_no rfl rfl rfl rfl rfl rfl <| g_no rfl rfl rfl rfl rfl rfl <| g_v rfl (r_pick0 rfl rfl) ?_
        refine g_v rfl r_move <| g_no rfl rfl rfl rfl rfl rfl <| g_v rfl (r_pick0 rfl rfl) <| g_v rfl r_move <| g_no rfl rfl rfl rfl rfl rfl <| g_no rfl rfl rfl rfl rfl rfl <| g_no rfl rfl rfl rfl rfl rfl <| g_v rfl (r_pick0 rfl rfl) <| g_v rfl r_move <| g_no rfl rfl rfl rfl rfl rfl ?_
        refine g_no rfl rfl rfl rfl rfl rfl <| g_no rfl rfl rfl rfl rfl rfl <| g_no rfl rfl rfl rfl rfl rfl <| g_no rfl rfl rfl rfl rfl rfl <| g_v rfl (r_pick0 rfl rfl) <| g_v rfl r_move <| g_no rfl rfl rfl rfl rfl rfl <| g_no rfl rfl rfl rfl rfl rfl <| g_no rfl rfl rfl rfl rfl rfl <| g_no rfl rfl rfl rfl rfl rfl ?_
        refine g_no rfl rfl rfl rfl rfl rfl <| g_v rfl (r_pick0 rfl rfl) <| g_v rfl r_move <| g_no rfl rfl rfl rfl rfl rfl <| g_no rfl rfl rfl rfl rfl rfl <| g_no rfl rfl rfl rfl rfl rfl <| g_no rfl rfl rfl rfl rfl rfl <| g_no rfl rfl rfl rfl rfl rfl <| g_v rfl (r_pick0 rfl rfl) <| g_v rfl r_assign ?_
        refine g_nil <| d_then ?_
        refine c_flat [(0, .bool false)] ⟨rfl, trivial⟩ (fun u => ?_)
        refine c_sta ⟨w0, M, (100135, g9, .cells #[.slice A84 x82.fitems.length c85, .slice A87 x82.fconns.length c88, .int .i64 x82.flast, .int .i64 x53.fopens] 61 (0, 0)) :: (100060, g50, .cells #[.int .i64 x42.fNumber, .int .i64 x42.fKind, .int .i64 x42.fFrom, .int .i64 x42.fTo, .int .i64 x42.fConn, .string x42.fBody] 40 (0, 0)) :: (100040, g41, .cells #[.int .i64 x33.fNumber, .int .i64 x33.fKind, .int .i64 x33.fFrom, .int .i64 x33.fTo, .int .i64 x33.fConn, .string x33.fBody] 40 (0, 0)) :: (100020, g32, .cells #[.int .i64 x24.fNumber, .int .i64 x24.fKind, .int .i64 x24.fFrom, .int .i64 x24.fTo, .int .i64 x24.fConn, .string x24.fBody] 40 (0, 0)) :: H, (100520, ⟨.slice A93 x91.length c94, 40, 6, x91.length, x91.flatMap GItem.enc⟩) :: (100130, ⟨.slice A84 x82.fitems.length c85, 40, 6, x82.fitems.length, x82.fitems.flatMap GItem.enc⟩) :: (100131, ⟨.slice A87 x82.fconns.length c88, 63, 3, x82.fconns.length, x82.fconns.flatMap Gnet_conn.enc⟩) :: (100470, ⟨.slice A78 x76.length c79, 40, 6, x76.length, x76.flatMap GItem.enc⟩) :: R, φ⟩ (fun _ h => h) <| c_ret ?_
        replace hm := Option.some.inj hm
        subst hm
        refine d_retC () Try.results9 ?_ trivial (fun W h => ok_pre (H1 := [_, _, _, _]) (R1 := [_, _, _, _]) h (fun W hφ => hφ)) (.inr rfl)
        refine res_tmp <| res_nil ?_
        exact rfl
      ·
       replace hm := ite_f hm (of_decide_eq_false h101)
       refine g_v rfl (r_pick0 rfl h101) <| g_v rfl r_move <| g_no rfl rfl rfl rfl rfl rfl <| g_no rfl rfl rfl rfl rfl rfl <| g_no rfl rfl rfl rfl rfl rfl <| g_v rfl (r_pick0 rfl rfl) <| g_v rfl r_move <| g_no rfl rfl rfl rfl rfl rfl <| g_no rfl rfl rfl rfl rfl rfl <| g_no rfl rfl rfl rfl rfl rfl ?_
       refine g_no rfl rfl rfl rfl rfl rfl <| g_no rfl rfl rfl rfl rfl rfl <| g_v rfl (r_pick0 rfl rfl) <| g_v rfl r_move <| g_no rfl rfl rfl rfl rfl rfl <| g_v rfl (r_pick0 rfl rfl) <| g_v rfl r_move <| g_no rfl rfl rfl rfl rfl rfl <| g_no rfl rfl rfl rfl rfl rfl <| g_no rfl rfl rfl rfl rfl rfl ?_
       refine g_v rfl (r_pick0 rfl rfl) <| g_v rfl r_move <| g_no rfl rfl rfl rfl rfl rfl <| g_no rfl rfl rfl rfl rfl rfl <| g_no rfl rfl rfl rfl rfl rfl <| g_no rfl rfl rfl rfl rfl rfl <| g_no rfl rfl rfl rfl rfl rfl <| g_v rfl (r_pick0 rfl rfl) <| g_v rfl r_move <| g_no rfl rfl rfl rfl rfl rfl ?_
       refine g_no rfl rfl rfl rfl rfl rfl <| g_no rfl rfl rfl rfl rfl rfl <| g_no rfl rfl rfl rfl rfl rfl <| g_no rfl rfl rfl rfl rfl rfl <| g_v rfl (r_pick0 rfl rfl) <| g_v rfl r_move <| g_no rfl rfl rfl rfl rfl rfl <| g_no rfl rfl rfl rfl rfl rfl <| g_no rfl rfl rfl rfl rfl rfl <| g_no rfl rfl rfl rfl rfl rfl ?_
       refine g_no rfl rfl rfl rfl rfl rfl <| g_v rfl (r_pick0 rfl rfl) <| g_v rfl r_assign <| g_nil <| d_then ?_
       refine c_flat [(0, .bool false)] ⟨rfl, trivial⟩ (fun u => ?_)
       refine c_sta ⟨w0, M, (100135, g9, .cells #[.slice A84 x82.fitems.length c85, .slice A87 x82.fconns.length c88, .int .i64 x82.flast, .int .i64 x53.fopens] 61 (0, 0)) :: (100060, g50, .cells #[.int .i64 x42.fNumber, .int .i64 x42.fKind, .int .i64 x42.fFrom, .int .i64 x42.fTo, .int .i64 x42.fConn, .string x42.fBody] 40 (0, 0)) :: (100040, g41, .cells #[.int .i64 x33.fNumber, .int .i64 x33.fKind, .int .i64 x33.fFrom, .int .i64 x33.fTo, .int .i64 x33.fConn, .string x33.fBody] 40 (0, 0)) :: (100020, g32, .cells #[.int .i64 x24.fNumber, .int .i64 x24.fKind, .int .i64 x24.fFrom, .int .i64 x24.fTo, .int .i64 x24.fConn, .string x24.fBody] 40 (0, 0)) :: H, (100520, ⟨.slice A93 x91.length c94, 40, 6, x91.length, x91.flatMap GItem.enc⟩) :: (100130, ⟨.slice A84 x82.fitems.length c85, 40, 6, x82.fitems.length, x82.fitems.flatMap GItem.enc⟩) :: (100131, ⟨.slice A87 x82.fconns.length c88, 63, 3, x82.fconns.length, x82.fconns.flatMap Gnet_conn.enc⟩) :: (100470, ⟨.slice A78 x76.length c79, 40, 6, x76.length, x76.flatMap GItem.enc⟩) :: R, φ⟩ (fun _ h => h) <| c_ret ?_
       replace hm := Option.some.inj hm
       subst hm
       refine d_retC () Try.results9 ?_ trivial (fun W h => ok_pre (H1 := [_, _, _, _]) (R1 := [_, _, _, _]) h (fun W hφ => hφ)) (.inr rfl)
       refine res_tmp <| res_nil ?_
       exact rfl
     ·
      have h100' : x43 = true := by revert h100; cases x43 <;> simp
      replace hm := ite_t hm h100'
      refine g_no rfl rfl rfl rfl rfl h100 <| g_v rfl (r_pick0 rfl h100) <| g_v rfl r_move <| g_no rfl rfl rfl rfl rfl rfl <| g_v rfl (r_pick0 rfl rfl) <| g_v rfl r_move <| g_no rfl rfl rfl rfl rfl rfl <| g_no rfl rfl rfl rfl rfl rfl <| g_no rfl rfl rfl rfl rfl rfl <| g_v rfl (r_pick0 rfl rfl) ?_
      refine g_v rfl r_move <| g_no rfl rfl rfl rfl rfl rfl <| g_no rfl rfl rfl rfl rfl rfl <| g_no rfl rfl rfl rfl rfl rfl <| g_no rfl rfl rfl rfl rfl rfl <| g_no rfl rfl rfl rfl rfl rfl <| g_v rfl (r_pick0 rfl rfl) <| g_v rfl r_move <| g_no rfl rfl rfl rfl rfl rfl <| g_v rfl (r_pick0 rfl rfl) ?_
      refine g_v rfl r_move <| g_no rfl rfl rfl rfl rfl rfl <| g_no rfl rfl rfl rfl rfl rfl <| g_no rfl rfl rfl rfl rfl rfl <| g_v rfl (r_pick0 rfl rfl) <| g_v rfl r_move <| g_no rfl rfl rfl rfl rfl rfl <| g_no rfl rfl rfl rfl rfl rfl <| g_no rfl rfl rfl rfl rfl rfl <| g_no rfl rfl rfl rfl rfl rfl ?_
      refine g_no rfl rfl rfl rfl rfl rfl <| g_v rfl (r_pick0 rfl rfl) <| g_v rfl r_move <| g_no rfl rfl rfl rfl rfl rfl <| g_no rfl rfl rfl rfl rfl rfl <| g_no rfl rfl rfl rfl rfl rfl <| g_no rfl rfl rfl rfl rfl rfl <| g_no rfl rfl rfl rfl rfl rfl <| g_v rfl (r_pick0 rfl rfl) <| g_v rfl r_move ?_
      refine g_no rfl rfl rfl rfl rfl rfl <| g_no rfl rfl rfl rfl rfl rfl <| g_no rfl rfl rfl rfl rfl rfl <| g_no rfl rfl rfl rfl rfl rfl <| g_no rfl rfl rfl rfl rfl rfl <| g_v rfl (r_pick0 rfl rfl) <| g_v rfl r_assign <| g_nil <| d_then ?_
      refine c_flat [(0, .bool false)] ⟨rfl, trivial⟩ (fun u => ?_)
      refine c_sta ⟨w0, M, (100135, g9, .cells #[.slice A84 x82.fitems.length c85, .slice A87 x82.fconns.length c88, .int .i64 x82.flast, .int .i64 x53.fopens] 61 (0, 0)) :: (100060, g50, .cells #[.int .i64 x42.fNumber, .int .i64 x42.fKind, .int .i64 x42.fFrom, .int .i64 x42.fTo, .int .i64 x42.fConn, .string x42.fBody] 40 (0, 0)) :: (100040, g41, .cells #[.int .i64 x33.fNumber, .int .i64 x33.fKind, .int .i64 x33.fFrom, .int .i64 x33.fTo, .int .i64 x33.fConn, .string x33.fBody] 40 (0, 0)) :: (100020, g32, .cells #[.int .i64 x24.fNumber, .int .i64 x24.fKind, .int .i64 x24.fFrom, .int .i64 x24.fTo, .int .i64 x24.fConn, .string x24.fBody] 40 (0, 0)) :: H, (100520, ⟨.slice A93 x91.length c94, 40, 6, x91.length, x91.flatMap GItem.enc⟩) :: (100130, ⟨.slice A84 x82.fitems.length c85, 40, 6, x82.fitems.length, x82.fitems.flatMap GItem.enc⟩) :: (100131, ⟨.slice A87 x82.fconns.length c88, 63, 3, x82.fconns.length, x82.fconns.flatMap Gnet_conn.enc⟩) :: (100470, ⟨.slice A78 x76.length c79, 40, 6, x76.length, x76.flatMap GItem.enc⟩) :: R, φ⟩ (fun _ h => h) <| c_ret ?_
      replace hm := Option.some.inj hm
      subst hm
      refine d_retC () Try.results9 ?_ trivial (fun W h => ok_pre (H1 := [_, _, _, _]) (R1 := [_, _, _, _]) h (fun W hφ => hφ)) (.inr rfl)
      refine res_tmp <| res_nil ?_
      exact rfl
    ·
     replace hm := ite_f hm (bool_nt h99)
     refine g_no rfl rfl rfl rfl rfl h99 <| g_v rfl (r_pick0 rfl h99) <| g_v rfl r_move <| g_no rfl rfl rfl rfl rfl rfl <| g_no rfl rfl rfl rfl rfl rfl <| g_v rfl (r_pick0 rfl rfl) <| g_v rfl r_move <| g_no rfl rfl rfl rfl rfl rfl <| g_v rfl (r_pick0 rfl rfl) <| g_v rfl r_move ?_
     refine g_no rfl rfl rfl rfl rfl rfl <| g_no rfl rfl rfl rfl rfl rfl <| g_no rfl rfl rfl rfl rfl rfl <| g_v rfl (r_pick0 rfl rfl) <| g_v rfl r_move <| g_no rfl rfl rfl rfl rfl rfl <| g_no rfl rfl rfl rfl rfl rfl <| g_no rfl rfl rfl rfl rfl rfl <| g_no rfl rfl rfl rfl rfl rfl <| g_no rfl rfl rfl rfl rfl rfl ?_
     refine g_v rfl (r_pick0 rfl rfl) <| g_v rfl r_move <| g_no rfl rfl rfl rfl rfl rfl <| g_v rfl (r_pick0 rfl rfl) <| g_v rfl r_move <| g_no rfl rfl rfl rfl rfl rfl <| g_no rfl rfl rfl rfl rfl rfl <| g_no rfl rfl rfl rfl rfl rfl <| g_v rfl (r_pick0 rfl rfl) <| g_v rfl r_move ?_
     refine g_no rfl rfl rfl rfl rfl rfl <| g_no rfl rfl rfl rfl rfl rfl <| g_no rfl rfl rfl rfl rfl rfl <| g_no rfl rfl rfl rfl rfl rfl <| g_no rfl rfl rfl rfl rfl rfl <| g_v rfl (r_pick0 rfl rfl) <| g_v rfl r_move <| g_no rfl rfl rfl rfl rfl rfl <| g_no rfl rfl rfl rfl rfl rfl <| g_no rfl rfl rfl rfl rfl rfl ?_
     refine g_no rfl rfl rfl rfl rfl rfl <| g_no rfl rfl rfl rfl rfl rfl <| g_v rfl (r_pick0 rfl rfl) <| g_v rfl r_move <| g_no rfl rfl rfl rfl rfl rfl <| g_no rfl rfl rfl rfl rfl rfl <| g_no rfl rfl rfl rfl rfl rfl <| g_no rfl rfl rfl rfl rfl rfl <| g_no rfl rfl rfl rfl rfl rfl <| g_v rfl (r_pick0 rfl rfl) ?_
     refine g_v rfl r_assign <| g_nil <| d_then ?_
     refine c_flat [(0, .bool false)] ⟨rfl, trivial⟩ (fun u => ?_)
     refine c_sta ⟨w0, M, (100135, g9, .cells #[.slice A84 x82.fitems.length c85, .slice A87 x82.fconns.length c88, .int .i64 x82.flast, .int .i64 x53.fopens] 61 (0, 0)) :: (100060, g50, .cells #[.int .i64 x42.fNumber, .int .i64 x42.fKind, .int .i64 x42.fFrom, .int .i64 x42.fTo, .int .i64 x42.fConn, .string x42.fBody] 40 (0, 0)) :: (100040, g41, .cells #[.int .i64 x33.fNumber, .int .i64 x33.fKind, .int .i64 x33.fFrom, .int .i64 x33.fTo, .int .i64 x33.fConn, .string x33.fBody] 40 (0, 0)) :: (100020, g32, .cells #[.int .i64 x24.fNumber, .int .i64 x24.fKind, .int .i64 x24.fFrom, .int .i64 x24.fTo, .int .i64 x24.fConn, .string x24.fBody] 40 (0, 0)) :: H, (100520, ⟨.slice A93 x91.length c94, 40, 6, x91.length, x91.flatMap GItem.enc⟩) :: (100130, ⟨.slice A84 x82.fitems.length c85, 40, 6, x82.fitems.length, x82.fitems.flatMap GItem.enc⟩) :: (100131, ⟨.slice A87 x82.fconns.length c88, 63, 3, x82.fconns.length, x82.fconns.flatMap Gnet_conn.enc⟩) :: (100470, ⟨.slice A78 x76.length c79, 40, 6, x76.length, x76.flatMap GItem.enc⟩) :: R, φ⟩ (fun _ h => h) <| c_ret ?_
     replace hm := Option.some.inj hm
     subst hm
     refine d_retC () Try.results9 ?_ trivial (fun W h => ok_pre (H1 := [_, _, _, _]) (R1 := [_, _, _, _]) h (fun W hφ => hφ)) (.inr rfl)
     refine res_tmp <| res_nil ?_
     exact rfl
   ·
    replace hm := ite_f hm (of_decide_eq_false h98)
    refine g_v rfl (r_pick0 rfl h98) <| g_v rfl r_move <| g_no rfl rfl rfl rfl rfl rfl <| g_no rfl rfl rfl rfl rfl rfl <| g_v rfl (r_pick0 rfl rfl) <| g_v rfl r_move <| g_no rfl rfl rfl rfl rfl rfl <| g_no rfl rfl rfl rfl rfl rfl <| g_v rfl (r_pick0 rfl rfl) <| g_v rfl r_move ?_
    refine g_no rfl rfl rfl rfl rfl rfl <| g_v rfl (r_pick0 rfl rfl) <| g_v rfl r_move <| g_no rfl rfl rfl rfl rfl rfl <| g_no rfl rfl rfl rfl rfl rfl <| g_no rfl rfl rfl rfl rfl rfl <| g_v rfl (r_pick0 rfl rfl) <| g_v rfl r_move <| g_no rfl rfl rfl rfl rfl rfl <| g_no rfl rfl rfl rfl rfl rfl ?_
    refine g_no rfl rfl rfl rfl rfl rfl <| g_no rfl rfl rfl rfl rfl rfl <| g_no rfl rfl rfl rfl rfl rfl <| g_v rfl (r_pick0 rfl rfl) <| g_v rfl r_move <| g_no rfl rfl rfl rfl rfl rfl <| g_v rfl (r_pick0 rfl rfl) <| g_v rfl r_move <| g_no rfl rfl rfl rfl rfl rfl <| g_no rfl rfl rfl rfl rfl rfl ?_
    refine g_no rfl rfl rfl rfl rfl rfl <| g_v rfl (r_pick0 rfl rfl) <| g_v rfl r_move <| g_no rfl rfl rfl rfl rfl rfl <| g_no rfl rfl rfl rfl rfl rfl <| g_no rfl rfl rfl rfl rfl rfl <| g_no rfl rfl rfl rfl rfl rfl <| g_no rfl rfl rfl rfl rfl rfl <| g_v rfl (r_pick0 rfl rfl) <| g_v rfl r_move ?_
    refine g_no rfl rfl rfl rfl rfl rfl <| g_no rfl rfl rfl rfl rfl rfl <| g_no rfl rfl rfl rfl rfl rfl <| g_no rfl rfl rfl rfl rfl rfl <| g_no rfl rfl rfl rfl rfl rfl <| g_v rfl (r_pick0 rfl rfl) <| g_v rfl r_move <| g_no rfl rfl rfl rfl rfl rfl <| g_no rfl rfl rfl rfl rfl rfl <| g_no rfl rfl rfl rfl rfl rfl ?_
    refine g_no rfl rfl rfl rfl rfl rfl <| g_no rfl rfl rfl rfl rfl rfl <| g_v rfl (r_pick0 rfl rfl) <| g_v rfl r_assign <| g_nil <| d_then ?_
    refine c_flat [(0, .bool false)] ⟨rfl, trivial⟩ (fun u => ?_)
    refine c_sta ⟨w0, M, (100135, g9, .cells #[.slice A84 x82.fitems.length c85, .slice A87 x82.fconns.length c88, .int .i64 x82.flast, .int .i64 x53.fopens] 61 (0, 0)) :: (100060, g50, .cells #[.int .i64 x42.fNumber, .int .i64 x42.fKind, .int .i64 x42.fFrom, .int .i64 x42.fTo, .int .i64 x42.fConn, .string x42.fBody] 40 (0, 0)) :: (100040, g41, .cells #[.int .i64 x33.fNumber, .int .i64 x33.fKind, .int .i64 x33.fFrom, .int .i64 x33.fTo, .int .i64 x33.fConn, .string x33.fBody] 40 (0, 0)) :: (100020, g32, .cells #[.int .i64 x24.fNumber, .int .i64 x24.fKind, .int .i64 x24.fFrom, .int .i64 x24.fTo, .int .i64 x24.fConn, .string x24.fBody] 40 (0, 0)) :: H, (100520, ⟨.slice A93 x91.length c94, 40, 6, x91.length, x91.flatMap GItem.enc⟩) :: (100130, ⟨.slice A84 x82.fitems.length c85, 40, 6, x82.fitems.length, x82.fitems.flatMap GItem.enc⟩) :: (100131, ⟨.slice A87 x82.fconns.length c88, 63, 3, x82.fconns.length, x82.fconns.flatMap Gnet_conn.enc⟩) :: (100470, ⟨.slice A78 x76.length c79, 40, 6, x76.length, x76.flatMap GItem.enc⟩) :: R, φ⟩ (fun _ h => h) <| c_ret ?_
    replace hm := Option.some.inj hm
    subst hm
    refine d_retC () Try.results9 ?_ trivial (fun W h => ok_pre (H1 := [_, _, _, _]) (R1 := [_, _, _, _]) h (fun W hφ => hφ)) (.inr rfl)
    refine res_tmp <| res_nil ?_
    exact rfl
  ·
   replace hm := ite_f hm (bool_nt h97)
   refine g_no rfl rfl rfl rfl rfl h97 <| g_no rfl rfl rfl rfl rfl h97 <| g_v rfl (r_pick0 rfl h97) <| g_v rfl r_move <| g_no rfl rfl rfl rfl rfl rfl <| g_v rfl (r_pick0 rfl rfl) <| g_v rfl r_move <| g_no rfl rfl rfl rfl rfl rfl <| g_no rfl rfl rfl rfl rfl rfl <| g_v rfl (r_pick0 rfl rfl) ?_
   refine g_v rfl r_move <| g_no rfl rfl rfl rfl rfl rfl <| g_no rfl rfl rfl rfl rfl rfl <| g_v rfl (r_pick0 rfl rfl) <| g_v rfl r_move <| g_no rfl rfl rfl rfl rfl rfl <| g_v rfl (r_pick0 rfl rfl) <| g_v rfl r_move <| g_no rfl rfl rfl rfl rfl rfl <| g_no rfl rfl rfl rfl rfl rfl ?_
   refine g_no rfl rfl rfl rfl rfl rfl <| g_v rfl (r_pick0 rfl rfl) <| g_v rfl r_move <| g_no rfl rfl rfl rfl rfl rfl <| g_no rfl rfl rfl rfl rfl rfl <| g_no rfl rfl rfl rfl rfl rfl <| g_no rfl rfl rfl rfl rfl rfl <| g_no rfl rfl rfl rfl rfl rfl <| g_v rfl (r_pick0 rfl rfl) <| g_v rfl r_move ?_
   refine g_no rfl rfl rfl rfl rfl rfl <| g_v rfl (r_pick0 rfl rfl) <| g_v rfl r_move <| g_no rfl rfl rfl rfl rfl rfl <| g_no rfl rfl rfl rfl rfl rfl <| g_no rfl rfl rfl rfl rfl rfl <| g_v rfl (r_pick0 rfl rfl) <| g_v rfl r_move <| g_no rfl rfl rfl rfl rfl rfl <| g_no rfl rfl rfl rfl rfl rfl ?_
   refine g_no rfl rfl rfl rfl rfl rfl <| g_no rfl rfl rfl rfl rfl rfl <| g_no rfl rfl rfl rfl rfl rfl <| g_v rfl (r_pick0 rfl rfl) <| g_v rfl r_move <| g_no rfl rfl rfl rfl rfl rfl <| g_no rfl rfl rfl rfl rfl rfl <| g_no rfl rfl rfl rfl rfl rfl <| g_no rfl rfl rfl rfl rfl rfl <| g_no rfl rfl rfl rfl rfl rfl ?_
   refine g_v rfl (r_pick0 rfl rfl) <| g_v rfl r_move <| g_no rfl rfl rfl rfl rfl rfl <| g_no rfl rfl rfl rfl rfl rfl <| g_no rfl rfl rfl rfl rfl rfl <| g_no rfl rfl rfl rfl rfl rfl <| g_no rfl rfl rfl rfl rfl rfl <| g_v rfl (r_pick0 rfl rfl) <| g_v rfl r_assign <| g_nil ?_
   refine d_then ?_
   refine c_flat [(0, .bool false)] ⟨rfl, trivial⟩ (fun u => ?_)
   refine c_sta ⟨w0, M, (100135, g9, .cells #[.slice A84 x82.fitems.length c85, .slice A87 x82.fconns.length c88, .int .i64 x82.flast, .int .i64 x53.fopens] 61 (0, 0)) :: (100060, g50, .cells #[.int .i64 x42.fNumber, .int .i64 x42.fKind, .int .i64 x42.fFrom, .int .i64 x42.fTo, .int .i64 x42.fConn, .string x42.fBody] 40 (0, 0)) :: (100040, g41, .cells #[.int .i64 x33.fNumber, .int .i64 x33.fKind, .int .i64 x33.fFrom, .int .i64 x33.fTo, .int .i64 x33.fConn, .string x33.fBody] 40 (0, 0)) :: (100020, g32, .cells #[.int .i64 x24.fNumber, .int .i64 x24.fKind, .int .i64 x24.fFrom, .int .i64 x24.fTo, .int .i64 x24.fConn, .string x24.fBody] 40 (0, 0)) :: H, (100520, ⟨.slice A93 x91.length c94, 40, 6, x91.length, x91.flatMap GItem.enc⟩) :: (100130, ⟨.slice A84 x82.fitems.length c85, 40, 6, x82.fitems.length, x82.fitems.flatMap GItem.enc⟩) :: (100131, ⟨.slice A87 x82.fconns.length c88, 63, 3, x82.fconns.length, x82.fconns.flatMap Gnet_conn.enc⟩) :: (100470, ⟨.slice A78 x76.length c79, 40, 6, x76.length, x76.flatMap GItem.enc⟩) :: R, φ⟩ (fun _ h => h) <| c_ret ?_
   replace hm := Option.some.inj hm
   subst hm
   refine d_retC () Try.results9 ?_ trivial (fun W h => ok_pre (H1 := [_, _, _, _]) (R1 := [_, _, _, _]) h (fun W hφ => hφ)) (.inr rfl)
   refine res_tmp <| res_nil ?_
   exact rfl
 ·
  replace hm := ite_f hm (of_decide_eq_false h96)
  refine g_v rfl (r_pick0 rfl h96) <| g_v rfl r_move <| g_no rfl rfl rfl rfl rfl rfl <| g_no rfl rfl rfl rfl rfl rfl <| g_no rfl rfl rfl rfl rfl rfl <| g_v rfl (r_pick0 rfl rfl) <| g_v rfl r_move <| g_no rfl rfl rfl rfl rfl rfl <| g_v rfl (r_pick0 rfl rfl) <| g_v rfl r_move ?_
  refine g_no rfl rfl rfl rfl rfl rfl <| g_no rfl rfl rfl rfl rfl rfl <| g_v rfl (r_pick0 rfl rfl) <| g_v rfl r_move <| g_no rfl rfl rfl rfl rfl rfl <| g_no rfl rfl rfl rfl rfl rfl <| g_v rfl (r_pick0 rfl rfl) <| g_v rfl r_move <| g_no rfl rfl rfl rfl rfl rfl <| g_v rfl (r_pick0 rfl rfl) ?_
  refine g_v rfl r_move <| g_no rfl rfl rfl rfl rfl rfl <| g_no rfl rfl rfl rfl rfl rfl <| g_no rfl rfl rfl rfl rfl rfl <| g_v rfl (r_pick0 rfl rfl) <| g_v rfl r_move <| g_no rfl rfl rfl rfl rfl rfl <| g_no rfl rfl rfl rfl rfl rfl <| g_no rfl rfl rfl rfl rfl rfl <| g_no rfl rfl rfl rfl rfl rfl ?_
  refine g_no rfl rfl rfl rfl rfl rfl <| g_v rfl (r_pick0 rfl rfl) <| g_v rfl r_move <| g_no rfl rfl rfl rfl rfl rfl <| g_v rfl (r_pick0 rfl rfl) <| g_v rfl r_move <| g_no rfl rfl rfl rfl rfl rfl <| g_no rfl rfl rfl rfl rfl rfl <| g_no rfl rfl rfl rfl rfl rfl <| g_v rfl (r_pick0 rfl rfl) ?_
  refine g_v rfl r_move <| g_no rfl rfl rfl rfl rfl rfl <| g_no rfl rfl rfl rfl rfl rfl <| g_no rfl rfl rfl rfl rfl rfl <| g_no rfl rfl rfl rfl rfl rfl <| g_no rfl rfl rfl rfl rfl rfl <| g_v rfl (r_pick0 rfl rfl) <| g_v rfl r_move <| g_no rfl rfl rfl rfl rfl rfl <| g_no rfl rfl rfl rfl rfl rfl ?_
  refine g_no rfl rfl rfl rfl rfl rfl <| g_no rfl rfl rfl rfl rfl rfl <| g_no rfl rfl rfl rfl rfl rfl <| g_v rfl (r_pick0 rfl rfl) <| g_v rfl r_move <| g_no rfl rfl rfl rfl rfl rfl <| g_no rfl rfl rfl rfl rfl rfl <| g_no rfl rfl rfl rfl rfl rfl <| g_no rfl rfl rfl rfl rfl rfl <| g_no rfl rfl rfl rfl rfl rfl ?_
  refine g_v rfl (r_pick0 rfl rfl) <| g_v rfl r_assign <| g_nil <| d_then ?_
  refine c_flat [(0, .bool false)] ⟨rfl, trivial⟩ (fun u => ?_)
  refine c_sta ⟨w0, M, (100135, g9, .cells #[.slice A84 x82.fitems.length c85, .slice A87 x82.fconns.length c88, .int .i64 x82.flast, .int .i64 x53.fopens] 61 (0, 0)) :: (100060, g50, .cells #[.int .i64 x42.fNumber, .int .i64 x42.fKind, .int .i64 x42.fFrom, .int .i64 x42.fTo, .int .i64 x42.fConn, .string x42.fBody] 40 (0, 0)) :: (100040, g41, .cells #[.int .i64 x33.fNumber, .int .i64 x33.fKind, .int .i64 x33.fFrom, .int .i64 x33.fTo, .int .i64 x33.fConn, .string x33.fBody] 40 (0, 0)) :: (100020, g32, .cells #[.int .i64 x24.fNumber, .int .i64 x24.fKind, .int .i64 x24.fFrom, .int .i64 x24.fTo, .int .i64 x24.fConn, .string x24.fBody] 40 (0, 0)) :: H, (100520, ⟨.slice A93 x91.length c94, 40, 6, x91.length, x91.flatMap GItem.enc⟩) :: (100130, ⟨.slice A84 x82.fitems.length c85, 40, 6, x82.fitems.length, x82.fitems.flatMap GItem.enc⟩) :: (100131, ⟨.slice A87 x82.fconns.length c88, 63, 3, x82.fconns.length, x82.fconns.flatMap Gnet_conn.enc⟩) :: (100470, ⟨.slice A78 x76.length c79, 40, 6, x76.length, x76.flatMap GItem.enc⟩) :: R, φ⟩ (fun _ h => h) <| c_ret ?_
  replace hm := Option.some.inj hm
  subst hm
  refine d_retC () Try.results9 ?_ trivial (fun W h => ok_pre (H1 := [_, _, _, _]) (R1 := [_, _, _, _]) h (fun W hφ => hφ)) (.inr rfl)
  refine res_tmp <| res_nil ?_
  exact rfl
noncomputable def m_net_Net_Send_nil (p1 : Int) (p2 : Int) (p3 : ByteArray) : Option Bool :=
  (m_net_Net_full_nil).bind fun x1 =>
  some false
theorem c_net_Net_Send_nil {w0 : World} {M : Nat → Prop} {H : List (Nat × Nat × Obj)} {R : List (Nat × Row)} {φ : World → Prop} (p1 : Int) (p2 : Int) (p3 : ByteArray) (r : Bool) (hm : m_net_Net_Send_nil p1 p2 p3 = some r) :
    Cn Try.prog 15 #[.pointer none, .int .i64 p1, .int .i64 p2, .string p3] ⟨w0, M, H, R, φ⟩ (fun x : Unit => .bool r) (fun x => True) (fun x => ⟨w0, M, H, R, φ⟩) := by
 unfold m_net_Net_Send_nil at hm
 refine cn_intro (fn := Try.f15) (N := 17) Try.func15 rfl Try.ntmps15 rfl <| c_seq <| c_region <| g_v rfl r_assign <| g_nil <| d_then <| c_seq <| c_seq <| c_region <| g_v rfl r_move ?_
 replace hm := bnd hm
 obtain ⟨x1, hx2, hm⟩ := hm
 refine g_cn ⟨w0, M, _, _, φ⟩ (fun _ h => h) Try.call27 rfl rfl (c_net_Net_full_nil  _ hx2) (fun _ _ => ?_)
 refine g_nil <| d_then <| c_cond1 rfl (congrArg (fun z : Bool => z) (Option.some.inj (show some true = some x1 from hx2))).symm <| c_seq <| c_region <| g_v rfl r_assign <| g_nil <| d_then <| c_ret <| d_ret_then ?_
 replace hm := Option.some.inj hm
 subst hm
 refine d_retC () Try.results15 ?_ trivial (fun W h => ok_pre (H1 := []) (R1 := []) h (fun W hφ => hφ)) (.inr rfl)
 refine res_tmp <| res_nil ?_
 exact rfl
noncomputable def m_net_Net_Write_nil (p1 : Int) (p2 : Int) (p3 : ByteArray) : Option Bool :=
  (m_net_Net_Peer_nil p1 p2).bind fun (z4 : Int × Bool) =>
  if z4.2 = true then
    (m_net_Net_full_nil).bind fun x6 =>
    some false
  else
    some false
theorem c_net_Net_Write_nil {w0 : World} {M : Nat → Prop} {H : List (Nat × Nat × Obj)} {R : List (Nat × Row)} {φ : World → Prop} (p1 : Int) (p2 : Int) (p3 : ByteArray) (r : Bool) (hm : m_net_Net_Write_nil p1 p2 p3 = some r) :
    Cn Try.prog 13 #[.pointer none, .int .i64 p1, .int .i64 p2, .string p3] ⟨w0, M, H, R, φ⟩ (fun x : Unit => .bool r) (fun x => True) (fun x => ⟨w0, M, H, R, φ⟩) := by
 unfold m_net_Net_Write_nil at hm
 refine cn_intro (fn := Try.f13) (N := 31) Try.func13 rfl Try.ntmps13 rfl <| c_seq <| c_region <| g_v rfl r_assign <| g_nil <| d_then <| c_seq <| c_region <| g_v rfl r_move <| g_v rfl r_move ?_
 refine g_v rfl r_move ?_
 replace hm := bnd hm
 obtain ⟨⟨x1, x2⟩, hx3, hm⟩ := hm
 refine g_cn ⟨w0, M, _, _, φ⟩ (fun _ h => h) Try.call22 rfl rfl (c_net_Net_Peer_nil p1 p2 _ hx3) (fun _ _ => ?_)
 refine g_v rfl r_move <| g_v rfl (r_extract rfl rfl) <| g_v rfl (r_extract rfl rfl) <| g_v rfl r_assign <| g_v rfl r_assign <| g_nil <| d_then ?_
 refine c_flat [(0, .pointer none), (1, .int .i64 p1), (2, .int .i64 p2), (3, .string p3), (9, .int .i64 x1), (10, .bool x2)] ⟨rfl, rfl, rfl, rfl, rfl, rfl, trivial⟩ (fun u => ?_)
 refine c_sta ⟨w0, M, H, R, φ⟩ (fun _ h => h) <| c_seq <| c_seq <| c_region <| g_v rfl r_move <| g_v rfl (r_not rfl) <| g_v rfl r_move ?_
 refine g_if rfl rfl rfl rfl rfl (fun h5 => ?_) (fun h5 => ?_)
 ·
  have h5' : x2 = true := by revert h5; cases x2 <;> simp
  replace hm := ite_t hm h5'
  refine g_v rfl r_move <| g_do rfl rfl rfl rfl rfl h5 ?_
  replace hm := bnd hm
  obtain ⟨x6, hx7, hm⟩ := hm
  refine g_cn ⟨w0, M, _, _, φ⟩ (fun _ h => h) Try.call27 rfl rfl (c_net_Net_full_nil  _ hx7) (fun _ _ => ?_)
  refine g_v rfl (r_pick0 rfl h5) <| g_nil <| d_then <| c_cond1 rfl (congrArg (fun z : Bool => z) (Option.some.inj (show some true = some x6 from hx7))).symm <| c_seq <| c_region <| g_v rfl r_assign <| g_nil <| d_then <| c_ret ?_
  refine d_ret_then ?_
  replace hm := Option.some.inj hm
  subst hm
  refine d_retC () Try.results13 ?_ trivial (fun W h => ok_pre (H1 := []) (R1 := []) h (fun W hφ => hφ)) (.inr rfl)
  refine res_tmp <| res_nil ?_
  exact rfl
 ·
  have h5' : x2 = false := by revert h5; cases x2 <;> simp
  replace hm := ite_f hm (bool_nt h5')
  refine g_no rfl rfl rfl rfl rfl h5 <| g_v rfl (r_pick1 rfl h5) <| g_nil <| d_then <| c_cond1 rfl rfl <| c_seq <| c_region <| g_v rfl r_assign <| g_nil <| d_then ?_
  refine c_ret <| d_ret_then ?_
  replace hm := Option.some.inj hm
  subst hm
  refine d_retC () Try.results13 ?_ trivial (fun W h => ok_pre (H1 := []) (R1 := []) h (fun W hφ => hφ)) (.inr rfl)
  refine res_tmp <| res_nil ?_
  exact rfl
noncomputable def m_net_Net_Close_nil (p1 : Int) : Option Bool :=
  (m_net_Net_find_nil p1).bind fun (z5 : Int × Bool) =>
  some false
theorem c_net_Net_Close_nil {w0 : World} {M : Nat → Prop} {H : List (Nat × Nat × Obj)} {R : List (Nat × Row)} {φ : World → Prop} (p1 : Int) (r : Bool) (hm : m_net_Net_Close_nil p1 = some r) :
    Cn Try.prog 14 #[.pointer none, .int .i64 p1] ⟨w0, M, H, R, φ⟩ (fun x : Unit => .bool r) (fun x => True) (fun x => ⟨w0, M, H, R, φ⟩) := by
 unfold m_net_Net_Close_nil at hm
 refine cn_intro (fn := Try.f14) (N := 55) Try.func14 rfl Try.ntmps14 rfl <| c_seq <| c_region ?_
 refine g_e rfl (e_box 100030 rfl) (fun g1 _ => ?_)
 refine g_v rfl r_assign <| g_nil <| d_then <| c_seq <| c_region <| g_v rfl r_move <| g_v rfl (r_load (tag := 100030) rfl rfl rfl Try.isAgg3) ?_
 replace hm := bnd hm
 obtain ⟨⟨x2, x3⟩, hx4, hm⟩ := hm
 refine g_cn ⟨w0, M, _, _, φ⟩ (fun _ h => h) Try.call29 rfl rfl (c_net_Net_find_nil p1 _ hx4) (fun _ _ => ?_)
 refine g_v rfl r_move <| g_v rfl (r_extract rfl rfl) <| g_v rfl (r_extract rfl rfl) <| g_v rfl r_assign <| g_v rfl r_assign <| g_nil <| d_then ?_
 refine c_flat [(0, .pointer none), (3, .pointer (some ⟨g1, 0, none⟩)), (5, .int .i64 x2), (6, .bool x3)] ⟨rfl, rfl, rfl, rfl, trivial⟩ (fun u => ?_)
 refine c_sta ⟨w0, M, (100030, g1, .cells #[.int .i64 p1] 3 (0, 0)) :: H, R, φ⟩ (fun _ h => h) <| c_seq <| c_seq <| c_region <| g_v rfl r_move <| g_v rfl (r_not rfl) <| g_nil <| d_then <| c_cond1 rfl (congrArg (!·) (congrArg (fun z : Int × Bool => z.2) (Option.some.inj (show some (0, false) = some (x2, x3) from hx4))).symm) <| c_seq ?_
 refine c_region <| g_v rfl r_assign <| g_nil <| d_then <| c_ret <| d_ret_then ?_
 replace hm := Option.some.inj hm
 subst hm
 refine d_retC () Try.results14 ?_ trivial (fun W h => ok_pre (H1 := [_]) (R1 := []) h (fun W hφ => hφ)) (.inr rfl)
 refine res_tmp <| res_nil ?_
 exact rfl
noncomputable def m_net_Net_Lose_nil (p1 : Int) : Option Int :=
  some 0
theorem c_net_Net_Lose_nil {w0 : World} {M : Nat → Prop} {H : List (Nat × Nat × Obj)} {R : List (Nat × Row)} {φ : World → Prop} (p1 : Int) (r : Int) (hm : m_net_Net_Lose_nil p1 = some r) :
    Cn Try.prog 19 #[.pointer none, .int .i64 p1] ⟨w0, M, H, R, φ⟩ (fun x : Unit => .int .i64 r) (fun x => True) (fun x => ⟨w0, M, H, R, φ⟩) := by
 unfold m_net_Net_Lose_nil at hm
 refine cn_intro (fn := Try.f19) (N := 61) Try.func19 rfl Try.ntmps19 rfl <| c_seq <| c_region ?_
 refine g_e rfl (e_box 100030 rfl) (fun g1 _ => ?_)
 refine g_v rfl r_assign <| g_nil <| d_then <| c_seq <| c_seq <| c_region <| g_v rfl r_move <| g_v rfl (r_eqlP2 Try.underlying24 rfl rfl) <| g_nil <| d_then ?_
 refine c_cond1 rfl rfl <| c_seq <| c_region <| g_v rfl r_assign <| g_nil <| d_then <| c_ret <| d_ret_then ?_
 replace hm := Option.some.inj hm
 subst hm
 refine d_retC () Try.results19 ?_ trivial (fun W h => ok_pre (H1 := [_]) (R1 := []) h (fun W hφ => hφ)) (.inr rfl)
 refine res_tmp <| res_nil ?_
 exact rfl
noncomputable def m_net_Net_Ready_nil  : Option (List GItem) :=
  some ([] : List GItem)
theorem c_net_Net_Ready_nil {w0 : World} {M : Nat → Prop} {H : List (Nat × Nat × Obj)} {R : List (Nat × Row)} {φ : World → Prop}  (r : (List GItem)) (hm : m_net_Net_Ready_nil = some r) :
    Cn Try.prog 25 #[.pointer none] ⟨w0, M, H, R, φ⟩ (fun x : Option Addr × Nat => .slice x.1 r.length x.2) (fun x => r.length ≤ x.2) (fun x => ⟨w0, M, H, (2000, ⟨.slice x.1 r.length x.2, 40, 6, r.length, r.flatMap GItem.enc⟩) :: R, φ⟩) := by
 unfold m_net_Net_Ready_nil at hm
 refine cn_intro (fn := Try.f25) (N := 27) Try.func25 rfl Try.ntmps25 rfl <| c_seq <| c_region <| g_v rfl r_assign <| g_nil <| d_then <| c_seq <| c_seq <| c_region <| g_v rfl r_move ?_
 refine g_v rfl (r_eqlP2 Try.underlying24 rfl rfl) <| g_nil <| d_then <| c_cond1 rfl rfl <| c_seq <| c_region <| g_v rfl r_assign <| g_nil <| d_then <| c_ret ?_
 refine d_ret_then ?_
 replace hm := Option.some.inj hm
 subst hm
 refine d_sta _ (fun W h => nilR h 11 40 6) <| d_sta _ (fun W h => ok_frontR (t := 11) (t' := 2000) h rfl) ?_
 refine d_retC (none, 0) Try.results25 ?_ (Nat.le_refl 0) (fun W h => h.phi (fun W hφ => hφ)) (.inr rfl)
 refine res_tmp <| res_nil ?_
 exact rfl
noncomputable def m_net_Net_picked_nil_2 (p2 : Int) : Option (Int × Bool) :=
  some (0, false)
theorem c_net_Net_picked_nil_2 {w0 : World} {M : Nat → Prop} {H : List (Nat × Nat × Obj)} {R : List (Nat × Row)} {φ : World → Prop} (p2 : Int) (r : Int × Bool) (hm : m_net_Net_picked_nil_2 p2 = some r) :
    Cn Try.prog 34 #[.pointer none, .func (.func 35) #[] #[], .int .i64 p2] ⟨w0, M, H, R, φ⟩ (fun x : Unit => .tuple #[.int .i64 r.1, .bool r.2]) (fun x => True) (fun x => ⟨w0, M, H, R, φ⟩) := by
 unfold m_net_Net_picked_nil_2 at hm
 refine cn_intro (fn := Try.f34) (N := 29) Try.func34 rfl Try.ntmps34 rfl <| c_seq <| c_region <| g_v rfl r_assign <| g_v rfl r_assign <| g_nil <| d_then <| c_seq <| c_seq <| c_region ?_
 refine g_v rfl r_move <| g_v rfl (r_eqlP2 Try.underlying24 rfl rfl) <| g_nil <| d_then <| c_cond1 rfl rfl <| c_seq <| c_region <| g_v rfl r_assign <| g_v rfl r_assign <| g_nil ?_
 refine d_then <| c_ret <| d_ret_then ?_
 replace hm := Option.some.inj hm
 subst hm
 refine d_retC () Try.results34 ?_ trivial (fun W h => ok_pre (H1 := []) (R1 := []) h (fun W hφ => hφ)) (.inr rfl)
 refine res_tmp <| res_tmp <| res_nil ?_
 exact rfl
noncomputable def m_net_Net_Drop_nil_j1 (x2 : Bool) : Option Bool :=
  some x2
noncomputable def m_net_Net_Drop_nil (p1 : Int) : Option Bool :=
  (m_net_Net_picked_nil_2 p1).bind fun (z4 : Int × Bool) =>
  m_net_Net_Drop_nil_j1 z4.2
theorem c_net_Net_Drop_nil {w0 : World} {M : Nat → Prop} {H : List (Nat × Nat × Obj)} {R : List (Nat × Row)} {φ : World → Prop} (p1 : Int) (r : Bool) (hm : m_net_Net_Drop_nil p1 = some r) :
    Cn Try.prog 20 #[.pointer none, .int .i64 p1] ⟨w0, M, H, R, φ⟩ (fun x : Unit => .bool r) (fun x => True) (fun x => ⟨w0, M, H, R, φ⟩) := by
 unfold m_net_Net_Drop_nil at hm
 refine cn_intro (fn := Try.f20) (N := 26) Try.func20 rfl Try.ntmps20 rfl <| c_seq <| c_region <| g_v rfl r_assign <| g_nil <| d_then <| c_seq <| c_region <| g_v rfl r_move <| g_v rfl r_move ?_
 replace hm := bnd hm
 obtain ⟨⟨x1, x2⟩, hx3, hm⟩ := hm
 refine g_cn ⟨w0, M, _, _, φ⟩ (fun _ h => h) Try.call34 rfl rfl (c_net_Net_picked_nil_2 p1 _ hx3) (fun _ _ => ?_)
 refine g_v rfl r_move <| g_v rfl (r_extract rfl rfl) <| g_v rfl (r_extract rfl rfl) <| g_v rfl r_assign <| g_v rfl r_assign <| g_nil <| d_then ?_
 refine c_flat [(0, .pointer none), (5, .int .i64 x1), (6, .bool x2)] ⟨rfl, rfl, rfl, trivial⟩ (fun u => ?_)
 refine c_sta ⟨w0, M, H, R, φ⟩ (fun _ h => h) <| c_seq ?_
 refine c_cut (ι := Unit) [6] (fun _ => []) (fun _ => ⟨w0, M, H, R, φ⟩) (fun _ => m_net_Net_Drop_nil_j1 x2 = some r) ?_ (fun _ u hm => ?_)
 ·
  refine c_seq <| c_region <| g_v rfl r_move <| g_nil <| d_then <| c_cond0 rfl (congrArg (fun z : Int × Bool => z.2) (Option.some.inj (show some (0, false) = some (x1, x2) from hx3))).symm <| c_skip ?_
  exact d_round () hm Nat.zero_lt_one ⟨rfl, trivial⟩ (fun W h => h.phi (fun W hφ => hφ))
 ·
  unfold m_net_Net_Drop_nil_j1 at hm
  refine d_flat [(6, .bool x2)] ⟨rfl, trivial⟩ (fun u => ?_)
  refine d_then <| c_seq <| c_region <| g_v rfl r_move <| g_v rfl r_assign <| g_nil <| d_then <| c_ret ?_
  replace hm := Option.some.inj hm
  subst hm
  refine d_retC () Try.results20 ?_ trivial (fun W h => ok_pre (H1 := []) (R1 := []) h (fun W hφ => hφ)) (.inr rfl)
  refine res_tmp <| res_nil ?_
  exact rfl
noncomputable def m_net_Net_Double_nil (p1 : Int) : Option Bool :=
  (m_net_Net_picked_nil_2 p1).bind fun (z4 : Int × Bool) =>
  some false
theorem c_net_Net_Double_nil {w0 : World} {M : Nat → Prop} {H : List (Nat × Nat × Obj)} {R : List (Nat × Row)} {φ : World → Prop} (p1 : Int) (r : Bool) (hm : m_net_Net_Double_nil p1 = some r) :
    Cn Try.prog 16 #[.pointer none, .int .i64 p1] ⟨w0, M, H, R, φ⟩ (fun x : Unit => .bool r) (fun x => True) (fun x => ⟨w0, M, H, R, φ⟩) := by
 unfold m_net_Net_Double_nil at hm
 refine cn_intro (fn := Try.f16) (N := 28) Try.func16 rfl Try.ntmps16 rfl <| c_seq <| c_region <| g_v rfl r_assign <| g_nil <| d_then <| c_seq <| c_region <| g_v rfl r_move <| g_v rfl r_move ?_
 replace hm := bnd hm
 obtain ⟨⟨x1, x2⟩, hx3, hm⟩ := hm
 refine g_cn ⟨w0, M, _, _, φ⟩ (fun _ h => h) Try.call34 rfl rfl (c_net_Net_picked_nil_2 p1 _ hx3) (fun _ _ => ?_)
 refine g_v rfl r_move <| g_v rfl (r_extract rfl rfl) <| g_v rfl (r_extract rfl rfl) <| g_v rfl r_assign <| g_v rfl r_assign <| g_nil <| d_then ?_
 refine c_flat [(0, .pointer none), (5, .int .i64 x1), (6, .bool x2)] ⟨rfl, rfl, rfl, trivial⟩ (fun u => ?_)
 refine c_sta ⟨w0, M, H, R, φ⟩ (fun _ h => h) <| c_seq <| c_seq <| c_region <| g_v rfl r_move <| g_v rfl (r_not rfl) <| g_v rfl r_move <| g_no rfl rfl rfl rfl rfl (congrArg (!·) (congrArg (fun z : Int × Bool => z.2) (Option.some.inj (show some (0, false) = some (x1, x2) from hx3))).symm) <| g_no rfl rfl rfl rfl rfl (congrArg (!·) (congrArg (fun z : Int × Bool => z.2) (Option.some.inj (show some (0, false) = some (x1, x2) from hx3))).symm) <| g_v rfl (r_pick1 rfl (congrArg (!·) (congrArg (fun z : Int × Bool => z.2) (Option.some.inj (show some (0, false) = some (x1, x2) from hx3))).symm)) ?_
 refine g_nil <| d_then <| c_cond1 rfl rfl <| c_seq <| c_region <| g_v rfl r_assign <| g_nil <| d_then <| c_ret <| d_ret_then ?_
 replace hm := Option.some.inj hm
 subst hm
 refine d_retC () Try.results16 ?_ trivial (fun W h => ok_pre (H1 := []) (R1 := []) h (fun W hφ => hφ)) (.inr rfl)
 refine res_tmp <| res_nil ?_
 exact rfl
noncomputable def m_net_Net_Waits_nil  : Option Int :=
  some 0
theorem c_net_Net_Waits_nil {w0 : World} {M : Nat → Prop} {H : List (Nat × Nat × Obj)} {R : List (Nat × Row)} {φ : World → Prop}  (r : Int) (hm : m_net_Net_Waits_nil = some r) :
    Cn Try.prog 18 #[.pointer none] ⟨w0, M, H, R, φ⟩ (fun x : Unit => .int .i64 r) (fun x => True) (fun x => ⟨w0, M, H, R, φ⟩) := by
 unfold m_net_Net_Waits_nil at hm
 refine cn_intro (fn := Try.f18) (N := 10) Try.func18 rfl Try.ntmps18 rfl <| c_seq <| c_region <| g_v rfl r_assign <| g_nil <| d_then <| c_seq <| c_seq <| c_region <| g_v rfl r_move ?_
 refine g_v rfl (r_eqlP2 Try.underlying24 rfl rfl) <| g_nil <| d_then <| c_cond1 rfl rfl <| c_seq <| c_region <| g_v rfl r_assign <| g_nil <| d_then <| c_ret ?_
 refine d_ret_then ?_
 replace hm := Option.some.inj hm
 subst hm
 refine d_retC () Try.results18 ?_ trivial (fun W h => ok_pre (H1 := []) (R1 := []) h (fun W hφ => hφ)) (.inr rfl)
 refine res_tmp <| res_nil ?_
 exact rfl
noncomputable def m_net_Net_Waits (o0 : Gnet_Net) : Option Int :=
  some (o0.fitems.length : Int)
theorem c_net_Net_Waits {w0 : World} {M : Nat → Prop} {H : List (Nat × Nat × Obj)} {R : List (Nat × Row)} {φ : World → Prop} (go0 : Nat) (o0 : Gnet_Net) (Ao0_0 : Option Addr) (co0_0 : Nat) (hco0_0 : o0.fitems.length ≤ co0_0) (Ao0_1 : Option Addr) (co0_1 : Nat) (hco0_1 : o0.fconns.length ≤ co0_1) (r : Int) (hm : m_net_Net_Waits o0 = some r) :
    Cn Try.prog 18 #[.pointer (some ⟨go0, 0, none⟩)] ⟨w0, M, (1000, go0, .cells #[.slice Ao0_0 o0.fitems.length co0_0, .slice Ao0_1 o0.fconns.length co0_1, .int .i64 o0.flast, .int .i64 o0.fopens] 61 (0, 0)) :: H, (1000, ⟨.slice Ao0_0 o0.fitems.length co0_0, 40, 6, o0.fitems.length, o0.fitems.flatMap GItem.enc⟩) :: (1001, ⟨.slice Ao0_1 o0.fconns.length co0_1, 63, 3, o0.fconns.length, o0.fconns.flatMap Gnet_conn.enc⟩) :: R, φ⟩ (fun x : Unit => .int .i64 r) (fun x => True) (fun x => ⟨w0, M, (1000, go0, .cells #[.slice Ao0_0 o0.fitems.length co0_0, .slice Ao0_1 o0.fconns.length co0_1, .int .i64 o0.flast, .int .i64 o0.fopens] 61 (0, 0)) :: H, (1000, ⟨.slice Ao0_0 o0.fitems.length co0_0, 40, 6, o0.fitems.length, o0.fitems.flatMap GItem.enc⟩) :: (1001, ⟨.slice Ao0_1 o0.fconns.length co0_1, 63, 3, o0.fconns.length, o0.fconns.flatMap Gnet_conn.enc⟩) :: R, φ⟩) := by
 unfold m_net_Net_Waits at hm
 refine cn_intro (fn := Try.f18) (N := 10) Try.func18 rfl Try.ntmps18 rfl <| c_seq <| c_region <| g_v rfl r_assign <| g_nil <| d_then <| c_seq <| c_seq <| c_region <| g_v rfl r_move ?_
 refine g_v rfl (r_eqlP1 Try.underlying24 rfl rfl) <| g_nil <| d_then <| c_cond0 rfl rfl <| c_skip <| d_then <| c_seq <| c_region <| g_v rfl r_move <| g_v rfl (r_nilck rfl) ?_
 refine g_v rfl (r_field (n := 0) Try.underlying61 rfl Try.sizeOf52 rfl rfl) <| g_v rfl (r_load (tag := 1000) rfl rfl rfl Try.isAgg52) <| g_v rfl (r_lenL Try.underlying52 rfl) <| g_v rfl r_assign <| g_nil <| d_then ?_
 refine c_flat [(2, .int .i64 (o0.fitems.length : Int))] ⟨rfl, trivial⟩ (fun u => ?_)
 refine c_sta ⟨w0, M, (1000, go0, .cells #[.slice Ao0_0 o0.fitems.length co0_0, .slice Ao0_1 o0.fconns.length co0_1, .int .i64 o0.flast, .int .i64 o0.fopens] 61 (0, 0)) :: H, (1000, ⟨.slice Ao0_0 o0.fitems.length co0_0, 40, 6, o0.fitems.length, o0.fitems.flatMap GItem.enc⟩) :: (1001, ⟨.slice Ao0_1 o0.fconns.length co0_1, 63, 3, o0.fconns.length, o0.fconns.flatMap Gnet_conn.enc⟩) :: R, φ⟩ (fun _ h => h) <| c_ret ?_
 replace hm := Option.some.inj hm
 subst hm
 refine d_retC () Try.results18 ?_ trivial (fun W h => h.phi (fun W hφ => hφ)) (.inr rfl)
 refine res_tmp <| res_nil ?_
 exact rfl
noncomputable def m_law08_NetNil (p0 : Int) (p1 : Int) : Option Bool :=
  (m_net_Net_Open_nil p0 p1).bind fun (z5 : Int × Bool) =>
  (m_net_Net_Take_nil p0).bind fun (z9 : GItem × Bool) =>
  (m_net_Net_Peer_nil p0 p1).bind fun (z14 : Int × Bool) =>
  (m_law08_awake).bind fun x15 =>
  if x15 = true then
    (m_net_Net_Send_nil p0 p1 (⟨#[]⟩ : ByteArray)).bind fun x18 =>
    if x18 = true then
      some false
    else
      if z5.2 = true then
        some false
      else
        (m_net_Net_Write_nil p0 p1 (⟨#[]⟩ : ByteArray)).bind fun x22 =>
        if x22 = true then
          some false
        else
          (m_net_Net_Close_nil p0).bind fun x25 =>
          if x25 = true then
            some false
          else
            (m_net_Net_Lose_nil p0).bind fun x28 =>
            if x28 = 0 then
              (m_net_Net_Ready_nil).bind fun x31 =>
              if (x31.length : Int) = 0 then
                if z9.2 = true then
                  some false
                else
                  (m_net_Net_Drop_nil p0).bind fun x38 =>
                  if x38 = true then
                    some false
                  else
                    (m_net_Net_Double_nil p0).bind fun x41 =>
                    if x41 = true then
                      some false
                    else
                      if z14.2 = true then
                        some false
                      else
                        (m_net_Net_Waits_nil).bind fun x45 =>
                        if x45 = 0 then
                          (m_net_Net_Send 1 2 (⟨#[97]⟩ : ByteArray) (⟨([] : List GItem), ([] : List Gnet_conn), 0, 0⟩ : Gnet_Net)).bind fun (z54 : Bool × Gnet_Net) =>
                          if z54.1 = true then
                            (m_net_Net_Waits (⟨z54.2.fitems, ([] : List Gnet_conn), z54.2.flast, 0⟩ : Gnet_Net)).bind fun x56 =>
                            some (decide (x56 = 1))
                          else
                            some false
                        else
                          some false
              else
                some false
            else
              some false
  else
    some false
theorem c_law08_NetNil {w0 : World} {M : Nat → Prop} {H : List (Nat × Nat × Obj)} {R : List (Nat × Row)} {φ : World → Prop} (p0 : Int) (p1 : Int) (r : Bool) (hm : m_law08_NetNil p0 p1 = some r) :
    Cn Try.prog 8 #[.int .i64 p0, .int .i64 p1] ⟨w0, M, H, R, φ⟩ (fun x : Unit => .bool r) (fun x => True) (fun x => ⟨w0, M, H, R, φ⟩) := by
 unfold m_law08_NetNil at hm
 refine cn_intro (fn := Try.f8) (N := 106) Try.func8 rfl Try.ntmps8 rfl <| c_seq <| c_region <| g_v rfl r_assign <| g_nil <| d_then <| c_seq <| c_region <| g_v rfl r_assign <| g_nil ?_
 refine d_then <| c_seq <| c_region <| g_v rfl (r_build _ rfl (bld61_0)) ?_
 refine g_e rfl (e_box 100140 rfl) (fun g1 _ => ?_)
 refine g_v rfl r_assign <| g_nil <| d_then <| c_seq <| c_region <| g_v rfl r_move <| g_v rfl r_move <| g_v rfl r_move ?_
 replace hm := bnd hm
 obtain ⟨⟨x2, x3⟩, hx4, hm⟩ := hm
 refine g_cn ⟨w0, M, _, _, φ⟩ (fun _ h => h) Try.call12 rfl rfl (c_net_Net_Open_nil p0 p1 _ hx4) (fun _ _ => ?_)
 refine g_v rfl r_move <| g_v rfl (r_extract rfl rfl) <| g_v rfl (r_extract rfl rfl) <| g_v rfl r_assign <| g_v rfl r_assign <| g_nil <| d_then ?_
 refine c_flat [(0, .int .i64 p0), (1, .int .i64 p1), (5, .pointer none), (6, .pointer (some ⟨g1, 0, none⟩)), (8, .bool x3)] ⟨rfl, rfl, rfl, rfl, rfl, trivial⟩ (fun u => ?_)
 refine c_sta ⟨w0, M, (100140, g1, .cells #[.slice none 0 0, .slice none 0 0, .int .i64 0, .int .i64 0] 61 (0, 0)) :: H, R, φ⟩ (fun _ h => h) <| c_seq <| c_region <| g_v rfl r_move <| g_v rfl r_move ?_
 replace hm := bnd hm
 obtain ⟨⟨x6, x7⟩, hx8, hm⟩ := hm
 refine g_cn ⟨w0, M, _, _, φ⟩ (fun _ h => h) Try.call17 rfl rfl (c_net_Net_Take_nil p0 _ hx8) (fun _ _ => ?_)
 refine g_v rfl r_move <| g_v rfl (r_extract rfl rfl) <| g_v rfl (r_extract rfl rfl) ?_
 refine g_e rfl (e_alloc 100090 Try.zeroValue40) (fun g10 _ => ?_)
 refine g_storeL (tag := 100090) rfl rfl rfl rfl Try.sizeOf40 rfl rfl <| g_v rfl r_assign <| g_nil <| d_then ?_
 refine c_flat [(0, .int .i64 p0), (1, .int .i64 p1), (5, .pointer none), (6, .pointer (some ⟨g1, 0, none⟩)), (8, .bool x3), (10, .bool x7)] ⟨rfl, rfl, rfl, rfl, rfl, rfl, trivial⟩ (fun u => ?_)
 refine c_sta ⟨w0, M, (100090, g10, .cells #[.int .i64 x6.fNumber, .int .i64 x6.fKind, .int .i64 x6.fFrom, .int .i64 x6.fTo, .int .i64 x6.fConn, .string x6.fBody] 40 (0, 0)) :: (100140, g1, .cells #[.slice none 0 0, .slice none 0 0, .int .i64 0, .int .i64 0] 61 (0, 0)) :: H, R, φ⟩ (fun _ h => h) <| c_seq <| c_region <| g_v rfl r_move <| g_v rfl r_move <| g_v rfl r_move ?_
 replace hm := bnd hm
 obtain ⟨⟨x11, x12⟩, hx13, hm⟩ := hm
 refine g_cn ⟨w0, M, _, _, φ⟩ (fun _ h => h) Try.call22 rfl rfl (c_net_Net_Peer_nil p0 p1 _ hx13) (fun _ _ => ?_)
 refine g_v rfl r_move <| g_v rfl (r_extract rfl rfl) <| g_v rfl (r_extract rfl rfl) <| g_v rfl r_assign <| g_v rfl r_assign <| g_nil <| d_then ?_
 refine c_flat [(0, .int .i64 p0), (1, .int .i64 p1), (5, .pointer none), (6, .pointer (some ⟨g1, 0, none⟩)), (8, .bool x3), (10, .bool x7), (12, .bool x12)] ⟨rfl, rfl, rfl, rfl, rfl, rfl, rfl, trivial⟩ (fun u => ?_)
 refine c_seq <| c_region ?_
 replace hm := bnd hm
 obtain ⟨x15, hx16, hm⟩ := hm
 refine g_cn ⟨w0, M, _, _, φ⟩ (fun _ h => h) Try.call9 rfl rfl (c_law08_awake  _ hx16) (fun _ _ => ?_)
 refine g_v rfl r_move ?_
 refine g_if rfl rfl rfl rfl rfl (fun h17 => ?_) (fun h17 => ?_)
 ·
  replace hm := ite_t hm h17
  refine g_v rfl r_move <| g_do rfl rfl rfl rfl rfl h17 <| g_v rfl r_move <| g_do rfl rfl rfl rfl rfl h17 <| g_v rfl r_move <| g_do rfl rfl rfl rfl rfl h17 ?_
  replace hm := bnd hm
  obtain ⟨x18, hx19, hm⟩ := hm
  refine g_cn ⟨w0, M, _, _, φ⟩ (fun _ h => h) Try.call15 rfl rfl (c_net_Net_Send_nil p0 p1 (⟨#[]⟩ : ByteArray) _ hx19) (fun _ _ => ?_)
  refine g_do rfl rfl rfl rfl rfl h17 <| g_v rfl (r_not rfl) <| g_v rfl (r_pick1 rfl h17) <| g_v rfl r_move ?_
  refine g_if rfl rfl rfl rfl rfl (fun h20 => ?_) (fun h20 => ?_)
  ·
   have h20' : x18 = false := by revert h20; cases x18 <;> simp
   replace hm := ite_f hm (bool_nt h20')
   refine g_v rfl r_move <| g_do rfl rfl rfl rfl rfl h20 <| g_v rfl (r_not rfl) <| g_v rfl (r_pick1 rfl h20) <| g_v rfl r_move ?_
   refine g_if rfl rfl rfl rfl rfl (fun h21 => ?_) (fun h21 => ?_)
   ·
    have h21' : x3 = false := by revert h21; cases x3 <;> simp
    replace hm := ite_f hm (bool_nt h21')
    refine g_v rfl r_move <| g_do rfl rfl rfl rfl rfl h21 <| g_v rfl r_move <| g_do rfl rfl rfl rfl rfl h21 <| g_v rfl r_move <| g_do rfl rfl rfl rfl rfl h21 ?_
    replace hm := bnd hm
    obtain ⟨x22, hx23, hm⟩ := hm
    refine g_cn ⟨w0, M, _, _, φ⟩ (fun _ h => h) Try.call13 rfl rfl (c_net_Net_Write_nil p0 p1 (⟨#[]⟩ : ByteArray) _ hx23) (fun _ _ => ?_)
    refine g_do rfl rfl rfl rfl rfl h21 <| g_v rfl (r_not rfl) <| g_v rfl (r_pick1 rfl h21) <| g_v rfl r_move ?_
    refine g_if rfl rfl rfl rfl rfl (fun h24 => ?_) (fun h24 => ?_)
    ·
     have h24' : x22 = false := by revert h24; cases x22 <;> simp
     replace hm := ite_f hm (bool_nt h24')
     refine g_v rfl r_move <| g_do rfl rfl rfl rfl rfl h24 <| g_v rfl r_move <| g_do rfl rfl rfl rfl rfl h24 ?_
     replace hm := bnd hm
     obtain ⟨x25, hx26, hm⟩ := hm
     refine g_cn ⟨w0, M, _, _, φ⟩ (fun _ h => h) Try.call14 rfl rfl (c_net_Net_Close_nil p0 _ hx26) (fun _ _ => ?_)
     refine g_do rfl rfl rfl rfl rfl h24 <| g_v rfl (r_not rfl) <| g_v rfl (r_pick1 rfl h24) <| g_v rfl r_move ?_
     refine g_if rfl rfl rfl rfl rfl (fun h27 => ?_) (fun h27 => ?_)
     ·
      have h27' : x25 = false := by revert h27; cases x25 <;> simp
      replace hm := ite_f hm (bool_nt h27')
      refine g_v rfl r_move <| g_do rfl rfl rfl rfl rfl h27 <| g_v rfl r_move <| g_do rfl rfl rfl rfl rfl h27 ?_
      replace hm := bnd hm
      obtain ⟨x28, hx29, hm⟩ := hm
      refine g_cn ⟨w0, M, _, _, φ⟩ (fun _ h => h) Try.call19 rfl rfl (c_net_Net_Lose_nil p0 _ hx29) (fun _ _ => ?_)
      refine g_do rfl rfl rfl rfl rfl h27 <| g_v rfl (r_eql rfl rfl) <| g_v rfl (r_pick1 rfl h27) <| g_v rfl r_move ?_
      refine g_if rfl rfl rfl rfl rfl (fun h30 => ?_) (fun h30 => ?_)
      ·
       replace hm := ite_t hm (of_decide_eq_true h30)
       refine g_v rfl r_move <| g_do rfl rfl rfl rfl rfl h30 ?_
       replace hm := bnd hm
       obtain ⟨x31, hx32, hm⟩ := hm
       refine g_cn ⟨w0, M, _, _, φ⟩ (fun _ h => h) Try.call25 rfl rfl (c_net_Net_Ready_nil  _ hx32) (fun ⟨A33, c34⟩ hc34 => ?_)
       refine g_sta _ (fun W h => (ok_frontR (t := 2000) (t' := 100680) h rfl)) <| g_do rfl rfl rfl rfl rfl h30 <| g_v rfl (r_lenL Try.underlying52 rfl) <| g_do rfl rfl rfl rfl rfl h30 <| g_v rfl (r_eql rfl rfl) <| g_v rfl (r_pick1 rfl h30) <| g_v rfl r_move ?_
       refine g_if rfl rfl rfl rfl rfl (fun h36 => ?_) (fun h36 => ?_)
       ·
        replace hm := ite_t hm (of_decide_eq_true h36)
        refine g_v rfl r_move <| g_do rfl rfl rfl rfl rfl h36 <| g_v rfl (r_not rfl) <| g_v rfl (r_pick1 rfl h36) <| g_v rfl r_move ?_
        refine g_if rfl rfl rfl rfl rfl (fun h37 => ?_) (fun h37 => ?_)
        ·
         have h37' : x7 = false := by revert h37; cases x7 <;> simp
         replace hm := ite_f hm (bool_nt h37')
         refine g_v rfl r_move <| g_do rfl rfl rfl rfl rfl h37 <| g_v rfl r_move <| g_do rfl rfl rfl rfl rfl h37 ?_
         replace hm := bnd hm
         obtain ⟨x38, hx39, hm⟩ := hm
         refine g_cn ⟨w0, M, _, _, φ⟩ (fun _ h => h) Try.call20 rfl rfl (c_net_Net_Drop_nil p0 _ hx39) (fun _ _ => ?_)
         refine g_do rfl rfl rfl rfl rfl h37 <| g_v rfl (r_not rfl) <| g_v rfl (r_pick1 rfl h37) <| g_v rfl r_move ?_
         refine g_if rfl rfl rfl rfl rfl (fun h40 => ?_) (fun h40 => ?_)
         ·
          have h40' : x38 = false := by revert h40; cases x38 <;> simp
          replace hm := ite_f hm (bool_nt h40')
          refine g_v rfl r_move <| g_do rfl rfl rfl rfl rfl h40 <| g_v rfl r_move <| g_do rfl rfl rfl rfl rfl h40 ?_
          replace hm := bnd hm
          obtain ⟨x41, hx42, hm⟩ := hm
          refine g_cn ⟨w0, M, _, _, φ⟩ (fun _ h => h) Try.call16 rfl rfl (c_net_Net_Double_nil p0 _ hx42) (fun _ _ => ?_)
          refine g_do rfl rfl rfl rfl rfl h40 <| g_v rfl (r_not rfl) <| g_v rfl (r_pick1 rfl h40) <| g_v rfl r_move ?_
          refine g_if rfl rfl rfl rfl rfl (fun h43 => ?_) (fun h43 => ?_)
          ·
           have h43' : x41 = false := by revert h43; cases x41 <;> simp
           replace hm := ite_f hm (bool_nt h43')
           refine g_v rfl r_move <| g_do rfl rfl rfl rfl rfl h43 <| g_v rfl (r_not rfl) <| g_v rfl (r_pick1 rfl h43) <| g_v rfl r_move ?_
           refine g_if rfl rfl rfl rfl rfl (fun h44 => ?_) (fun h44 => ?_)
           ·
            have h44' : x12 = false := by revert h44; cases x12 <;> simp
            replace hm := ite_f hm (bool_nt h44')
            refine g_v rfl r_move <| g_do rfl rfl rfl rfl rfl h44 ?_
            replace hm := bnd hm
            obtain ⟨x45, hx46, hm⟩ := hm
            refine g_cn ⟨w0, M, _, _, φ⟩ (fun _ h => h) Try.call18 rfl rfl (c_net_Net_Waits_nil  _ hx46) (fun _ _ => ?_)
            refine g_do rfl rfl rfl rfl rfl h44 <| g_v rfl (r_eql rfl rfl) <| g_v rfl (r_pick1 rfl h44) <| g_v rfl r_move ?_
            refine g_if rfl rfl rfl rfl rfl (fun h47 => ?_) (fun h47 => ?_)
            ·
             replace hm := ite_t hm (of_decide_eq_true h47)
             refine g_v rfl r_move <| g_do rfl rfl rfl rfl rfl h47 <| g_sta _ (fun W h => nilR h 11 40 6) <| g_sta _ (fun W h => nilR h 12 63 3) ?_
             replace hm := bnd hm
             obtain ⟨⟨x48, x49⟩, hx50, hm⟩ := hm
             refine g_cn ⟨w0, M, (1000, g1, .cells #[.slice none 0 0, .slice none 0 0, .int .i64 0, .int .i64 0] 61 (0, 0)) :: (100090, g10, .cells #[.int .i64 x6.fNumber, .int .i64 x6.fKind, .int .i64 x6.fFrom, .int .i64 x6.fTo, .int .i64 x6.fConn, .string x6.fBody] 40 (0, 0)) :: H, (1000, ⟨.slice none 0 0, 40, 6, 0, []⟩) :: (1001, ⟨.slice none 0 0, 63, 3, 0, []⟩) :: (100680, ⟨.slice A33 x31.length c34, 40, 6, x31.length, x31.flatMap GItem.enc⟩) :: R, φ⟩ (fun W h => (ok_front (t := 100140) (t' := 1000) (ok_frontR (t := 11) (t' := 1000) (ok_frontR (t := 12) (t' := 1001) h rfl) rfl) rfl)) Try.call15 rfl rfl (c_net_Net_Send 1 2 (⟨#[97]⟩ : ByteArray) g1 (⟨([] : List GItem), ([] : List Gnet_conn), 0, 0⟩ : Gnet_Net) none 0 (Nat.le_refl 0) none 0 (Nat.le_refl 0) _ hx50) (fun ⟨A51, c52⟩ hc52 => ?_)
             refine g_sta _ (fun W h => (ok_frontR (t := 2000) (t' := 11) (ok_frontR (t := 1001) (t' := 12) (ok_front (t := 1000) (t' := 100140) h rfl) rfl) rfl)) <| g_v rfl (r_pick1 rfl h47) <| g_v rfl r_move ?_
             refine g_if rfl rfl rfl rfl rfl (fun h55 => ?_) (fun h55 => ?_)
             ·
              replace hm := ite_t hm h55
              refine g_v rfl r_move <| g_do rfl rfl rfl rfl rfl h55 ?_
              replace hm := bnd hm
              obtain ⟨x56, hx57, hm⟩ := hm
              refine g_cn ⟨w0, M, (1000, g1, .cells #[.slice A51 x49.fitems.length c52, .slice none 0 0, .int .i64 x49.flast, .int .i64 0] 61 (0, 0)) :: (100090, g10, .cells #[.int .i64 x6.fNumber, .int .i64 x6.fKind, .int .i64 x6.fFrom, .int .i64 x6.fTo, .int .i64 x6.fConn, .string x6.fBody] 40 (0, 0)) :: H, (1000, ⟨.slice A51 x49.fitems.length c52, 40, 6, x49.fitems.length, x49.fitems.flatMap GItem.enc⟩) :: (1001, ⟨.slice none 0 0, 63, 3, 0, []⟩) :: (100680, ⟨.slice A33 x31.length c34, 40, 6, x31.length, x31.flatMap GItem.enc⟩) :: R, φ⟩ (fun W h => (ok_front (t := 100140) (t' := 1000) (ok_frontR (t := 11) (t' := 1000) (ok_frontR (t := 12) (t' := 1001) h rfl) rfl) rfl)) Try.call18 rfl rfl (c_net_Net_Waits g1 (⟨x49.fitems, ([] : List Gnet_conn), x49.flast, 0⟩ : Gnet_Net) A51 c52 hc52 none 0 (Nat.le_refl 0) _ hx57) (fun _ _ => ?_)
              refine g_sta _ (fun W h => (ok_frontR (t := 1000) (t' := 11) (ok_frontR (t := 1001) (t' := 12) (ok_front (t := 1000) (t' := 100140) h rfl) rfl) rfl)) <| g_do rfl rfl rfl rfl rfl h55 <| g_v rfl (r_eql rfl rfl) <| g_v rfl (r_pick1 rfl h55) <| g_v rfl r_assign <| g_nil <| d_then ?_
              refine c_flat [(4, .bool (decide (x56 = 1)))] ⟨rfl, trivial⟩ (fun u => ?_)
              refine c_sta ⟨w0, M, (100140, g1, .cells #[.slice A51 x49.fitems.length c52, .slice none 0 0, .int .i64 x49.flast, .int .i64 0] 61 (0, 0)) :: (100090, g10, .cells #[.int .i64 x6.fNumber, .int .i64 x6.fKind, .int .i64 x6.fFrom, .int .i64 x6.fTo, .int .i64 x6.fConn, .string x6.fBody] 40 (0, 0)) :: H, (11, ⟨.slice A51 x49.fitems.length c52, 40, 6, x49.fitems.length, x49.fitems.flatMap GItem.enc⟩) :: (12, ⟨.slice none 0 0, 63, 3, 0, []⟩) :: (100680, ⟨.slice A33 x31.length c34, 40, 6, x31.length, x31.flatMap GItem.enc⟩) :: R, φ⟩ (fun _ h => h) <| c_ret ?_
              replace hm := Option.some.inj hm
              subst hm
              refine d_retC () Try.results8 ?_ trivial (fun W h => ok_pre (H1 := [_, _]) (R1 := [_, _, _]) h (fun W hφ => hφ)) (.inr rfl)
              refine res_tmp <| res_nil ?_
              exact rfl
             ·
              replace hm := ite_f hm (bool_nt h55)
              refine g_no rfl rfl rfl rfl rfl h55 <| g_no rfl rfl rfl rfl rfl h55 <| g_v rfl (r_pick0 rfl h55) <| g_v rfl r_assign <| g_nil <| d_then ?_
              refine c_flat [(4, .bool false)] ⟨rfl, trivial⟩ (fun u => ?_)
              refine c_sta ⟨w0, M, (100140, g1, .cells #[.slice A51 x49.fitems.length c52, .slice none 0 0, .int .i64 x49.flast, .int .i64 0] 61 (0, 0)) :: (100090, g10, .cells #[.int .i64 x6.fNumber, .int .i64 x6.fKind, .int .i64 x6.fFrom, .int .i64 x6.fTo, .int .i64 x6.fConn, .string x6.fBody] 40 (0, 0)) :: H, (11, ⟨.slice A51 x49.fitems.length c52, 40, 6, x49.fitems.length, x49.fitems.flatMap GItem.enc⟩) :: (12, ⟨.slice none 0 0, 63, 3, 0, []⟩) :: (100680, ⟨.slice A33 x31.length c34, 40, 6, x31.length, x31.flatMap GItem.enc⟩) :: R, φ⟩ (fun _ h => h) <| c_ret ?_
              replace hm := Option.some.inj hm
              subst hm
              refine d_retC () Try.results8 ?_ trivial (fun W h => ok_pre (H1 := [_, _]) (R1 := [_, _, _]) h (fun W hφ => hφ)) (.inr rfl)
              refine res_tmp <| res_nil ?_
              exact rfl
            ·
             replace hm := ite_f hm (of_decide_eq_false h47)
             refine g_no rfl rfl rfl rfl rfl h47 <| g_v rfl (r_pick0 rfl h47) <| g_v rfl r_move <| g_no rfl rfl rfl rfl rfl rfl <| g_no rfl rfl rfl rfl rfl rfl <| g_no rfl rfl rfl rfl rfl rfl <| g_v rfl (r_pick0 rfl rfl) <| g_v rfl r_assign <| g_nil <| d_then ?_
             refine c_flat [(4, .bool false)] ⟨rfl, trivial⟩ (fun u => ?_)
             refine c_sta ⟨w0, M, (100090, g10, .cells #[.int .i64 x6.fNumber, .int .i64 x6.fKind, .int .i64 x6.fFrom, .int .i64 x6.fTo, .int .i64 x6.fConn, .string x6.fBody] 40 (0, 0)) :: (100140, g1, .cells #[.slice none 0 0, .slice none 0 0, .int .i64 0, .int .i64 0] 61 (0, 0)) :: H, (100680, ⟨.slice A33 x31.length c34, 40, 6, x31.length, x31.flatMap GItem.enc⟩) :: R, φ⟩ (fun _ h => h) <| c_ret ?_
             replace hm := Option.some.inj hm
             subst hm
             refine d_retC () Try.results8 ?_ trivial (fun W h => ok_pre (H1 := [_, _]) (R1 := [_]) h (fun W hφ => hφ)) (.inr rfl)
             refine res_tmp <| res_nil ?_
             exact rfl
           ·
            have h44' : x12 = true := by revert h44; cases x12 <;> simp
            replace hm := ite_t hm h44'
            refine g_no rfl rfl rfl rfl rfl h44 <| g_no rfl rfl rfl rfl rfl h44 <| g_v rfl (r_pick0 rfl h44) <| g_v rfl r_move <| g_no rfl rfl rfl rfl rfl rfl <| g_no rfl rfl rfl rfl rfl rfl <| g_v rfl (r_pick0 rfl rfl) <| g_v rfl r_move <| g_no rfl rfl rfl rfl rfl rfl <| g_no rfl rfl rfl rfl rfl rfl ?_
            refine g_no rfl rfl rfl rfl rfl rfl <| g_v rfl (r_pick0 rfl rfl) <| g_v rfl r_assign <| g_nil <| d_then ?_
            refine c_flat [(4, .bool false)] ⟨rfl, trivial⟩ (fun u => ?_)
            refine c_sta ⟨w0, M, (100090, g10, .cells #[.int .i64 x6.fNumber, .int .i64 x6.fKind, .int .i64 x6.fFrom, .int .i64 x6.fTo, .int .i64 x6.fConn, .string x6.fBody] 40 (0, 0)) :: (100140, g1, .cells #[.slice none 0 0, .slice none 0 0, .int .i64 0, .int .i64 0] 61 (0, 0)) :: H, (100680, ⟨.slice A33 x31.length c34, 40, 6, x31.length, x31.flatMap GItem.enc⟩) :: R, φ⟩ (fun _ h => h) <| c_ret ?_
            replace hm := Option.some.inj hm
            subst hm
            refine d_retC () Try.results8 ?_ trivial (fun W h => ok_pre (H1 := [_, _]) (R1 := [_]) h (fun W hφ => hφ)) (.inr rfl)
            refine res_tmp <| res_nil ?_
            exact rfl
          ·
           have h43' : x41 = true := by revert h43; cases x41 <;> simp
           replace hm := ite_t hm h43'
           refine g_no rfl rfl rfl rfl rfl h43 <| g_v rfl (r_pick0 rfl h43) <| g_v rfl r_move <| g_no rfl rfl rfl rfl rfl rfl <| g_no rfl rfl rfl rfl rfl rfl <| g_no rfl rfl rfl rfl rfl rfl <| g_v rfl (r_pick0 rfl rfl) <| g_v rfl r_move <| g_no rfl rfl rfl rfl rfl rfl <| g_no rfl rfl rfl rfl rfl rfl ?_
           refine g_v rfl (r_pick0 rfl rfl) <| g_v rfl r_move <| g_no rfl rfl rfl rfl rfl rfl <| g_no rfl rfl rfl rfl rfl rfl <| g_no rfl rfl rfl rfl rfl rfl <| g_v rfl (r_pick0 rfl rfl) <| g_v rfl r_assign <| g_nil <| d_then ?_
           refine c_flat [(4, .bool false)] ⟨rfl, trivial⟩ (fun u => ?_)
           refine c_sta ⟨w0, M, (100090, g10, .cells #[.int .i64 x6.fNumber, .int .i64 x6.fKind, .int .i64 x6.fFrom, .int .i64 x6.fTo, .int .i64 x6.fConn, .string x6.fBody] 40 (0, 0)) :: (100140, g1, .cells #[.slice none 0 0, .slice none 0 0, .int .i64 0, .int .i64 0] 61 (0, 0)) :: H, (100680, ⟨.slice A33 x31.length c34, 40, 6, x31.length, x31.flatMap GItem.enc⟩) :: R, φ⟩ (fun _ h => h) <| c_ret ?_
           replace hm := Option.some.inj hm
           subst hm
           refine d_retC () Try.results8 ?_ trivial (fun W h => ok_pre (H1 := [_, _]) (R1 := [_]) h (fun W hφ => hφ)) (.inr rfl)
           refine res_tmp <| res_nil ?_
           exact rfl
         ·
          have h40' : x38 = true := by revert h40; cases x38 <;> simp
          replace hm := ite_t hm h40'
          refine g_no rfl rfl rfl rfl rfl h40 <| g_no rfl rfl rfl rfl rfl h40 <| g_no rfl rfl rfl rfl rfl h40 <| g_v rfl (r_pick0 rfl h40) <| g_v rfl r_move <| g_no rfl rfl rfl rfl rfl rfl <| g_no rfl rfl rfl rfl rfl rfl <| g_v rfl (r_pick0 rfl rfl) <| g_v rfl r_move <| g_no rfl rfl rfl rfl rfl rfl ?_
          refine g_no rfl rfl rfl rfl rfl rfl <| g_no rfl rfl rfl rfl rfl rfl <| g_v rfl (r_pick0 rfl rfl) <| g_v rfl r_move <| g_no rfl rfl rfl rfl rfl rfl <| g_no rfl rfl rfl rfl rfl rfl <| g_v rfl (r_pick0 rfl rfl) <| g_v rfl r_move <| g_no rfl rfl rfl rfl rfl rfl <| g_no rfl rfl rfl rfl rfl rfl ?_
          refine g_no rfl rfl rfl rfl rfl rfl <| g_v rfl (r_pick0 rfl rfl) <| g_v rfl r_assign <| g_nil <| d_then ?_
          refine c_flat [(4, .bool false)] ⟨rfl, trivial⟩ (fun u => ?_)
          refine c_sta ⟨w0, M, (100090, g10, .cells #[.int .i64 x6.fNumber, .int .i64 x6.fKind, .int .i64 x6.fFrom, .int .i64 x6.fTo, .int .i64 x6.fConn, .string x6.fBody] 40 (0, 0)) :: (100140, g1, .cells #[.slice none 0 0, .slice none 0 0, .int .i64 0, .int .i64 0] 61 (0, 0)) :: H, (100680, ⟨.slice A33 x31.length c34, 40, 6, x31.length, x31.flatMap GItem.enc⟩) :: R, φ⟩ (fun _ h => h) <| c_ret ?_
          replace hm := Option.some.inj hm
          subst hm
          refine d_retC () Try.results8 ?_ trivial (fun W h => ok_pre (H1 := [_, _]) (R1 := [_]) h (fun W hφ => hφ)) (.inr rfl)
          refine res_tmp <| res_nil ?_
          exact rfl
        ·
         have h37' : x7 = true := by revert h37; cases x7 <;> simp
         replace hm := ite_t hm h37'
         refine g_no rfl rfl rfl rfl rfl h37 <| g_no rfl rfl rfl rfl rfl h37 <| g_no rfl rfl rfl rfl rfl h37 <| g_v rfl (r_pick0 rfl h37) <| g_v rfl r_move <| g_no rfl rfl rfl rfl rfl rfl <| g_no rfl rfl rfl rfl rfl rfl <| g_no rfl rfl rfl rfl rfl rfl <| g_no rfl rfl rfl rfl rfl rfl <| g_v rfl (r_pick0 rfl rfl) ?_
         refine g_v rfl r_move <| g_no rfl rfl rfl rfl rfl rfl <| g_no rfl rfl rfl rfl rfl rfl <| g_v rfl (r_pick0 rfl rfl) <| g_v rfl r_move <| g_no rfl rfl rfl rfl rfl rfl <| g_no rfl rfl rfl rfl rfl rfl <| g_no rfl rfl rfl rfl rfl rfl <| g_v rfl (r_pick0 rfl rfl) <| g_v rfl r_move ?_
         refine g_no rfl rfl rfl rfl rfl rfl <| g_no rfl rfl rfl rfl rfl rfl <| g_v rfl (r_pick0 rfl rfl) <| g_v rfl r_move <| g_no rfl rfl rfl rfl rfl rfl <| g_no rfl rfl rfl rfl rfl rfl <| g_no rfl rfl rfl rfl rfl rfl <| g_v rfl (r_pick0 rfl rfl) <| g_v rfl r_assign <| g_nil ?_
         refine d_then ?_
         refine c_flat [(4, .bool false)] ⟨rfl, trivial⟩ (fun u => ?_)
         refine c_sta ⟨w0, M, (100090, g10, .cells #[.int .i64 x6.fNumber, .int .i64 x6.fKind, .int .i64 x6.fFrom, .int .i64 x6.fTo, .int .i64 x6.fConn, .string x6.fBody] 40 (0, 0)) :: (100140, g1, .cells #[.slice none 0 0, .slice none 0 0, .int .i64 0, .int .i64 0] 61 (0, 0)) :: H, (100680, ⟨.slice A33 x31.length c34, 40, 6, x31.length, x31.flatMap GItem.enc⟩) :: R, φ⟩ (fun _ h => h) <| c_ret ?_
         replace hm := Option.some.inj hm
         subst hm
         refine d_retC () Try.results8 ?_ trivial (fun W h => ok_pre (H1 := [_, _]) (R1 := [_]) h (fun W hφ => hφ)) (.inr rfl)
         refine res_tmp <| res_nil ?_
         exact rfl
       ·
        replace hm := ite_f hm (of_decide_eq_false h36)
        refine g_no rfl rfl rfl rfl rfl h36 <| g_v rfl (r_pick0 rfl h36) <| g_v rfl r_move <| g_no rfl rfl rfl rfl rfl rfl <| g_no rfl rfl rfl rfl rfl rfl <| g_no rfl rfl rfl rfl rfl rfl <| g_no rfl rfl rfl rfl rfl rfl <| g_v rfl (r_pick0 rfl rfl) <| g_v rfl r_move <| g_no rfl rfl rfl rfl rfl rfl ?_
        refine g_no rfl rfl rfl rfl rfl rfl <| g_no rfl rfl rfl rfl rfl rfl <| g_no rfl rfl rfl rfl rfl rfl <| g_v rfl (r_pick0 rfl rfl) <| g_v rfl r_move <| g_no rfl rfl rfl rfl rfl rfl <| g_no rfl rfl rfl rfl rfl rfl <| g_v rfl (r_pick0 rfl rfl) <| g_v rfl r_move <| g_no rfl rfl rfl rfl rfl rfl ?_
        refine g_no rfl rfl rfl rfl rfl rfl <| g_no rfl rfl rfl rfl rfl rfl <| g_v rfl (r_pick0 rfl rfl) <| g_v rfl r_move <| g_no rfl rfl rfl rfl rfl rfl <| g_no rfl rfl rfl rfl rfl rfl <| g_v rfl (r_pick0 rfl rfl) <| g_v rfl r_move <| g_no rfl rfl rfl rfl rfl rfl <| g_no rfl rfl rfl rfl rfl rfl ?_
        refine g_no rfl rfl rfl rfl rfl rfl <| g_v rfl (r_pick0 rfl rfl) <| g_v rfl r_assign <| g_nil <| d_then ?_
        refine c_flat [(4, .bool false)] ⟨rfl, trivial⟩ (fun u => ?_)
        refine c_sta ⟨w0, M, (100090, g10, .cells #[.int .i64 x6.fNumber, .int .i64 x6.fKind, .int .i64 x6.fFrom, .int .i64 x6.fTo, .int .i64 x6.fConn, .string x6.fBody] 40 (0, 0)) :: (100140, g1, .cells #[.slice none 0 0, .slice none 0 0, .int .i64 0, .int .i64 0] 61 (0, 0)) :: H, (100680, ⟨.slice A33 x31.length c34, 40, 6, x31.length, x31.flatMap GItem.enc⟩) :: R, φ⟩ (fun _ h => h) <| c_ret ?_
        replace hm := Option.some.inj hm
        subst hm
        refine d_retC () Try.results8 ?_ trivial (fun W h => ok_pre (H1 := [_, _]) (R1 := [_]) h (fun W hφ => hφ)) (.inr rfl)
        refine res_tmp <| res_nil ?_
        exact rfl
      ·
       replace hm := ite_f hm (of_decide_eq_false h30)
       refine g_no rfl rfl rfl rfl rfl h30 <| g_no rfl rfl rfl rfl rfl h30 <| g_no rfl rfl rfl rfl rfl h30 <| g_v rfl (r_pick0 rfl h30) <| g_v rfl r_move <| g_no rfl rfl rfl rfl rfl rfl <| g_no rfl rfl rfl rfl rfl rfl <| g_v rfl (r_pick0 rfl rfl) <| g_v rfl r_move <| g_no rfl rfl rfl rfl rfl rfl ?_
       refine g_no rfl rfl rfl rfl rfl rfl <| g_no rfl rfl rfl rfl rfl rfl <| g_no rfl rfl rfl rfl rfl rfl <| g_v rfl (r_pick0 rfl rfl) <| g_v rfl r_move <| g_no rfl rfl rfl rfl rfl rfl <| g_no rfl rfl rfl rfl rfl rfl <| g_no rfl rfl rfl rfl rfl rfl <| g_no rfl rfl rfl rfl rfl rfl <| g_v rfl (r_pick0 rfl rfl) ?_
       refine g_v rfl r_move <| g_no rfl rfl rfl rfl rfl rfl <| g_no rfl rfl rfl rfl rfl rfl <| g_v rfl (r_pick0 rfl rfl) <| g_v rfl r_move <| g_no rfl rfl rfl rfl rfl rfl <| g_no rfl rfl rfl rfl rfl rfl <| g_no rfl rfl rfl rfl rfl rfl <| g_v rfl (r_pick0 rfl rfl) <| g_v rfl r_move ?_
       refine g_no rfl rfl rfl rfl rfl rfl <| g_no rfl rfl rfl rfl rfl rfl <| g_v rfl (r_pick0 rfl rfl) <| g_v rfl r_move <| g_no rfl rfl rfl rfl rfl rfl <| g_no rfl rfl rfl rfl rfl rfl <| g_no rfl rfl rfl rfl rfl rfl <| g_v rfl (r_pick0 rfl rfl) <| g_v rfl r_assign <| g_nil ?_
       refine d_then ?_
       refine c_flat [(4, .bool false)] ⟨rfl, trivial⟩ (fun u => ?_)
       refine c_ret ?_
       replace hm := Option.some.inj hm
       subst hm
       refine d_retC () Try.results8 ?_ trivial (fun W h => ok_pre (H1 := [_, _]) (R1 := []) h (fun W hφ => hφ)) (.inr rfl)
       refine res_tmp <| res_nil ?_
       exact rfl
     ·
      have h27' : x25 = true := by revert h27; cases x25 <;> simp
      replace hm := ite_t hm h27'
      refine g_no rfl rfl rfl rfl rfl h27 <| g_no rfl rfl rfl rfl rfl h27 <| g_no rfl rfl rfl rfl rfl h27 <| g_v rfl (r_pick0 rfl h27) <| g_v rfl r_move <| g_no rfl rfl rfl rfl rfl rfl <| g_no rfl rfl rfl rfl rfl rfl <| g_no rfl rfl rfl rfl rfl rfl <| g_no rfl rfl rfl rfl rfl rfl <| g_v rfl (r_pick0 rfl rfl) ?_
      refine g_v rfl r_move <| g_no rfl rfl rfl rfl rfl rfl <| g_no rfl rfl rfl rfl rfl rfl <| g_v rfl (r_pick0 rfl rfl) <| g_v rfl r_move <| g_no rfl rfl rfl rfl rfl rfl <| g_no rfl rfl rfl rfl rfl rfl <| g_no rfl rfl rfl rfl rfl rfl <| g_no rfl rfl rfl rfl rfl rfl <| g_v rfl (r_pick0 rfl rfl) ?_
      refine g_v rfl r_move <| g_no rfl rfl rfl rfl rfl rfl <| g_no rfl rfl rfl rfl rfl rfl <| g_no rfl rfl rfl rfl rfl rfl <| g_no rfl rfl rfl rfl rfl rfl <| g_v rfl (r_pick0 rfl rfl) <| g_v rfl r_move <| g_no rfl rfl rfl rfl rfl rfl <| g_no rfl rfl rfl rfl rfl rfl <| g_v rfl (r_pick0 rfl rfl) ?_
      refine g_v rfl r_move <| g_no rfl rfl rfl rfl rfl rfl <| g_no rfl rfl rfl rfl rfl rfl <| g_no rfl rfl rfl rfl rfl rfl <| g_v rfl (r_pick0 rfl rfl) <| g_v rfl r_move <| g_no rfl rfl rfl rfl rfl rfl <| g_no rfl rfl rfl rfl rfl rfl <| g_v rfl (r_pick0 rfl rfl) <| g_v rfl r_move ?_
      refine g_no rfl rfl rfl rfl rfl rfl <| g_no rfl rfl rfl rfl rfl rfl <| g_no rfl rfl rfl rfl rfl rfl <| g_v rfl (r_pick0 rfl rfl) <| g_v rfl r_assign <| g_nil <| d_then ?_
      refine c_flat [(4, .bool false)] ⟨rfl, trivial⟩ (fun u => ?_)
      refine c_ret ?_
      replace hm := Option.some.inj hm
      subst hm
      refine d_retC () Try.results8 ?_ trivial (fun W h => ok_pre (H1 := [_, _]) (R1 := []) h (fun W hφ => hφ)) (.inr rfl)
      refine res_tmp <| res_nil ?_
      exact rfl
    ·
     have h24' : x22 = true := by revert h24; cases x22 <;> simp
     replace hm := ite_t hm h24'
     refine g_no rfl rfl rfl rfl rfl h24 <| g_no rfl rfl rfl rfl rfl h24 <| g_no rfl rfl rfl rfl rfl h24 <| g_v rfl (r_pick0 rfl h24) <| g_v rfl r_move <| g_no rfl rfl rfl rfl rfl rfl <| g_no rfl rfl rfl rfl rfl rfl <| g_no rfl rfl rfl rfl rfl rfl <| g_no rfl rfl rfl rfl rfl rfl <| g_v rfl (r_pick0 rfl rfl) ?_
     refine g_v rfl r_move <| g_no rfl rfl rfl rfl rfl rfl <| g_no rfl rfl rfl rfl rfl rfl <| g_no rfl rfl rfl rfl rfl rfl <| g_no rfl rfl rfl rfl rfl rfl <| g_v rfl (r_pick0 rfl rfl) <| g_v rfl r_move <| g_no rfl rfl rfl rfl rfl rfl <| g_no rfl rfl rfl rfl rfl rfl <| g_v rfl (r_pick0 rfl rfl) ?_
     refine g_v rfl r_move <| g_no rfl rfl rfl rfl rfl rfl <| g_no rfl rfl rfl rfl rfl rfl <| g_no rfl rfl rfl rfl rfl rfl <| g_no rfl rfl rfl rfl rfl rfl <| g_v rfl (r_pick0 rfl rfl) <| g_v rfl r_move <| g_no rfl rfl rfl rfl rfl rfl <| g_no rfl rfl rfl rfl rfl rfl <| g_no rfl rfl rfl rfl rfl rfl ?_
     refine g_no rfl rfl rfl rfl rfl rfl <| g_v rfl (r_pick0 rfl rfl) <| g_v rfl r_move <| g_no rfl rfl rfl rfl rfl rfl <| g_no rfl rfl rfl rfl rfl rfl <| g_v rfl (r_pick0 rfl rfl) <| g_v rfl r_move <| g_no rfl rfl rfl rfl rfl rfl <| g_no rfl rfl rfl rfl rfl rfl <| g_no rfl rfl rfl rfl rfl rfl ?_
     refine g_v rfl (r_pick0 rfl rfl) <| g_v rfl r_move <| g_no rfl rfl rfl rfl rfl rfl <| g_no rfl rfl rfl rfl rfl rfl <| g_v rfl (r_pick0 rfl rfl) <| g_v rfl r_move <| g_no rfl rfl rfl rfl rfl rfl <| g_no rfl rfl rfl rfl rfl rfl <| g_no rfl rfl rfl rfl rfl rfl <| g_v rfl (r_pick0 rfl rfl) ?_
     refine g_v rfl r_assign <| g_nil <| d_then ?_
     refine c_flat [(4, .bool false)] ⟨rfl, trivial⟩ (fun u => ?_)
     refine c_ret ?_
     replace hm := Option.some.inj hm
     subst hm
     refine d_retC () Try.results8 ?_ trivial (fun W h => ok_pre (H1 := [_, _]) (R1 := []) h (fun W hφ => hφ)) (.inr rfl)
     refine res_tmp <| res_nil ?_
     exact rfl
   ·
    have h21' : x3 = true := by revert h21; cases x3 <;> simp
    replace hm := ite_t hm h21'
    refine g_no rfl rfl rfl rfl rfl h21 <| g_no rfl rfl rfl rfl rfl h21 <| g_no rfl rfl rfl rfl rfl h21 <| g_no rfl rfl rfl rfl rfl h21 <| g_v rfl (r_pick0 rfl h21) <| g_v rfl r_move <| g_no rfl rfl rfl rfl rfl rfl <| g_no rfl rfl rfl rfl rfl rfl <| g_no rfl rfl rfl rfl rfl rfl <| g_no rfl rfl rfl rfl rfl rfl ?_
    refine g_v rfl (r_pick0 rfl rfl) <| g_v rfl r_move <| g_no rfl rfl rfl rfl rfl rfl <| g_no rfl rfl rfl rfl rfl rfl <| g_no rfl rfl rfl rfl rfl rfl <| g_no rfl rfl rfl rfl rfl rfl <| g_v rfl (r_pick0 rfl rfl) <| g_v rfl r_move <| g_no rfl rfl rfl rfl rfl rfl <| g_no rfl rfl rfl rfl rfl rfl ?_
    refine g_no rfl rfl rfl rfl rfl rfl <| g_no rfl rfl rfl rfl rfl rfl <| g_v rfl (r_pick0 rfl rfl) <| g_v rfl r_move <| g_no rfl rfl rfl rfl rfl rfl <| g_no rfl rfl rfl rfl rfl rfl <| g_v rfl (r_pick0 rfl rfl) <| g_v rfl r_move <| g_no rfl rfl rfl rfl rfl rfl <| g_no rfl rfl rfl rfl rfl rfl ?_
    refine g_no rfl rfl rfl rfl rfl rfl <| g_no rfl rfl rfl rfl rfl rfl <| g_v rfl (r_pick0 rfl rfl) <| g_v rfl r_move <| g_no rfl rfl rfl rfl rfl rfl <| g_no rfl rfl rfl rfl rfl rfl <| g_no rfl rfl rfl rfl rfl rfl <| g_no rfl rfl rfl rfl rfl rfl <| g_v rfl (r_pick0 rfl rfl) <| g_v rfl r_move ?_
    refine g_no rfl rfl rfl rfl rfl rfl <| g_no rfl rfl rfl rfl rfl rfl <| g_v rfl (r_pick0 rfl rfl) <| g_v rfl r_move <| g_no rfl rfl rfl rfl rfl rfl <| g_no rfl rfl rfl rfl rfl rfl <| g_no rfl rfl rfl rfl rfl rfl <| g_v rfl (r_pick0 rfl rfl) <| g_v rfl r_move <| g_no rfl rfl rfl rfl rfl rfl ?_
    refine g_no rfl rfl rfl rfl rfl rfl <| g_v rfl (r_pick0 rfl rfl) <| g_v rfl r_move <| g_no rfl rfl rfl rfl rfl rfl <| g_no rfl rfl rfl rfl rfl rfl <| g_no rfl rfl rfl rfl rfl rfl <| g_v rfl (r_pick0 rfl rfl) <| g_v rfl r_assign <| g_nil <| d_then ?_
    refine c_flat [(4, .bool false)] ⟨rfl, trivial⟩ (fun u => ?_)
    refine c_ret ?_
    replace hm := Option.some.inj hm
    subst hm
    refine d_retC () Try.results8 ?_ trivial (fun W h => ok_pre (H1 := [_, _]) (R1 := []) h (fun W hφ => hφ)) (.inr rfl)
    refine res_tmp <| res_nil ?_
    exact rfl
  ·
   have h20' : x18 = true := by revert h20; cases x18 <;> simp
   replace hm := ite_t hm h20'
   refine g_no rfl rfl rfl rfl rfl h20 <| g_v rfl (r_pick0 rfl h20) <| g_v rfl r_move <| g_no rfl rfl rfl rfl rfl rfl <| g_no rfl rfl rfl rfl rfl rfl <| g_no rfl rfl rfl rfl rfl rfl <| g_no rfl rfl rfl rfl rfl rfl <| g_no rfl rfl rfl rfl rfl rfl <| g_v rfl (r_pick0 rfl rfl) <| g_v rfl r_move ?_
   refine g_no rfl rfl rfl rfl rfl rfl <| g_no rfl rfl rfl rfl rfl rfl <| g_no rfl rfl rfl rfl rfl rfl <| g_no rfl rfl rfl rfl rfl rfl <| g_v rfl (r_pick0 rfl rfl) <| g_v rfl r_move <| g_no rfl rfl rfl rfl rfl rfl <| g_no rfl rfl rfl rfl rfl rfl <| g_no rfl rfl rfl rfl rfl rfl <| g_no rfl rfl rfl rfl rfl rfl ?_
   refine g_v rfl (r_pick0 rfl rfl) <| g_v rfl r_move <| g_no rfl rfl rfl rfl rfl rfl <| g_no rfl rfl rfl rfl rfl rfl <| g_no rfl rfl rfl rfl rfl rfl <| g_no rfl rfl rfl rfl rfl rfl <| g_v rfl (r_pick0 rfl rfl) <| g_v rfl r_move <| g_no rfl rfl rfl rfl rfl rfl <| g_no rfl rfl rfl rfl rfl rfl ?_
   refine g_v rfl (r_pick0 rfl rfl) <| g_v rfl r_move <| g_no rfl rfl rfl rfl rfl rfl <| g_no rfl rfl rfl rfl rfl rfl <| g_no rfl rfl rfl rfl rfl rfl <| g_no rfl rfl rfl rfl rfl rfl <| g_v rfl (r_pick0 rfl rfl) <| g_v rfl r_move <| g_no rfl rfl rfl rfl rfl rfl <| g_no rfl rfl rfl rfl rfl rfl ?_
   refine g_no rfl rfl rfl rfl rfl rfl <| g_no rfl rfl rfl rfl rfl rfl <| g_v rfl (r_pick0 rfl rfl) <| g_v rfl r_move <| g_no rfl rfl rfl rfl rfl rfl <| g_no rfl rfl rfl rfl rfl rfl <| g_v rfl (r_pick0 rfl rfl) <| g_v rfl r_move <| g_no rfl rfl rfl rfl rfl rfl <| g_no rfl rfl rfl rfl rfl rfl ?_
   refine g_no rfl rfl rfl rfl rfl rfl <| g_v rfl (r_pick0 rfl rfl) <| g_v rfl r_move <| g_no rfl rfl rfl rfl rfl rfl <| g_no rfl rfl rfl rfl rfl rfl <| g_v rfl (r_pick0 rfl rfl) <| g_v rfl r_move <| g_no rfl rfl rfl rfl rfl rfl <| g_no rfl rfl rfl rfl rfl rfl <| g_no rfl rfl rfl rfl rfl rfl ?_
   refine g_v rfl (r_pick0 rfl rfl) <| g_v rfl r_assign <| g_nil <| d_then ?_
   refine c_flat [(4, .bool false)] ⟨rfl, trivial⟩ (fun u => ?_)
   refine c_ret ?_
   replace hm := Option.some.inj hm
   subst hm
   refine d_retC () Try.results8 ?_ trivial (fun W h => ok_pre (H1 := [_, _]) (R1 := []) h (fun W hφ => hφ)) (.inr rfl)
   refine res_tmp <| res_nil ?_
   exact rfl
 ·
  replace hm := ite_f hm (bool_nt h17)
  refine g_no rfl rfl rfl rfl rfl h17 <| g_no rfl rfl rfl rfl rfl h17 <| g_no rfl rfl rfl rfl rfl h17 <| g_no rfl rfl rfl rfl rfl h17 <| g_v rfl (r_pick0 rfl h17) <| g_v rfl r_move <| g_no rfl rfl rfl rfl rfl rfl <| g_no rfl rfl rfl rfl rfl rfl <| g_v rfl (r_pick0 rfl rfl) <| g_v rfl r_move ?_
  refine g_no rfl rfl rfl rfl rfl rfl <| g_no rfl rfl rfl rfl rfl rfl <| g_no rfl rfl rfl rfl rfl rfl <| g_no rfl rfl rfl rfl rfl rfl <| g_no rfl rfl rfl rfl rfl rfl <| g_v rfl (r_pick0 rfl rfl) <| g_v rfl r_move <| g_no rfl rfl rfl rfl rfl rfl <| g_no rfl rfl rfl rfl rfl rfl <| g_no rfl rfl rfl rfl rfl rfl ?_
  refine g_no rfl rfl rfl rfl rfl rfl <| g_v rfl (r_pick0 rfl rfl) <| g_v rfl r_move <| g_no rfl rfl rfl rfl rfl rfl <| g_no rfl rfl rfl rfl rfl rfl <| g_no rfl rfl rfl rfl rfl rfl <| g_no rfl rfl rfl rfl rfl rfl <| g_v rfl (r_pick0 rfl rfl) <| g_v rfl r_move <| g_no rfl rfl rfl rfl rfl rfl ?_
  refine g_no rfl rfl rfl rfl rfl rfl <| g_no rfl rfl rfl rfl rfl rfl <| g_no rfl rfl rfl rfl rfl rfl <| g_v rfl (r_pick0 rfl rfl) <| g_v rfl r_move <| g_no rfl rfl rfl rfl rfl rfl <| g_no rfl rfl rfl rfl rfl rfl <| g_v rfl (r_pick0 rfl rfl) <| g_v rfl r_move <| g_no rfl rfl rfl rfl rfl rfl ?_
  refine g_no rfl rfl rfl rfl rfl rfl <| g_no rfl rfl rfl rfl rfl rfl <| g_no rfl rfl rfl rfl rfl rfl <| g_v rfl (r_pick0 rfl rfl) <| g_v rfl r_move <| g_no rfl rfl rfl rfl rfl rfl <| g_no rfl rfl rfl rfl rfl rfl <| g_no rfl rfl rfl rfl rfl rfl <| g_no rfl rfl rfl rfl rfl rfl <| g_v rfl (r_pick0 rfl rfl) ?_
  refine g_v rfl r_move <| g_no rfl rfl rfl rfl rfl rfl <| g_no rfl rfl rfl rfl rfl rfl <| g_v rfl (r_pick0 rfl rfl) <| g_v rfl r_move <| g_no rfl rfl rfl rfl rfl rfl <| g_no rfl rfl rfl rfl rfl rfl <| g_no rfl rfl rfl rfl rfl rfl <| g_v rfl (r_pick0 rfl rfl) <| g_v rfl r_move ?_
  refine g_no rfl rfl rfl rfl rfl rfl <| g_no rfl rfl rfl rfl rfl rfl <| g_v rfl (r_pick0 rfl rfl) <| g_v rfl r_move <| g_no rfl rfl rfl rfl rfl rfl <| g_no rfl rfl rfl rfl rfl rfl <| g_no rfl rfl rfl rfl rfl rfl <| g_v rfl (r_pick0 rfl rfl) <| g_v rfl r_assign <| g_nil ?_
  refine d_then ?_
  refine c_flat [(4, .bool false)] ⟨rfl, trivial⟩ (fun u => ?_)
  refine c_ret ?_
  replace hm := Option.some.inj hm
  subst hm
  refine d_retC () Try.results8 ?_ trivial (fun W h => ok_pre (H1 := [_, _]) (R1 := []) h (fun W hφ => hφ)) (.inr rfl)
  refine res_tmp <| res_nil ?_
  exact rfl
end Go.Proofs.Ythajfodilodhaaa
