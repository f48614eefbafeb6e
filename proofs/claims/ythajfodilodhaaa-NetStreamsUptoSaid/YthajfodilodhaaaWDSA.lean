import Derived.Test.YthajfodilodhaaaQL
import Derived.Test.YthajfodilodhaaaSV
import Derived.Test.YthajfodilodhaaaSL
import Derived.Test.YthajfodilodhaaaSH
set_option maxRecDepth 100000
set_option maxHeartbeats 4000000
set_option linter.unusedVariables false
set_option linter.unusedSimpArgs false
namespace Go.Proofs.Ythajfodilodhaaa
open Go.RowKit Go.Proofs.YthajfodilodhaaaW.PrintLast
structure Glaw08_Op where
  fKind : Int
  fA : Int
  fB : Int
  fN : Int
  fBody : ByteArray
  deriving DecidableEq
def Glaw08_Op.enc (e : Glaw08_Op) : List Value := [.int .i64 e.fKind, .int .i64 e.fA, .int .i64 e.fB, .int .i64 e.fN, .string e.fBody]
structure GItem where
  fNumber : Int
  fKind : Int
  fFrom : Int
  fTo : Int
  fConn : Int
  fBody : ByteArray
  deriving DecidableEq
def GItem.enc (e : GItem) : List Value := [.int .i64 e.fNumber, .int .i64 e.fKind, .int .i64 e.fFrom, .int .i64 e.fTo, .int .i64 e.fConn, .string e.fBody]
structure Garray30 where
  a0 : Int
  a1 : Int
  deriving DecidableEq
def Garray30.enc (e : Garray30) : List Value := [.int .i64 e.a0, .int .i64 e.a1]
structure Gnet_conn where
  fnumber : Int
  fends : Garray30
  deriving DecidableEq
def Gnet_conn.enc (e : Gnet_conn) : List Value := [.int .i64 e.fnumber, .int .i64 e.fends.a0, .int .i64 e.fends.a1]
structure Gnet_Net where
  fitems : List GItem
  fconns : List Gnet_conn
  flast : Int
  fopens : Int
theorem bld61_0  : ∀ W, (Instr.build 61 #[]).run Try.prog W = .ok (.agg #[.slice none 0 0, .slice none 0 0, .int .i64 0, .int .i64 0]) W := fun _ => by kernel_rfl
noncomputable def m_net_New  : Option Gnet_Net :=
  some (⟨([] : List GItem), ([] : List Gnet_conn), 0, 0⟩ : Gnet_Net)
theorem c_net_New {w0 : World} {M : Nat → Prop} {H : List (Nat × Nat × Obj)} {R : List (Nat × Row)} {φ : World → Prop}  (r : Gnet_Net) (hm : m_net_New = some r) :
    Cn Try.prog 10 #[] ⟨w0, M, H, R, φ⟩ (fun x : Option Addr × Nat × Option Addr × Nat × Nat => .pointer (some ⟨x.2.2.2.2, 0, none⟩)) (fun x => r.fitems.length ≤ x.2.1 ∧ r.fconns.length ≤ x.2.2.2.1) (fun x => ⟨w0, M, (3000, x.2.2.2.2, .cells #[.slice x.1 r.fitems.length x.2.1, .slice x.2.2.1 r.fconns.length x.2.2.2.1, .int .i64 r.flast, .int .i64 r.fopens] 61 (0, 0)) :: H, (2000, ⟨.slice x.1 r.fitems.length x.2.1, 40, 6, r.fitems.length, r.fitems.flatMap GItem.enc⟩) :: (2001, ⟨.slice x.2.2.1 r.fconns.length x.2.2.2.1, 63, 3, r.fconns.length, r.fconns.flatMap Gnet_conn.enc⟩) :: R, φ⟩) := by
 unfold m_net_New at hm
 refine cn_intro (fn := Try.f10) (N := 3) Try.func10 rfl Try.ntmps10 rfl <| c_seq <| c_region <| g_v rfl r_assign <| g_nil <| d_then <| c_seq <| c_region <| g_v rfl (r_build _ rfl (bld61_0)) ?_
 refine g_e rfl (e_box 100020 rfl) (fun g1 _ => ?_)
 refine g_v rfl r_assign <| g_nil <| d_then <| c_ret ?_
 replace hm := Option.some.inj hm
 subst hm
 refine d_sta _ (fun W h => nilR h 11 40 6) <| d_sta _ (fun W h => nilR h 12 63 3) <| d_sta _ (fun W h => ok_frontR (t := 12) (t' := 2001) h rfl) <| d_sta _ (fun W h => ok_frontR (t := 11) (t' := 2000) h rfl) <| d_sta _ (fun W h => ok_front (t := 100020) (t' := 3000) h rfl) ?_
 refine d_retC (none, 0, none, 0, g1) Try.results10 ?_ ⟨(Nat.le_refl 0), (Nat.le_refl 0)⟩ (fun W h => h.phi (fun W hφ => hφ)) (.inr rfl)
 refine res_tmp <| res_nil ?_
 exact rfl
noncomputable def m_net_Net_full (o0 : Gnet_Net) : Option Bool :=
  some (decide (1024 ≤ (o0.fitems.length : Int)))
theorem c_net_Net_full {w0 : World} {M : Nat → Prop} {H : List (Nat × Nat × Obj)} {R : List (Nat × Row)} {φ : World → Prop} (go0 : Nat) (o0 : Gnet_Net) (Ao0_0 : Option Addr) (co0_0 : Nat) (hco0_0 : o0.fitems.length ≤ co0_0) (Ao0_1 : Option Addr) (co0_1 : Nat) (hco0_1 : o0.fconns.length ≤ co0_1) (r : Bool) (hm : m_net_Net_full o0 = some r) :
    Cn Try.prog 27 #[.pointer (some ⟨go0, 0, none⟩)] ⟨w0, M, (1000, go0, .cells #[.slice Ao0_0 o0.fitems.length co0_0, .slice Ao0_1 o0.fconns.length co0_1, .int .i64 o0.flast, .int .i64 o0.fopens] 61 (0, 0)) :: H, (1000, ⟨.slice Ao0_0 o0.fitems.length co0_0, 40, 6, o0.fitems.length, o0.fitems.flatMap GItem.enc⟩) :: (1001, ⟨.slice Ao0_1 o0.fconns.length co0_1, 63, 3, o0.fconns.length, o0.fconns.flatMap Gnet_conn.enc⟩) :: R, φ⟩ (fun x : Unit => .bool r) (fun x => True) (fun x => ⟨w0, M, (1000, go0, .cells #[.slice Ao0_0 o0.fitems.length co0_0, .slice Ao0_1 o0.fconns.length co0_1, .int .i64 o0.flast, .int .i64 o0.fopens] 61 (0, 0)) :: H, (1000, ⟨.slice Ao0_0 o0.fitems.length co0_0, 40, 6, o0.fitems.length, o0.fitems.flatMap GItem.enc⟩) :: (1001, ⟨.slice Ao0_1 o0.fconns.length co0_1, 63, 3, o0.fconns.length, o0.fconns.flatMap Gnet_conn.enc⟩) :: R, φ⟩) := by
 unfold m_net_Net_full at hm
 refine cn_intro (fn := Try.f27) (N := 13) Try.func27 rfl Try.ntmps27 rfl <| c_seq <| c_region <| g_v rfl r_assign <| g_nil <| d_then <| c_seq <| c_region <| g_v rfl r_move <| g_v rfl (r_eqlP1 Try.underlying24 rfl rfl) ?_
 refine g_v rfl r_move <| g_do rfl rfl rfl rfl rfl rfl <| g_v rfl r_move <| g_do rfl rfl rfl rfl rfl rfl <| g_v rfl (r_nilck rfl) <| g_do rfl rfl rfl rfl rfl rfl <| g_v rfl (r_field (n := 0) Try.underlying61 rfl Try.sizeOf52 rfl rfl) <| g_do rfl rfl rfl rfl rfl rfl <| g_v rfl (r_load (tag := 1000) rfl rfl rfl Try.isAgg52) <| g_do rfl rfl rfl rfl rfl rfl ?_
 refine g_v rfl (r_lenL Try.underlying52 rfl) <| g_do rfl rfl rfl rfl rfl rfl <| g_v rfl (r_geq rfl rfl) <| g_v rfl (r_pick0 rfl rfl) <| g_v rfl r_assign <| g_nil <| d_then ?_
 refine c_flat [(2, .bool (decide (1024 ≤ (o0.fitems.length : Int))))] ⟨rfl, trivial⟩ (fun u => ?_)
 refine c_sta ⟨w0, M, (1000, go0, .cells #[.slice Ao0_0 o0.fitems.length co0_0, .slice Ao0_1 o0.fconns.length co0_1, .int .i64 o0.flast, .int .i64 o0.fopens] 61 (0, 0)) :: H, (1000, ⟨.slice Ao0_0 o0.fitems.length co0_0, 40, 6, o0.fitems.length, o0.fitems.flatMap GItem.enc⟩) :: (1001, ⟨.slice Ao0_1 o0.fconns.length co0_1, 63, 3, o0.fconns.length, o0.fconns.flatMap Gnet_conn.enc⟩) :: R, φ⟩ (fun _ h => h) <| c_ret ?_
 replace hm := Option.some.inj hm
 subst hm
 refine d_retC () Try.results27 ?_ trivial (fun W h => h.phi (fun W hφ => hφ)) (.inr rfl)
 refine res_tmp <| res_nil ?_
 exact rfl
theorem bld40_1 (z0 : Int) (z1 : Int) (z2 : Int) (z3 : ByteArray) : ∀ W, (Instr.build 40 #[(1, .int .i64 z0), (2, .int .i64 z1), (3, .int .i64 z2), (5, .string z3)]).run Try.prog W = .ok (.agg #[.int .i64 0, .int .i64 z0, .int .i64 z1, .int .i64 z2, .int .i64 0, .string z3]) W := fun _ => by kernel_rfl
theorem lit40_2 (z0 : Int) (z1 : Int) (z2 : Int) (z3 : Int) (z4 : Int) (z5 : ByteArray) : Try.prog.builtSlice 40 1 [(0, .agg #[.int .i64 z0, .int .i64 z1, .int .i64 z2, .int .i64 z3, .int .i64 z4, .string z5])] = some #[.int .i64 z0, .int .i64 z1, .int .i64 z2, .int .i64 z3, .int .i64 z4, .string z5] := by kernel_rfl
theorem inf40_3  : (Try.prog.info? 40).map (fun i => (i.zero, i.size, i.bytes)) = some (some (.agg #[.int .i64 0, .int .i64 0, .int .i64 0, .int .i64 0, .int .i64 0, .string (⟨#[]⟩ : ByteArray)]), 6, 56) := by kernel_rfl
noncomputable def m_net_Net_add (p1 : GItem) (o0 : Gnet_Net) : Option Gnet_Net :=
  (app 56 o0.fitems [(⟨w64 (o0.flast + 1), p1.fKind, p1.fFrom, p1.fTo, p1.fConn, p1.fBody⟩ : GItem)]).bind fun l11 =>
  some (⟨l11, o0.fconns, w64 (o0.flast + 1), o0.fopens⟩ : Gnet_Net)
theorem c_net_Net_add {w0 : World} {M : Nat → Prop} {H : List (Nat × Nat × Obj)} {R : List (Nat × Row)} {φ : World → Prop} (p1 : GItem) (go0 : Nat) (o0 : Gnet_Net) (Ao0_0 : Option Addr) (co0_0 : Nat) (hco0_0 : o0.fitems.length ≤ co0_0) (Ao0_1 : Option Addr) (co0_1 : Nat) (hco0_1 : o0.fconns.length ≤ co0_1) (r : Gnet_Net) (hm : m_net_Net_add p1 o0 = some r) :
    Cn Try.prog 28 #[.pointer (some ⟨go0, 0, none⟩), .agg #[.int .i64 p1.fNumber, .int .i64 p1.fKind, .int .i64 p1.fFrom, .int .i64 p1.fTo, .int .i64 p1.fConn, .string p1.fBody]] ⟨w0, M, (1000, go0, .cells #[.slice Ao0_0 o0.fitems.length co0_0, .slice Ao0_1 o0.fconns.length co0_1, .int .i64 o0.flast, .int .i64 o0.fopens] 61 (0, 0)) :: H, (1000, ⟨.slice Ao0_0 o0.fitems.length co0_0, 40, 6, o0.fitems.length, o0.fitems.flatMap GItem.enc⟩) :: (1001, ⟨.slice Ao0_1 o0.fconns.length co0_1, 63, 3, o0.fconns.length, o0.fconns.flatMap Gnet_conn.enc⟩) :: R, φ⟩ (fun x : Option Addr × Nat => .tuple #[]) (fun x => r.fitems.length ≤ x.2) (fun x => ⟨w0, M, (1000, go0, .cells #[.slice x.1 r.fitems.length x.2, .slice Ao0_1 o0.fconns.length co0_1, .int .i64 r.flast, .int .i64 o0.fopens] 61 (0, 0)) :: H, (2000, ⟨.slice x.1 r.fitems.length x.2, 40, 6, r.fitems.length, r.fitems.flatMap GItem.enc⟩) :: (1001, ⟨.slice Ao0_1 o0.fconns.length co0_1, 63, 3, o0.fconns.length, o0.fconns.flatMap Gnet_conn.enc⟩) :: R, φ⟩) := by
 unfold m_net_Net_add at hm
 refine cn_intro (fn := Try.f28) (N := 26) Try.func28 rfl Try.ntmps28 rfl <| c_seq <| c_region ?_
 refine g_e rfl (e_box 100030 rfl) (fun g1 _ => ?_)
 refine g_nil <| d_then <| c_seq <| c_region <| g_v rfl r_move <| g_v rfl (r_nilck rfl) <| g_v rfl (r_field (n := 2) Try.underlying61 rfl Try.sizeOf3 rfl rfl) <| g_v rfl (r_load (tag := 1000) rfl rfl rfl Try.isAgg3) <| g_v rfl (r_add rfl rfl rfl) <| g_v rfl (r_nilck rfl) ?_
 refine g_v rfl (r_field (n := 2) Try.underlying61 rfl Try.sizeOf3 rfl rfl) <| g_storeL (tag := 1000) rfl rfl rfl rfl Try.sizeOf3 rfl rfl <| g_nil <| d_then ?_
 refine c_flat [(0, .pointer (some ⟨go0, 0, none⟩)), (3, .pointer (some ⟨g1, 0, none⟩))] ⟨rfl, rfl, trivial⟩ (fun u => ?_)
 refine c_sta ⟨w0, M, (100030, g1, .cells #[.int .i64 p1.fNumber, .int .i64 p1.fKind, .int .i64 p1.fFrom, .int .i64 p1.fTo, .int .i64 p1.fConn, .string p1.fBody] 40 (0, 0)) :: (1000, go0, .cells #[.slice Ao0_0 o0.fitems.length co0_0, .slice Ao0_1 o0.fconns.length co0_1, .int .i64 (w64 (o0.flast + 1)), .int .i64 o0.fopens] 61 (0, 0)) :: H, (1000, ⟨.slice Ao0_0 o0.fitems.length co0_0, 40, 6, o0.fitems.length, o0.fitems.flatMap GItem.enc⟩) :: (1001, ⟨.slice Ao0_1 o0.fconns.length co0_1, 63, 3, o0.fconns.length, o0.fconns.flatMap Gnet_conn.enc⟩) :: R, φ⟩ (fun _ h => h) <| c_seq <| c_region <| g_v rfl r_move <| g_v rfl (r_nilck rfl) <| g_v rfl (r_field (n := 2) Try.underlying61 rfl Try.sizeOf3 rfl rfl) <| g_v rfl (r_load (tag := 1000) rfl rfl rfl Try.isAgg3) <| g_v rfl (r_field (n := 0) Try.underlying40 rfl Try.sizeOf3 rfl rfl) <| g_storeL (tag := 100030) rfl rfl rfl rfl Try.sizeOf3 rfl rfl <| g_nil ?_
 refine d_then <| ga_start (n := 11) ⟨w0, M, (100030, g1, .cells #[.int .i64 (w64 (o0.flast + 1)), .int .i64 p1.fKind, .int .i64 p1.fFrom, .int .i64 p1.fTo, .int .i64 p1.fConn, .string p1.fBody] 40 (0, 0)) :: (1000, go0, .cells #[.slice Ao0_0 o0.fitems.length co0_0, .slice Ao0_1 o0.fconns.length co0_1, .int .i64 (w64 (o0.flast + 1)), .int .i64 o0.fopens] 61 (0, 0)) :: H, (1001, ⟨.slice Ao0_1 o0.fconns.length co0_1, 63, 3, o0.fconns.length, o0.fconns.flatMap Gnet_conn.enc⟩) :: R, φ⟩ [10] #[false, false, false, false, false, false, false, false, false, false, false] (fun W h => (h.dropR (t := 1000) rfl).phi (fun W hφ => hφ)) mixed rfl rfl <| ga_v (i := 0) (bz 11 1) rfl (by kernel_rfl) (fun _ _ _ _ h => h) rfl (r_move) <| ga_v (i := 1) (bz 11 3) rfl (by kernel_rfl) (fun _ _ _ _ h => h) rfl (r_move) <| ga_v (i := 2) (bz 11 7) rfl (by kernel_rfl) (fun _ _ _ _ h => h) rfl (r_nilck rfl) <| ga_v (i := 3) (bz 11 15) rfl (by kernel_rfl) (fun _ _ _ _ h => h) rfl (r_field (n := 0) Try.underlying61 rfl Try.sizeOf52 rfl rfl) <| ga_v (i := 4) (bz 11 31) rfl (by kernel_rfl) (fun _ _ _ _ h => h) rfl (r_load (tag := 1000) rfl rfl rfl Try.isAgg52) <| ga_r (i := 5) (bz 11 63) rfl (by kernel_rfl) (by decide) rfl (r_loadA (tag := 100030) rfl rfl Try.isAgg40 Try.sizeOf40 rfl rfl) ?_
 refine ga_e (i := 6) (bz 11 127) rfl (by kernel_rfl) (by decide) rfl  (e_lit (tag := 100220) (l := [(⟨w64 (o0.flast + 1), p1.fKind, p1.fFrom, p1.fTo, p1.fConn, p1.fBody⟩ : GItem)]) (enc := GItem.enc) (sz := 6) rfl Try.underlying52 (lit40_2 _ _ _ _ _ _) rfl rfl (fun _ => rfl)) (fun g10 W _ h => ((h.dropR (t := 100220) rfl).dropR (t := 1000) rfl).phi (fun W hφ => hφ)) (fun g10 _ => ?_)
 replace hm := bnd hm
 obtain ⟨l11, hl11, hm⟩ := hm
 refine ga_e (i := 7) (bz 11 255) rfl (by kernel_rfl) (by decide) rfl  (e_appR (enc := GItem.enc) (l := o0.fitems) (l1 := [(⟨w64 (o0.flast + 1), p1.fKind, p1.fFrom, p1.fTo, p1.fConn, p1.fBody⟩ : GItem)]) (l2 := l11) (tag := 1000) Try.underlying52 inf40_3 rfl (by decide) (by decide) (fun _ => rfl) (fun _ => rfl) rfl hco0_0 rfl rfl (fun W hS => rowCl (tag := 100220) rfl W hS) hl11) (fun ⟨A12, c13⟩ W hc13 h => ((h.dropR (t := 100220) rfl).dropR (t := 1000) rfl).phi (fun W hφ => hφ)) (fun ⟨A12, c13⟩ hc13 => ?_)
 refine ga_r (i := 8) (bz 11 511) rfl (by kernel_rfl) (by decide) rfl (r_nilck rfl) <| ga_r (i := 9) (bz 11 1023) rfl (by kernel_rfl) (by decide) rfl (r_field (n := 0) Try.underlying61 rfl Try.sizeOf52 rfl rfl) <| ga_lastL (i := 10) (tag := 1000) (bz 11 2047) rfl (by kernel_rfl) (by decide) rfl rfl rfl rfl Try.sizeOf52 rfl rfl <| gz_done (by kernel_rfl) ?_
 replace hm := Option.some.inj hm
 subst hm
 refine d_sta _ (fun W h => ok_frontR (t := 1000) (t' := 2000) h rfl) ?_
 refine d_retC (A12, c13) Try.results28 ?_ hc13 (fun W h => ((h.dropR (t := 100220) rfl).dropH (t := 100030) rfl).phi (fun W hφ => hφ)) (.inl rfl)
 refine res_nil ?_
 exact rfl
noncomputable def m_net_Net_Send (p1 : Int) (p2 : Int) (p3 : ByteArray) (o0 : Gnet_Net) : Option (Bool × Gnet_Net) :=
  (m_net_Net_full o0).bind fun x1 =>
  if x1 = true then
    some (false, o0)
  else
    (m_net_Net_add (⟨0, 1, p1, p2, 0, p3⟩ : GItem) o0).bind fun x4 =>
    some (true, (⟨x4.fitems, o0.fconns, x4.flast, o0.fopens⟩ : Gnet_Net))
theorem c_net_Net_Send {w0 : World} {M : Nat → Prop} {H : List (Nat × Nat × Obj)} {R : List (Nat × Row)} {φ : World → Prop} (p1 : Int) (p2 : Int) (p3 : ByteArray) (go0 : Nat) (o0 : Gnet_Net) (Ao0_0 : Option Addr) (co0_0 : Nat) (hco0_0 : o0.fitems.length ≤ co0_0) (Ao0_1 : Option Addr) (co0_1 : Nat) (hco0_1 : o0.fconns.length ≤ co0_1) (r : Bool × Gnet_Net) (hm : m_net_Net_Send p1 p2 p3 o0 = some r) :
    Cn Try.prog 15 #[.pointer (some ⟨go0, 0, none⟩), .int .i64 p1, .int .i64 p2, .string p3] ⟨w0, M, (1000, go0, .cells #[.slice Ao0_0 o0.fitems.length co0_0, .slice Ao0_1 o0.fconns.length co0_1, .int .i64 o0.flast, .int .i64 o0.fopens] 61 (0, 0)) :: H, (1000, ⟨.slice Ao0_0 o0.fitems.length co0_0, 40, 6, o0.fitems.length, o0.fitems.flatMap GItem.enc⟩) :: (1001, ⟨.slice Ao0_1 o0.fconns.length co0_1, 63, 3, o0.fconns.length, o0.fconns.flatMap Gnet_conn.enc⟩) :: R, φ⟩ (fun x : Option Addr × Nat => .bool r.1) (fun x => r.2.fitems.length ≤ x.2) (fun x => ⟨w0, M, (1000, go0, .cells #[.slice x.1 r.2.fitems.length x.2, .slice Ao0_1 o0.fconns.length co0_1, .int .i64 r.2.flast, .int .i64 o0.fopens] 61 (0, 0)) :: H, (2000, ⟨.slice x.1 r.2.fitems.length x.2, 40, 6, r.2.fitems.length, r.2.fitems.flatMap GItem.enc⟩) :: (1001, ⟨.slice Ao0_1 o0.fconns.length co0_1, 63, 3, o0.fconns.length, o0.fconns.flatMap Gnet_conn.enc⟩) :: R, φ⟩) := by
 unfold m_net_Net_Send at hm
 refine cn_intro (fn := Try.f15) (N := 17) Try.func15 rfl Try.ntmps15 rfl <| c_seq <| c_region <| g_v rfl r_assign <| g_nil <| d_then <| c_seq <| c_seq <| c_region <| g_v rfl r_move ?_
 replace hm := bnd hm
 obtain ⟨x1, hx2, hm⟩ := hm
 refine g_cn ⟨w0, M, (1000, go0, .cells #[.slice Ao0_0 o0.fitems.length co0_0, .slice Ao0_1 o0.fconns.length co0_1, .int .i64 o0.flast, .int .i64 o0.fopens] 61 (0, 0)) :: H, (1000, ⟨.slice Ao0_0 o0.fitems.length co0_0, 40, 6, o0.fitems.length, o0.fitems.flatMap GItem.enc⟩) :: (1001, ⟨.slice Ao0_1 o0.fconns.length co0_1, 63, 3, o0.fconns.length, o0.fconns.flatMap Gnet_conn.enc⟩) :: R, φ⟩ (fun W h => (ok_front (t := 1000) (t' := 1000) (ok_frontR (t := 1000) (t' := 1000) (ok_frontR (t := 1001) (t' := 1001) h rfl) rfl) rfl)) Try.call27 rfl rfl (c_net_Net_full go0 o0 Ao0_0 co0_0 hco0_0 Ao0_1 co0_1 hco0_1 _ hx2) (fun _ _ => ?_)
 refine g_sta _ (fun W h => (ok_frontR (t := 1000) (t' := 1000) (ok_frontR (t := 1001) (t' := 1001) (ok_front (t := 1000) (t' := 1000) h rfl) rfl) rfl)) <| g_nil <| d_then ?_
 refine c_cond rfl (fun h3 => ?_) (fun h3 => ?_)
 ·
  replace hm := ite_t hm h3
  refine c_seq <| c_region <| g_v rfl r_assign <| g_nil <| d_then <| c_ret <| d_ret_then ?_
  replace hm := Option.some.inj hm
  subst hm
  refine d_sta _ (fun W h => ok_frontR (t := 1000) (t' := 2000) h rfl) ?_
  refine d_retC (Ao0_0, co0_0) Try.results15 ?_ hco0_0 (fun W h => h.phi (fun W hφ => hφ)) (.inr rfl)
  refine res_tmp <| res_nil ?_
  exact rfl
 ·
  replace hm := ite_f hm (bool_nt h3)
  refine c_skip <| d_then <| c_seq <| c_region <| g_v rfl r_move <| g_v rfl r_move <| g_v rfl r_move <| g_v rfl r_move <| g_v rfl (r_build _ rfl (bld40_1 _ _ _ _)) ?_
  replace hm := bnd hm
  obtain ⟨x4, hx5, hm⟩ := hm
  refine g_cn ⟨w0, M, (1000, go0, .cells #[.slice Ao0_0 o0.fitems.length co0_0, .slice Ao0_1 o0.fconns.length co0_1, .int .i64 o0.flast, .int .i64 o0.fopens] 61 (0, 0)) :: H, (1000, ⟨.slice Ao0_0 o0.fitems.length co0_0, 40, 6, o0.fitems.length, o0.fitems.flatMap GItem.enc⟩) :: (1001, ⟨.slice Ao0_1 o0.fconns.length co0_1, 63, 3, o0.fconns.length, o0.fconns.flatMap Gnet_conn.enc⟩) :: R, φ⟩ (fun W h => (ok_front (t := 1000) (t' := 1000) (ok_frontR (t := 1000) (t' := 1000) (ok_frontR (t := 1001) (t' := 1001) h rfl) rfl) rfl)) Try.call28 rfl rfl (c_net_Net_add (⟨0, 1, p1, p2, 0, p3⟩ : GItem) go0 o0 Ao0_0 co0_0 hco0_0 Ao0_1 co0_1 hco0_1 _ hx5) (fun ⟨A6, c7⟩ hc7 => ?_)
  refine g_sta _ (fun W h => (ok_frontR (t := 2000) (t' := 1000) (ok_frontR (t := 1001) (t' := 1001) (ok_front (t := 1000) (t' := 1000) h rfl) rfl) rfl)) <| g_nil <| d_then ?_
  refine c_flat [] trivial (fun u => ?_)
  refine c_sta ⟨w0, M, (1000, go0, .cells #[.slice A6 x4.fitems.length c7, .slice Ao0_1 o0.fconns.length co0_1, .int .i64 x4.flast, .int .i64 o0.fopens] 61 (0, 0)) :: H, (1000, ⟨.slice A6 x4.fitems.length c7, 40, 6, x4.fitems.length, x4.fitems.flatMap GItem.enc⟩) :: (1001, ⟨.slice Ao0_1 o0.fconns.length co0_1, 63, 3, o0.fconns.length, o0.fconns.flatMap Gnet_conn.enc⟩) :: R, φ⟩ (fun _ h => h) <| c_seq <| c_region <| g_v rfl r_assign <| g_nil <| d_then <| c_ret ?_
  replace hm := Option.some.inj hm
  subst hm
  refine d_sta _ (fun W h => ok_frontR (t := 1000) (t' := 2000) h rfl) ?_
  refine d_retC (A6, c7) Try.results15 ?_ hc7 (fun W h => h.phi (fun W hφ => hφ)) (.inr rfl)
  refine res_tmp <| res_nil ?_
  exact rfl
structure Gnet_lane where
  fconn : Int
  fto : Int
  deriving DecidableEq
def Gnet_lane.enc (e : Gnet_lane) : List Value := [.int .i64 e.fconn, .int .i64 e.fto]
theorem bld83_4 (z0 : Int) (z1 : Int) : ∀ W, (Instr.build 83 #[(0, .int .i64 z0), (1, .int .i64 z1)]).run Try.prog W = .ok (.agg #[.int .i64 z0, .int .i64 z1]) W := fun _ => by kernel_rfl
theorem klaw83_5  : Go.Maps.Keyed Try.prog 83 := Go.Maps.Keyed.of_law (Go.deep_law_laid (m := 3) (k := 83) (by kernel_rfl) (by decide) (by decide +kernel) (by kernel_rfl) (by kernel_rfl))
theorem mapT81_6  : MapTy Try.prog 81 83 4 (fun x : Gnet_lane => Value.agg #[.int .i64 x.fconn, .int .i64 x.fto]) (fun x : Bool => Value.bool x) (fun x : Gnet_lane => decide ((-9223372036854775808) ≤ x.fconn ∧ x.fconn ≤ 9223372036854775807 ∧ (-9223372036854775808) ≤ x.fto ∧ x.fto ≤ 9223372036854775807)) false := ⟨Try.underlying81, klaw83_5, fun k hk => key_pair Try.underlying83 rfl rfl rfl rfl (by kernel_rfl) (by kernel_rfl) (by kernel_rfl) (by kernel_rfl) (by kernel_rfl) Try.underlying3 Try.underlying3 (by kernel_rfl) ((Lit.wf_int_iff .i64 _).2 ⟨(of_decide_eq_true hk).1, (of_decide_eq_true hk).2.1⟩) ((Lit.wf_int_iff .i64 _).2 (of_decide_eq_true hk).2.2), fun a b h => by cases a; cases b; injection h with h; simp at h; simp [h], fun _ => Try.zeroValue4 _⟩
theorem lit3_7 (z0 : Int) : Try.prog.builtSlice 3 1 [(0, .int .i64 z0)] = some #[.int .i64 z0] := by kernel_rfl
theorem inf3_8  : (Try.prog.info? 3).map (fun i => (i.zero, i.size, i.bytes)) = some (some (.int .i64 0), 1, 8) := by kernel_rfl
noncomputable def m_net_Net_ready_j1  (l175 : List Int) : Option (List Int) :=
  some l175
noncomputable def m_net_Net_ready_j3 (x247 : GItem) (l211 : List (Gnet_lane × Bool)) (i214 : Int) (l264 : List Int) : Option (((List Int) × (List (Gnet_lane × Bool)) × Int) ⊕ (List Int)) :=
  if x247.fKind ≠ 1 then
    (mput (fun x : Gnet_lane => decide ((-9223372036854775808) ≤ x.fconn ∧ x.fconn ≤ 9223372036854775807 ∧ (-9223372036854775808) ≤ x.fto ∧ x.fto ≤ 9223372036854775807)) l211 (⟨x247.fConn, x247.fTo⟩ : Gnet_lane) true).bind fun l268 =>
    some (.inl (l264, l268, w64 (i214 + 1)))
  else
    some (.inl (l264, l211, w64 (i214 + 1)))
noncomputable def m_net_Net_ready_s2 (o0 : Gnet_Net) (l208 : List Int) (l211 : List (Gnet_lane × Bool)) (i214 : Int) : Option (((List Int) × (List (Gnet_lane × Bool)) × Int) ⊕ (List Int)) :=
  if i214 < (o0.fitems.length : Int) then
    (at_ o0.fitems i214).bind fun x247 =>
    if x247.fKind = 1 then
      (app 8 l208 [i214]).bind fun l279 =>
      m_net_Net_ready_j3 x247 l211 i214 l279
    else
      (mget (fun x : Gnet_lane => decide ((-9223372036854775808) ≤ x.fconn ∧ x.fconn ≤ 9223372036854775807 ∧ (-9223372036854775808) ≤ x.fto ∧ x.fto ≤ 9223372036854775807)) false l211 (⟨x247.fConn, x247.fTo⟩ : Gnet_lane)).bind fun x272 =>
      if x272.1 = true then
        m_net_Net_ready_j3 x247 l211 i214 l208
      else
        (app 8 l208 [i214]).bind fun l275 =>
        m_net_Net_ready_j3 x247 l211 i214 l275
  else
    some (.inr l208)
noncomputable def m_net_Net_ready (o0 : Gnet_Net) : Option (List Int) :=
  (loop (fun s => m_net_Net_ready_s2 o0 s.1 s.2.1 s.2.2) (([] : List Int), ([] : List (Gnet_lane × Bool)), 0)).bind fun e => m_net_Net_ready_j1 e
theorem c_net_Net_ready {w0 : World} {M : Nat → Prop} {H : List (Nat × Nat × Obj)} {R : List (Nat × Row)} {φ : World → Prop} (go0 : Nat) (o0 : Gnet_Net) (Ao0_0 : Option Addr) (co0_0 : Nat) (hco0_0 : o0.fitems.length ≤ co0_0) (Ao0_1 : Option Addr) (co0_1 : Nat) (hco0_1 : o0.fconns.length ≤ co0_1) (r : (List Int)) (hm : m_net_Net_ready o0 = some r) :
    Cn Try.prog 36 #[.pointer (some ⟨go0, 0, none⟩)] ⟨w0, M, (1000, go0, .cells #[.slice Ao0_0 o0.fitems.length co0_0, .slice Ao0_1 o0.fconns.length co0_1, .int .i64 o0.flast, .int .i64 o0.fopens] 61 (0, 0)) :: H, (1000, ⟨.slice Ao0_0 o0.fitems.length co0_0, 40, 6, o0.fitems.length, o0.fitems.flatMap GItem.enc⟩) :: (1001, ⟨.slice Ao0_1 o0.fconns.length co0_1, 63, 3, o0.fconns.length, o0.fconns.flatMap Gnet_conn.enc⟩) :: R, φ⟩ (fun x : Option Addr × Nat => .slice x.1 r.length x.2) (fun x => r.length ≤ x.2) (fun x => ⟨w0, M, (1000, go0, .cells #[.slice Ao0_0 o0.fitems.length co0_0, .slice Ao0_1 o0.fconns.length co0_1, .int .i64 o0.flast, .int .i64 o0.fopens] 61 (0, 0)) :: H, (2000, ⟨.slice x.1 r.length x.2, 3, 1, r.length, r.flatMap (fun x : Int => [Value.int .i64 x])⟩) :: (1000, ⟨.slice Ao0_0 o0.fitems.length co0_0, 40, 6, o0.fitems.length, o0.fitems.flatMap GItem.enc⟩) :: (1001, ⟨.slice Ao0_1 o0.fconns.length co0_1, 63, 3, o0.fconns.length, o0.fconns.flatMap Gnet_conn.enc⟩) :: R, φ⟩) := by
 unfold m_net_Net_ready at hm
 refine cn_intro (fn := Try.f36) (N := 44) Try.func36 rfl Try.ntmps36 rfl <| c_seq <| c_region <| g_v rfl r_assign <| g_nil <| d_then <| c_seq <| c_region <| g_v rfl r_assign <| g_nil ?_
 refine d_then <| c_seq <| c_region ?_
 refine g_e rfl (e_mmake (kenc := (fun x : Gnet_lane => Value.agg #[.int .i64 x.fconn, .int .i64 x.fto])) (venc := (fun x : Bool => Value.bool x)) 11 81 rfl) (fun g1 _ => ?_)
 refine g_v rfl r_assign <| g_nil <| d_then <| c_seq <| c_seq <| c_region <| g_v rfl r_move <| g_v rfl (r_nilck rfl) <| g_v rfl (r_field (n := 0) Try.underlying61 rfl Try.sizeOf52 rfl rfl) <| g_v rfl (r_load (tag := 1000) rfl rfl rfl Try.isAgg52) ?_
 refine g_v rfl (r_lenL Try.underlying52 rfl) <| g_v rfl r_move <| g_nil <| d_then ?_
 refine c_flat [(3, .slice none 0 0), (4, mapV (some ⟨g1, 0, none⟩)), (12, .slice Ao0_0 o0.fitems.length co0_0), (13, .int .i64 (o0.fitems.length : Int)), (14, .int .i64 0)] ⟨rfl, rfl, rfl, rfl, rfl, trivial⟩ (fun u => ?_)
 refine c_sta ⟨w0, M, (1000, go0, .cells #[.slice Ao0_0 o0.fitems.length co0_0, .slice Ao0_1 o0.fconns.length co0_1, .int .i64 o0.flast, .int .i64 o0.fopens] 61 (0, 0)) :: H, (11, ⟨mapV (some ⟨g1, 0, none⟩), 81, 2, 0, []⟩) :: (1000, ⟨.slice Ao0_0 o0.fitems.length co0_0, 40, 6, o0.fitems.length, o0.fitems.flatMap GItem.enc⟩) :: (1001, ⟨.slice Ao0_1 o0.fconns.length co0_1, 63, 3, o0.fconns.length, o0.fconns.flatMap Gnet_conn.enc⟩) :: R, φ⟩ (fun _ h => h) <| c_sta _ (fun W h => nilR h 16 3 1) ?_
 refine c_cut (ι := (List Int) × Option Addr × Nat) [3] (fun ⟨l175, A176, c177⟩ => [(3, .slice A176 l175.length c177)]) (fun ⟨l175, A176, c177⟩ => ⟨w0, M, (1000, go0, .cells #[.slice Ao0_0 o0.fitems.length co0_0, .slice Ao0_1 o0.fconns.length co0_1, .int .i64 o0.flast, .int .i64 o0.fopens] 61 (0, 0)) :: H, (16, ⟨.slice A176 l175.length c177, 3, 1, l175.length, l175.flatMap (fun x : Int => [Value.int .i64 x])⟩) :: (1000, ⟨.slice Ao0_0 o0.fitems.length co0_0, 40, 6, o0.fitems.length, o0.fitems.flatMap GItem.enc⟩) :: (1001, ⟨.slice Ao0_1 o0.fconns.length co0_1, 63, 3, o0.fconns.length, o0.fconns.flatMap Gnet_conn.enc⟩) :: R, φ⟩) (fun ⟨l175, A176, c177⟩ => m_net_Net_ready_j1 l175 = some r ∧ l175.length ≤ c177) ?_ (fun ⟨l175, A176, c177⟩ u ⟨hm, hc177⟩ => ?_)
 ·
  refine c_block ?_
  replace hm := bnd hm
  obtain ⟨out2, hl2, hr2⟩ := hm
  obtain ⟨n245', hl2⟩ := loop_lp hl2
  refine c_loopU (ι := Nat × (List Int) × (List (Gnet_lane × Bool)) × Int × Option Addr × Nat × Option Addr × Nat) [3, 4, 12, 13, 14] (fun ⟨n245, l208, l211, i214, A209, c210, A212, c213⟩ => [(3, .slice A209 l208.length c210), (4, mapV A212), (14, .int .i64 i214)]) (fun ⟨n245, l208, l211, i214, A209, c210, A212, c213⟩ => ⟨w0, M, (1000, go0, .cells #[.slice Ao0_0 o0.fitems.length co0_0, .slice Ao0_1 o0.fconns.length co0_1, .int .i64 o0.flast, .int .i64 o0.fopens] 61 (0, 0)) :: H, (16, ⟨.slice A209 l208.length c210, 3, 1, l208.length, l208.flatMap (fun x : Int => [Value.int .i64 x])⟩) :: (11, ⟨mapV A212, 81, 2, l211.length, l211.flatMap (mcell (fun x : Gnet_lane => Value.agg #[.int .i64 x.fconn, .int .i64 x.fto]) (fun x : Bool => Value.bool x))⟩) :: (1000, ⟨.slice Ao0_0 o0.fitems.length co0_0, 40, 6, o0.fitems.length, o0.fitems.flatMap GItem.enc⟩) :: (1001, ⟨.slice Ao0_1 o0.fconns.length co0_1, 63, 3, o0.fconns.length, o0.fconns.flatMap Gnet_conn.enc⟩) :: R, φ⟩) (fun ⟨n245, l208, l211, i214, A209, c210, A212, c213⟩ => Lp (fun s => m_net_Net_ready_s2 o0 s.1 s.2.1 s.2.2) n245 (l208, l211, i214) out2 ∧ l208.length ≤ c210 ∧ A212.isSome = true) (fun ⟨n245, l208, l211, i214, A209, c210, A212, c213⟩ => n245) (n245', ([] : List Int), ([] : List (Gnet_lane × Bool)), 0, none, 0, some ⟨g1, 0, none⟩, 0) ⟨hl2, (Nat.le_refl 0), rfl⟩ ⟨rfl, rfl, rfl, rfl, rfl, trivial⟩ (fun W h => h.phi (fun W hφ => hφ)) (fun ⟨n245, l208, l211, i214, A209, c210, A212, c213⟩ u ⟨hlp, hc210, hc213⟩ => ?_)
  obtain ⟨o2, hm, hnx2⟩ := lp_step hlp
  clear hlp
  replace hm : m_net_Net_ready_s2 o0 l208 l211 i214 = some o2 := hm
  unfold m_net_Net_ready_s2 at hm
  refine c_flat [(3, .slice A209 l208.length c210), (4, mapV A212), (12, .slice Ao0_0 o0.fitems.length co0_0), (13, .int .i64 (o0.fitems.length : Int)), (14, .int .i64 i214)] ⟨rfl, rfl, rfl, rfl, rfl, trivial⟩ (fun u => ?_)
  refine c_sta ⟨w0, M, (1000, go0, .cells #[.slice Ao0_0 o0.fitems.length co0_0, .slice Ao0_1 o0.fconns.length co0_1, .int .i64 o0.flast, .int .i64 o0.fopens] 61 (0, 0)) :: H, (16, ⟨.slice A209 l208.length c210, 3, 1, l208.length, l208.flatMap (fun x : Int => [Value.int .i64 x])⟩) :: (11, ⟨mapV A212, 81, 2, l211.length, l211.flatMap (mcell (fun x : Gnet_lane => Value.agg #[.int .i64 x.fconn, .int .i64 x.fto]) (fun x : Bool => Value.bool x))⟩) :: (1000, ⟨.slice Ao0_0 o0.fitems.length co0_0, 40, 6, o0.fitems.length, o0.fitems.flatMap GItem.enc⟩) :: (1001, ⟨.slice Ao0_1 o0.fconns.length co0_1, 63, 3, o0.fconns.length, o0.fconns.flatMap Gnet_conn.enc⟩) :: R, φ⟩ (fun _ h => h) <| c_seq <| c_region <| g_v rfl (r_lss rfl rfl) <| g_nil <| d_then <| c_seq ?_
  refine c_cond rfl (fun h246 => ?_) (fun h246 => ?_)
  ·
   replace hm := ite_t hm (of_decide_eq_true h246)
   refine c_skip <| d_then <| c_seq <| c_block <| c_seq <| c_region <| g_v rfl r_move ?_
   replace hm := bnd hm
   obtain ⟨x247, hx247, hm⟩ := hm
   refine g_know _ (fun W hS => cl_at (p := (Sta.ok ⟨w0, M, (1000, go0, .cells #[.slice Ao0_0 o0.fitems.length co0_0, .slice Ao0_1 o0.fconns.length co0_1, .int .i64 o0.flast, .int .i64 o0.fopens] 61 (0, 0)) :: H, (16, ⟨.slice A209 l208.length c210, 3, 1, l208.length, l208.flatMap (fun x : Int => [Value.int .i64 x])⟩) :: (11, ⟨mapV A212, 81, 2, l211.length, l211.flatMap (mcell (fun x : Gnet_lane => Value.agg #[.int .i64 x.fconn, .int .i64 x.fto]) (fun x : Bool => Value.bool x))⟩) :: (1000, ⟨.slice Ao0_0 o0.fitems.length co0_0, 40, 6, o0.fitems.length, o0.fitems.flatMap GItem.enc⟩) :: (1001, ⟨.slice Ao0_1 o0.fconns.length co0_1, 63, 3, o0.fconns.length, o0.fconns.flatMap Gnet_conn.enc⟩) :: R, φ⟩)) (sz := 6) (fun _ => rfl) (by decide) hS (fun W hS => rowCl (S := ⟨w0, M, (1000, go0, .cells #[.slice Ao0_0 o0.fitems.length co0_0, .slice Ao0_1 o0.fconns.length co0_1, .int .i64 o0.flast, .int .i64 o0.fopens] 61 (0, 0)) :: H, (16, ⟨.slice A209 l208.length c210, 3, 1, l208.length, l208.flatMap (fun x : Int => [Value.int .i64 x])⟩) :: (11, ⟨mapV A212, 81, 2, l211.length, l211.flatMap (mcell (fun x : Gnet_lane => Value.agg #[.int .i64 x.fconn, .int .i64 x.fto]) (fun x : Bool => Value.bool x))⟩) :: (1000, ⟨.slice Ao0_0 o0.fitems.length co0_0, 40, 6, o0.fitems.length, o0.fitems.flatMap GItem.enc⟩) :: (1001, ⟨.slice Ao0_1 o0.fconns.length co0_1, 63, 3, o0.fconns.length, o0.fconns.flatMap Gnet_conn.enc⟩) :: R, φ⟩) (tag := 1000) rfl W hS) hx247) ?_
   rintro ⟨ad248, hA250, f249⟩
   refine g_v rfl (r_ix Try.underlying52 Try.sizeOf40 rfl hA250 rfl hx247) <| g_v rfl (r_ldA rfl Try.isAgg40 Try.sizeOf40 (fun W hS => (f249 W hS).take 6) rfl) ?_
   refine g_e rfl (e_alloc 100060 Try.zeroValue40) (fun g251 _ => ?_)
   refine g_v rfl r_assign <| g_storeL (tag := 100060) rfl rfl rfl rfl Try.sizeOf40 rfl rfl <| g_nil <| d_then <| c_seq <| c_region <| g_v rfl (r_field (n := 4) Try.underlying40 rfl Try.sizeOf3 rfl rfl) <| g_v rfl (r_load (tag := 100060) rfl rfl rfl Try.isAgg3) <| g_v rfl (r_field (n := 3) Try.underlying40 rfl Try.sizeOf3 rfl rfl) <| g_v rfl (r_load (tag := 100060) rfl rfl rfl Try.isAgg3) ?_
   refine g_v rfl (r_build _ rfl (bld83_4 _ _)) ?_
   refine g_e rfl (e_alloc 100070 Try.zeroValue83) (fun g252 _ => ?_)
   refine g_storeL (tag := 100070) rfl rfl rfl rfl Try.sizeOf83 rfl rfl <| g_nil <| d_then ?_
   refine c_flat [(3, .slice A209 l208.length c210), (4, mapV A212), (5, .int .i64 i214), (6, .pointer (some ⟨g251, 0, none⟩)), (7, .pointer (some ⟨g252, 0, none⟩)), (12, .slice Ao0_0 o0.fitems.length co0_0), (13, .int .i64 (o0.fitems.length : Int)), (14, .int .i64 i214)] ⟨rfl, rfl, rfl, rfl, rfl, rfl, rfl, rfl, trivial⟩ (fun u => ?_)
   refine c_sta ⟨w0, M, (100070, g252, .cells #[.int .i64 x247.fConn, .int .i64 x247.fTo] 83 (0, 0)) :: (100060, g251, .cells #[.int .i64 x247.fNumber, .int .i64 x247.fKind, .int .i64 x247.fFrom, .int .i64 x247.fTo, .int .i64 x247.fConn, .string x247.fBody] 40 (0, 0)) :: (1000, go0, .cells #[.slice Ao0_0 o0.fitems.length co0_0, .slice Ao0_1 o0.fconns.length co0_1, .int .i64 o0.flast, .int .i64 o0.fopens] 61 (0, 0)) :: H, (16, ⟨.slice A209 l208.length c210, 3, 1, l208.length, l208.flatMap (fun x : Int => [Value.int .i64 x])⟩) :: (11, ⟨mapV A212, 81, 2, l211.length, l211.flatMap (mcell (fun x : Gnet_lane => Value.agg #[.int .i64 x.fconn, .int .i64 x.fto]) (fun x : Bool => Value.bool x))⟩) :: (1000, ⟨.slice Ao0_0 o0.fitems.length co0_0, 40, 6, o0.fitems.length, o0.fitems.flatMap GItem.enc⟩) :: (1001, ⟨.slice Ao0_1 o0.fconns.length co0_1, 63, 3, o0.fconns.length, o0.fconns.flatMap Gnet_conn.enc⟩) :: R, φ⟩ (fun _ h => h) <| c_seq ?_
   refine c_cut (ι := (List Int) × Option Addr × Nat) [3, 4, 6, 7, 12, 13, 14] (fun ⟨l264, A265, c266⟩ => [(3, .slice A265 l264.length c266)]) (fun ⟨l264, A265, c266⟩ => ⟨w0, M, (100070, g252, .cells #[.int .i64 x247.fConn, .int .i64 x247.fTo] 83 (0, 0)) :: (100060, g251, .cells #[.int .i64 x247.fNumber, .int .i64 x247.fKind, .int .i64 x247.fFrom, .int .i64 x247.fTo, .int .i64 x247.fConn, .string x247.fBody] 40 (0, 0)) :: (1000, go0, .cells #[.slice Ao0_0 o0.fitems.length co0_0, .slice Ao0_1 o0.fconns.length co0_1, .int .i64 o0.flast, .int .i64 o0.fopens] 61 (0, 0)) :: H, (16, ⟨.slice A265 l264.length c266, 3, 1, l264.length, l264.flatMap (fun x : Int => [Value.int .i64 x])⟩) :: (11, ⟨mapV A212, 81, 2, l211.length, l211.flatMap (mcell (fun x : Gnet_lane => Value.agg #[.int .i64 x.fconn, .int .i64 x.fto]) (fun x : Bool => Value.bool x))⟩) :: (1000, ⟨.slice Ao0_0 o0.fitems.length co0_0, 40, 6, o0.fitems.length, o0.fitems.flatMap GItem.enc⟩) :: (1001, ⟨.slice Ao0_1 o0.fconns.length co0_1, 63, 3, o0.fconns.length, o0.fconns.flatMap Gnet_conn.enc⟩) :: R, φ⟩) (fun ⟨l264, A265, c266⟩ => m_net_Net_ready_j3 x247 l211 i214 l264 = some o2 ∧ l264.length ≤ c266) ?_ (fun ⟨l264, A265, c266⟩ u ⟨hm, hc266⟩ => ?_)
   ·
    refine c_seq <| c_region <| g_v rfl (r_field (n := 1) Try.underlying40 rfl Try.sizeOf3 rfl rfl) <| g_v rfl (r_load (tag := 100060) rfl rfl rfl Try.isAgg3) <| g_v rfl (r_eql rfl rfl) <| g_v rfl r_move ?_
    refine g_if rfl rfl rfl rfl rfl (fun h271 => ?_) (fun h271 => ?_)
    ·
     replace hm := ite_f hm (of_decide_eq_false h271)
     refine g_v rfl r_move <| g_do rfl rfl rfl rfl rfl h271 <| g_v rfl (r_loadA (tag := 100070) rfl rfl Try.isAgg83 Try.sizeOf83 rfl rfl) <| g_do rfl rfl rfl rfl rfl h271 ?_
     replace hm := bnd hm
     obtain ⟨x272, hx272, hm⟩ := hm
     refine g_v rfl (r_mget1 (tag := 11) (n := l211.length) (l := l211) mapT81_6 rfl rfl rfl hx272) <| g_do rfl rfl rfl rfl rfl h271 <| g_v rfl (r_not rfl) <| g_v rfl (r_pick0 rfl h271) <| g_nil <| d_then ?_
     refine c_flat [(3, .slice A209 l208.length c210), (4, mapV A212), (5, .int .i64 i214), (6, .pointer (some ⟨g251, 0, none⟩)), (7, .pointer (some ⟨g252, 0, none⟩)), (12, .slice Ao0_0 o0.fitems.length co0_0), (13, .int .i64 (o0.fitems.length : Int)), (14, .int .i64 i214), (32, .bool (!x272.1))] ⟨rfl, rfl, rfl, rfl, rfl, rfl, rfl, rfl, rfl, trivial⟩ (fun u => ?_)
     refine c_cond rfl (fun h273 => ?_) (fun h273 => ?_)
     ·
      have h273' : x272.1 = false := by revert h273; cases x272.1 <;> simp
      replace hm := ite_f hm (bool_nt h273')
      refine c_region <| g_v rfl r_move <| g_v rfl r_move ?_
      refine g_e rfl (e_lit (tag := 100350) (l := [i214]) (enc := (fun x : Int => [Value.int .i64 x])) (sz := 1) rfl Try.underlying78 (lit3_7 _) rfl rfl (fun _ => rfl)) (fun g274 _ => ?_)
      replace hm := bnd hm
      obtain ⟨l275, hl275, hm⟩ := hm
      refine g_e rfl (e_appR (enc := (fun x : Int => [Value.int .i64 x])) (l := l208) (l1 := [i214]) (l2 := l275) (tag := 16) Try.underlying78 inf3_8 rfl (by decide) (by decide) (fun _ => rfl) (fun _ => rfl) rfl hc210 rfl rfl (fun W hS => rowCl (tag := 100350) rfl W hS) hl275) (fun ⟨A276, c277⟩ hc277 => ?_)
      refine g_v rfl r_assign <| g_nil ?_
      exact d_round (l275, A276, c277) ⟨hm, hc277⟩ Nat.zero_lt_one ⟨rfl, rfl, rfl, rfl, rfl, rfl, rfl, trivial⟩ (fun W h => (h.dropR (t := 100350) rfl).phi (fun W hφ => hφ))
     ·
      have h273' : x272.1 = true := by revert h273; cases x272.1 <;> simp
      replace hm := ite_t hm h273'
      refine c_skip ?_
      exact d_round (l208, A209, c210) ⟨hm, hc210⟩ Nat.zero_lt_one ⟨rfl, rfl, rfl, rfl, rfl, rfl, rfl, trivial⟩ (fun W h => h.phi (fun W hφ => hφ))
    ·
     replace hm := ite_t hm (of_decide_eq_true h271)
     refine g_no rfl rfl rfl rfl rfl h271 <| g_no rfl rfl rfl rfl rfl h271 <| g_no rfl rfl rfl rfl rfl h271 <| g_v rfl (r_pick1 rfl h271) <| g_nil <| d_then <| c_cond1 rfl rfl <| c_region <| g_v rfl r_move <| g_v rfl r_move ?_
     refine g_e rfl (e_lit (tag := 100350) (l := [i214]) (enc := (fun x : Int => [Value.int .i64 x])) (sz := 1) rfl Try.underlying78 (lit3_7 _) rfl rfl (fun _ => rfl)) (fun g278 _ => ?_)
     replace hm := bnd hm
     obtain ⟨l279, hl279, hm⟩ := hm
     refine g_e rfl (e_appR (enc := (fun x : Int => [Value.int .i64 x])) (l := l208) (l1 := [i214]) (l2 := l279) (tag := 16) Try.underlying78 inf3_8 rfl (by decide) (by decide) (fun _ => rfl) (fun _ => rfl) rfl hc210 rfl rfl (fun W hS => rowCl (tag := 100350) rfl W hS) hl279) (fun ⟨A280, c281⟩ hc281 => ?_)
     refine g_v rfl r_assign <| g_nil ?_
     exact d_round (l279, A280, c281) ⟨hm, hc281⟩ Nat.zero_lt_one ⟨rfl, rfl, rfl, rfl, rfl, rfl, rfl, trivial⟩ (fun W h => (h.dropR (t := 100350) rfl).phi (fun W hφ => hφ))
   ·
    unfold m_net_Net_ready_j3 at hm
    refine d_flat [(3, .slice A265 l264.length c266), (4, mapV A212), (6, .pointer (some ⟨g251, 0, none⟩)), (7, .pointer (some ⟨g252, 0, none⟩)), (12, .slice Ao0_0 o0.fitems.length co0_0), (13, .int .i64 (o0.fitems.length : Int)), (14, .int .i64 i214)] ⟨rfl, rfl, rfl, rfl, rfl, rfl, rfl, trivial⟩ (fun u => ?_)
    refine d_sta ⟨w0, M, (100070, g252, .cells #[.int .i64 x247.fConn, .int .i64 x247.fTo] 83 (0, 0)) :: (100060, g251, .cells #[.int .i64 x247.fNumber, .int .i64 x247.fKind, .int .i64 x247.fFrom, .int .i64 x247.fTo, .int .i64 x247.fConn, .string x247.fBody] 40 (0, 0)) :: (1000, go0, .cells #[.slice Ao0_0 o0.fitems.length co0_0, .slice Ao0_1 o0.fconns.length co0_1, .int .i64 o0.flast, .int .i64 o0.fopens] 61 (0, 0)) :: H, (16, ⟨.slice A265 l264.length c266, 3, 1, l264.length, l264.flatMap (fun x : Int => [Value.int .i64 x])⟩) :: (11, ⟨mapV A212, 81, 2, l211.length, l211.flatMap (mcell (fun x : Gnet_lane => Value.agg #[.int .i64 x.fconn, .int .i64 x.fto]) (fun x : Bool => Value.bool x))⟩) :: (1000, ⟨.slice Ao0_0 o0.fitems.length co0_0, 40, 6, o0.fitems.length, o0.fitems.flatMap GItem.enc⟩) :: (1001, ⟨.slice Ao0_1 o0.fconns.length co0_1, 63, 3, o0.fconns.length, o0.fconns.flatMap Gnet_conn.enc⟩) :: R, φ⟩ (fun _ h => h) <| d_then <| c_seq <| c_region <| g_v rfl (r_field (n := 1) Try.underlying40 rfl Try.sizeOf3 rfl rfl) <| g_v rfl (r_load (tag := 100060) rfl rfl rfl Try.isAgg3) <| g_v rfl (r_neq rfl rfl) <| g_nil <| d_then ?_
    refine c_cond rfl (fun h267 => ?_) (fun h267 => ?_)
    ·
     replace hm := ite_t hm (of_decide_eq_true h267)
     refine c_region <| g_v rfl r_move <| g_v rfl (r_loadA (tag := 100070) rfl rfl Try.isAgg83 Try.sizeOf83 rfl rfl) ?_
     replace hm := bnd hm
     obtain ⟨l268, hl268, hm⟩ := hm
     refine g_s (e_mput (tag := 11) (l := l211) mapT81_6 rfl rfl rfl hc213 rfl hl268) <| g_nil <| d_normal_block <| d_then <| c_region <| g_v rfl (r_add rfl rfl rfl) <| g_v rfl r_move <| g_nil ?_
     obtain ⟨n269, hn269, hlp⟩ := nx_inl hm hnx2
     exact d_round (n269, l264, l268, w64 (i214 + 1), A265, c266, A212, c213) ⟨hlp, hc266, hc213⟩ hn269 ⟨rfl, rfl, rfl, rfl, rfl, trivial⟩ (fun W h => ((h.dropH (t := 100070) rfl).dropH (t := 100060) rfl).phi (fun W hφ => hφ))
    ·
     replace hm := ite_f hm (of_decide_eq_false h267)
     refine c_skip <| d_normal_block <| d_then <| c_region <| g_v rfl (r_add rfl rfl rfl) <| g_v rfl r_move <| g_nil ?_
     obtain ⟨n270, hn270, hlp⟩ := nx_inl hm hnx2
     exact d_round (n270, l264, l211, w64 (i214 + 1), A265, c266, A212, c213) ⟨hlp, hc266, hc213⟩ hn270 ⟨rfl, rfl, rfl, rfl, rfl, trivial⟩ (fun W h => ((h.dropH (t := 100070) rfl).dropH (t := 100060) rfl).phi (fun W hφ => hφ))
  ·
   replace hm := ite_f hm (of_decide_eq_false h246)
   refine c_exit <| d_exit_then <| d_exit_then <| d_exit_block ?_
   replace hm := nx_out (C := (fun e : (List Int) => m_net_Net_ready_j1 e = some r)) hm hnx2 hr2
   exact d_round (l208, A209, c210) ⟨hm, hc210⟩ Nat.zero_lt_one ⟨rfl, trivial⟩ (fun W h => (h.dropR (t := 11) rfl).phi (fun W hφ => hφ))
 ·
  unfold m_net_Net_ready_j1 at hm
  refine d_flat [(3, .slice A176 l175.length c177)] ⟨rfl, trivial⟩ (fun u => ?_)
  refine d_sta ⟨w0, M, (1000, go0, .cells #[.slice Ao0_0 o0.fitems.length co0_0, .slice Ao0_1 o0.fconns.length co0_1, .int .i64 o0.flast, .int .i64 o0.fopens] 61 (0, 0)) :: H, (16, ⟨.slice A176 l175.length c177, 3, 1, l175.length, l175.flatMap (fun x : Int => [Value.int .i64 x])⟩) :: (1000, ⟨.slice Ao0_0 o0.fitems.length co0_0, 40, 6, o0.fitems.length, o0.fitems.flatMap GItem.enc⟩) :: (1001, ⟨.slice Ao0_1 o0.fconns.length co0_1, 63, 3, o0.fconns.length, o0.fconns.flatMap Gnet_conn.enc⟩) :: R, φ⟩ (fun _ h => h) <| d_then <| c_seq <| c_region <| g_v rfl r_move <| g_v rfl r_assign <| g_nil <| d_then <| c_ret ?_
  replace hm := Option.some.inj hm
  subst hm
  refine d_sta _ (fun W h => ok_frontR (t := 16) (t' := 2000) h rfl) ?_
  refine d_retC (A176, c177) Try.results36 ?_ hc177 (fun W h => h.phi (fun W hφ => hφ)) (.inr rfl)
  refine res_tmp <| res_nil ?_
  exact rfl
noncomputable def m_net_Net_picked_j1 (x1 : List Int) (i8 : Int) : Option (Int × Bool) :=
  (dvd (x1.length : Int)).bind fun u9 =>
  (at_ x1 (i8.tmod (x1.length : Int))).bind fun x10 =>
  some (x10, true)
noncomputable def m_net_Net_picked (p2 : Int) (o0 : Gnet_Net) : Option (Int × Bool) :=
  (m_net_Net_ready o0).bind fun x1 =>
  if (x1.length : Int) = 0 then
    some (0, false)
  else
    if p2 < 0 then
      m_net_Net_picked_j1 x1 (w64 (0 - w64 (p2 + 1)))
    else
      m_net_Net_picked_j1 x1 p2
theorem c_net_Net_picked {w0 : World} {M : Nat → Prop} {H : List (Nat × Nat × Obj)} {R : List (Nat × Row)} {φ : World → Prop} (p2 : Int) (go0 : Nat) (o0 : Gnet_Net) (Ao0_0 : Option Addr) (co0_0 : Nat) (hco0_0 : o0.fitems.length ≤ co0_0) (Ao0_1 : Option Addr) (co0_1 : Nat) (hco0_1 : o0.fconns.length ≤ co0_1) (r : Int × Bool) (hm : m_net_Net_picked p2 o0 = some r) :
    Cn Try.prog 34 #[.pointer (some ⟨go0, 0, none⟩), .func (.func 36) #[] #[], .int .i64 p2] ⟨w0, M, (1000, go0, .cells #[.slice Ao0_0 o0.fitems.length co0_0, .slice Ao0_1 o0.fconns.length co0_1, .int .i64 o0.flast, .int .i64 o0.fopens] 61 (0, 0)) :: H, (1000, ⟨.slice Ao0_0 o0.fitems.length co0_0, 40, 6, o0.fitems.length, o0.fitems.flatMap GItem.enc⟩) :: (1001, ⟨.slice Ao0_1 o0.fconns.length co0_1, 63, 3, o0.fconns.length, o0.fconns.flatMap Gnet_conn.enc⟩) :: R, φ⟩ (fun x : Unit => .tuple #[.int .i64 r.1, .bool r.2]) (fun x => True) (fun x => ⟨w0, M, (1000, go0, .cells #[.slice Ao0_0 o0.fitems.length co0_0, .slice Ao0_1 o0.fconns.length co0_1, .int .i64 o0.flast, .int .i64 o0.fopens] 61 (0, 0)) :: H, (1000, ⟨.slice Ao0_0 o0.fitems.length co0_0, 40, 6, o0.fitems.length, o0.fitems.flatMap GItem.enc⟩) :: (1001, ⟨.slice Ao0_1 o0.fconns.length co0_1, 63, 3, o0.fconns.length, o0.fconns.flatMap Gnet_conn.enc⟩) :: R, φ⟩) := by
 unfold m_net_Net_picked at hm
 refine cn_intro (fn := Try.f34) (N := 29) Try.func34 rfl Try.ntmps34 rfl <| c_seq <| c_region <| g_v rfl r_assign <| g_v rfl r_assign <| g_nil <| d_then <| c_seq <| c_seq <| c_region ?_
 refine g_v rfl r_move <| g_v rfl (r_eqlP1 Try.underlying24 rfl rfl) <| g_nil <| d_then <| c_cond0 rfl rfl <| c_skip <| d_then <| c_seq <| c_region <| g_v rfl r_move ?_
 refine g_v rfl r_move ?_
 replace hm := bnd hm
 obtain ⟨x1, hx2, hm⟩ := hm
 refine g_cnv ⟨w0, M, (1000, go0, .cells #[.slice Ao0_0 o0.fitems.length co0_0, .slice Ao0_1 o0.fconns.length co0_1, .int .i64 o0.flast, .int .i64 o0.fopens] 61 (0, 0)) :: H, (1000, ⟨.slice Ao0_0 o0.fitems.length co0_0, 40, 6, o0.fitems.length, o0.fitems.flatMap GItem.enc⟩) :: (1001, ⟨.slice Ao0_1 o0.fconns.length co0_1, 63, 3, o0.fconns.length, o0.fconns.flatMap Gnet_conn.enc⟩) :: R, φ⟩ (fun W h => (ok_front (t := 1000) (t' := 1000) (ok_frontR (t := 1000) (t' := 1000) (ok_frontR (t := 1001) (t' := 1001) h rfl) rfl) rfl)) Try.call36 rfl rfl rfl (c_net_Net_ready go0 o0 Ao0_0 co0_0 hco0_0 Ao0_1 co0_1 hco0_1 _ hx2) (fun ⟨A3, c4⟩ hc4 => ?_)
 refine g_sta _ (fun W h => (ok_frontR (t := 2000) (t' := 100130) (ok_frontR (t := 1000) (t' := 1000) (ok_frontR (t := 1001) (t' := 1001) (ok_front (t := 1000) (t' := 1000) h rfl) rfl) rfl) rfl)) <| g_v rfl r_assign <| g_nil <| d_then <| c_seq <| c_seq <| c_region <| g_v rfl r_move <| g_v rfl (r_lenL Try.underlying78 rfl) <| g_v rfl (r_eql rfl rfl) ?_
 refine g_nil <| d_then ?_
 refine c_flat [(2, .int .i64 p2), (8, .slice A3 x1.length c4), (16, .bool (decide ((x1.length : Int) = 0)))] ⟨rfl, rfl, rfl, trivial⟩ (fun u => ?_)
 refine c_sta ⟨w0, M, (1000, go0, .cells #[.slice Ao0_0 o0.fitems.length co0_0, .slice Ao0_1 o0.fconns.length co0_1, .int .i64 o0.flast, .int .i64 o0.fopens] 61 (0, 0)) :: H, (100130, ⟨.slice A3 x1.length c4, 3, 1, x1.length, x1.flatMap (fun x : Int => [Value.int .i64 x])⟩) :: (1000, ⟨.slice Ao0_0 o0.fitems.length co0_0, 40, 6, o0.fitems.length, o0.fitems.flatMap GItem.enc⟩) :: (1001, ⟨.slice Ao0_1 o0.fconns.length co0_1, 63, 3, o0.fconns.length, o0.fconns.flatMap Gnet_conn.enc⟩) :: R, φ⟩ (fun _ h => h) ?_
 refine c_cond rfl (fun h6 => ?_) (fun h6 => ?_)
 ·
  replace hm := ite_t hm (of_decide_eq_true h6)
  refine c_seq <| c_region <| g_v rfl r_assign <| g_v rfl r_assign <| g_nil <| d_then <| c_ret <| d_ret_then ?_
  replace hm := Option.some.inj hm
  subst hm
  refine d_retC () Try.results34 ?_ trivial (fun W h => (h.dropR (t := 100130) rfl).phi (fun W hφ => hφ)) (.inr rfl)
  refine res_tmp <| res_tmp <| res_nil ?_
  exact rfl
 ·
  replace hm := ite_f hm (of_decide_eq_false h6)
  refine c_skip <| d_then <| c_seq ?_
  refine c_cut (ι := Int) [2, 8] (fun i8 => [(2, .int .i64 i8)]) (fun i8 => ⟨w0, M, (1000, go0, .cells #[.slice Ao0_0 o0.fitems.length co0_0, .slice Ao0_1 o0.fconns.length co0_1, .int .i64 o0.flast, .int .i64 o0.fopens] 61 (0, 0)) :: H, (100130, ⟨.slice A3 x1.length c4, 3, 1, x1.length, x1.flatMap (fun x : Int => [Value.int .i64 x])⟩) :: (1000, ⟨.slice Ao0_0 o0.fitems.length co0_0, 40, 6, o0.fitems.length, o0.fitems.flatMap GItem.enc⟩) :: (1001, ⟨.slice Ao0_1 o0.fconns.length co0_1, 63, 3, o0.fconns.length, o0.fconns.flatMap Gnet_conn.enc⟩) :: R, φ⟩) (fun i8 => m_net_Net_picked_j1 x1 i8 = some r) ?_ (fun i8 u hm => ?_)
  ·
   refine c_seq <| c_region <| g_v rfl r_move <| g_v rfl (r_lss rfl rfl) <| g_nil <| d_then ?_
   refine c_cond rfl (fun h14 => ?_) (fun h14 => ?_)
   ·
    replace hm := ite_t hm (of_decide_eq_true h14)
    refine c_region <| g_v rfl r_move <| g_v rfl (r_add rfl rfl rfl) <| g_v rfl (r_neg rfl rfl) <| g_v rfl r_assign <| g_nil ?_
    exact d_round (w64 (0 - w64 (p2 + 1))) hm Nat.zero_lt_one ⟨rfl, rfl, trivial⟩ (fun W h => h.phi (fun W hφ => hφ))
   ·
    replace hm := ite_f hm (of_decide_eq_false h14)
    refine c_skip ?_
    exact d_round p2 hm Nat.zero_lt_one ⟨rfl, rfl, trivial⟩ (fun W h => h.phi (fun W hφ => hφ))
  ·
   unfold m_net_Net_picked_j1 at hm
   refine d_flat [(2, .int .i64 i8), (8, .slice A3 x1.length c4)] ⟨rfl, rfl, trivial⟩ (fun u => ?_)
   refine d_then <| c_seq <| c_region <| g_v rfl r_move <| g_v rfl r_move <| g_v rfl r_move <| g_v rfl (r_lenL Try.underlying78 rfl) ?_
   replace hm := bnd hm
   obtain ⟨u9, hu9, hm⟩ := hm
   refine g_v rfl (r_rem rfl rfl (dvd_some hu9) rfl) ?_
   replace hm := bnd hm
   obtain ⟨x10, hx10, hm⟩ := hm
   refine g_know _ (fun W hS => cl_at (p := (Sta.ok ⟨w0, M, (1000, go0, .cells #[.slice Ao0_0 o0.fitems.length co0_0, .slice Ao0_1 o0.fconns.length co0_1, .int .i64 o0.flast, .int .i64 o0.fopens] 61 (0, 0)) :: H, (100130, ⟨.slice A3 x1.length c4, 3, 1, x1.length, x1.flatMap (fun x : Int => [Value.int .i64 x])⟩) :: (1000, ⟨.slice Ao0_0 o0.fitems.length co0_0, 40, 6, o0.fitems.length, o0.fitems.flatMap GItem.enc⟩) :: (1001, ⟨.slice Ao0_1 o0.fconns.length co0_1, 63, 3, o0.fconns.length, o0.fconns.flatMap Gnet_conn.enc⟩) :: R, φ⟩)) (sz := 1) (fun _ => rfl) (by decide) hS (fun W hS => rowCl (S := ⟨w0, M, (1000, go0, .cells #[.slice Ao0_0 o0.fitems.length co0_0, .slice Ao0_1 o0.fconns.length co0_1, .int .i64 o0.flast, .int .i64 o0.fopens] 61 (0, 0)) :: H, (100130, ⟨.slice A3 x1.length c4, 3, 1, x1.length, x1.flatMap (fun x : Int => [Value.int .i64 x])⟩) :: (1000, ⟨.slice Ao0_0 o0.fitems.length co0_0, 40, 6, o0.fitems.length, o0.fitems.flatMap GItem.enc⟩) :: (1001, ⟨.slice Ao0_1 o0.fconns.length co0_1, 63, 3, o0.fconns.length, o0.fconns.flatMap Gnet_conn.enc⟩) :: R, φ⟩) (tag := 100130) rfl W hS) hx10) ?_
   rintro ⟨ad11, hA13, f12⟩
   refine g_v rfl (r_ix Try.underlying78 Try.sizeOf3 rfl hA13 rfl hx10) <| g_v rfl (r_ld rfl Try.isAgg3 (fun W hS => Cl.head (f12 W hS))) <| g_v rfl r_assign <| g_v rfl r_assign <| g_nil <| d_then ?_
   refine c_flat [(6, .int .i64 x10), (7, .bool true)] ⟨rfl, rfl, trivial⟩ (fun u => ?_)
   refine c_ret ?_
   replace hm := Option.some.inj hm
   subst hm
   refine d_retC () Try.results34 ?_ trivial (fun W h => (h.dropR (t := 100130) rfl).phi (fun W hφ => hφ)) (.inr rfl)
   refine res_tmp <| res_tmp <| res_nil ?_
   exact rfl
theorem bld40_9  : ∀ W, (Instr.build 40 #[]).run Try.prog W = .ok (.agg #[.int .i64 0, .int .i64 0, .int .i64 0, .int .i64 0, .int .i64 0, .string (⟨#[]⟩ : ByteArray)]) W := fun _ => by kernel_rfl
noncomputable def m_slices_Delete_37 (p0 : List GItem) (p1 : Int) (p2 : Int) : Option (List GItem) :=
  (cutMid p0 p1 p2).bind fun l1 =>
  if p1 = p2 then
    some p0
  else
    (cutHi p0 p1).bind fun l7 =>
    (cutLo p0 p2).bind fun l8 =>
    some (l7 ++ l8)
theorem c_slices_Delete_37 {w0 : World} {M : Nat → Prop} {H : List (Nat × Nat × Obj)} {R : List (Nat × Row)} {φ : World → Prop} (p0 : List GItem) (Ap0_0 : Option Addr) (cp0_0 : Nat) (hcp0_0 : p0.length ≤ cp0_0) (p1 : Int) (p2 : Int) (r : (List GItem)) (hm : m_slices_Delete_37 p0 p1 p2 = some r) :
    Cn Try.prog 37 #[.slice Ap0_0 p0.length cp0_0, .int .i64 p1, .int .i64 p2] ⟨w0, M, H, (1000, ⟨.slice Ap0_0 p0.length cp0_0, 40, 6, p0.length, p0.flatMap GItem.enc⟩) :: R, φ⟩ (fun x : Option Addr × Nat => .slice x.1 r.length x.2) (fun x => r.length ≤ x.2) (fun x => ⟨w0, M, H, (2000, ⟨.slice x.1 r.length x.2, 40, 6, r.length, r.flatMap GItem.enc⟩) :: R, φ⟩) := by
 unfold m_slices_Delete_37 at hm
 refine cn_intro (fn := Try.f37) (N := 33) Try.func37 rfl Try.ntmps37 rfl <| c_seq <| c_region <| g_v rfl r_assign <| g_nil <| d_then <| c_seq <| c_region <| g_v rfl r_move <| g_v rfl r_move ?_
 refine g_v rfl r_move <| g_v rfl r_move <| g_v rfl (r_lenL Try.underlying52 rfl) ?_
 replace hm := bnd hm
 obtain ⟨l1, hl1, hm⟩ := hm
 refine g_v rfl (r_lcutMidF Try.underlying52 Try.sizeOf40 rfl hcp0_0 rfl rfl rfl rfl hl1) <| g_nil <| d_then <| c_seq <| c_seq <| c_region <| g_v rfl r_move <| g_v rfl r_move <| g_v rfl (r_eql rfl rfl) <| g_nil ?_
 refine d_then ?_
 refine c_flat [(0, .slice Ap0_0 p0.length cp0_0), (1, .int .i64 p1), (2, .int .i64 p2), (16, .bool (decide (p1 = p2)))] ⟨rfl, rfl, rfl, rfl, trivial⟩ (fun u => ?_)
 refine c_sta ⟨w0, M, H, (1000, ⟨.slice Ap0_0 p0.length cp0_0, 40, 6, p0.length, p0.flatMap GItem.enc⟩) :: R, φ⟩ (fun _ h => h) ?_
 refine c_cond rfl (fun h2 => ?_) (fun h2 => ?_)
 ·
  replace hm := ite_t hm (of_decide_eq_true h2)
  refine c_seq <| c_region <| g_v rfl r_move <| g_v rfl r_assign <| g_nil <| d_then <| c_ret <| d_ret_then ?_
  replace hm := Option.some.inj hm
  subst hm
  refine d_sta _ (fun W h => ok_frontR (t := 1000) (t' := 2000) h rfl) ?_
  refine d_retC (Ap0_0, cp0_0) Try.results37 ?_ hcp0_0 (fun W h => h.phi (fun W hφ => hφ)) (.inr rfl)
  refine res_tmp <| res_nil ?_
  exact rfl
 ·
  replace hm := ite_f hm (of_decide_eq_false h2)
  refine c_skip <| d_then <| c_seq <| c_region <| g_v rfl r_move <| g_v rfl (r_lenL Try.underlying52 rfl) <| g_v rfl r_assign <| g_nil <| d_then <| c_seq ?_
  refine ga_start (n := 8) ⟨w0, M, H, R, φ⟩ [] #[false, false, false, false, false, false, false, false] (fun W h => (h.dropR (t := 1000) rfl).phi (fun W hφ => hφ)) mixed rfl rfl <| ga_v (i := 0) (bz 8 1) rfl (by kernel_rfl) (fun _ _ _ _ h => h) rfl (r_move) <| ga_v (i := 1) (bz 8 3) rfl (by kernel_rfl) (fun _ _ _ _ h => h) rfl (r_move) ?_
  replace hm := bnd hm
  obtain ⟨l7, hl7, hm⟩ := hm
  refine ga_v (i := 2) (bz 8 7) rfl (by kernel_rfl) (fun _ _ _ _ h => h) rfl (r_lcutHi Try.underlying52 Try.sizeOf40 rfl hcp0_0 rfl hl7) <| ga_v (i := 3) (bz 8 15) rfl (by kernel_rfl) (fun _ _ _ _ h => h) rfl (r_move) <| ga_r (i := 4) (bz 8 31) rfl (by kernel_rfl) (by decide) rfl (r_move) ?_
  replace hm := bnd hm
  obtain ⟨l8, hl8, hm⟩ := hm
  refine ga_r (i := 5) (bz 8 63) rfl (by kernel_rfl) (by decide) rfl (r_lcutLo Try.underlying52 Try.sizeOf40 rfl hcp0_0 rfl hl8) ?_
  refine ga_e (i := 6) (bz 8 127) rfl (by kernel_rfl) (by decide) rfl  (e_appSelf (tag := 1000) (enc := GItem.enc) Try.underlying52 inf40_3 (by decide) (fun _ => rfl) (fun _ => rfl) rfl hl7 rfl hl8 (cutMid_le hl1) hcp0_0 rfl) (fun _ W _ h => (h.dropR (t := 1000) rfl).phi (fun W hφ => hφ)) (fun _ _ => ?_)
  refine ga_r (i := 7) (bz 8 255) rfl (by kernel_rfl) (by decide) rfl (r_assign) <| ga_done (by kernel_rfl) <| d_then ?_
  refine c_flat [(0, .slice Ap0_0 (l7 ++ l8).length cp0_0), (7, .int .i64 (p0.length : Int))] ⟨rfl, rfl, trivial⟩ (fun u => ?_)
  refine c_sta ⟨w0, M, H, (1000, ⟨.slice Ap0_0 (l7 ++ l8).length cp0_0, 40, 6, (l7 ++ l8).length, (l7 ++ l8).flatMap GItem.enc⟩) :: R, φ⟩ (fun _ h => h) <| c_seq <| c_region <| g_v rfl r_move <| g_v rfl r_move <| g_v rfl (r_lenL Try.underlying52 rfl) <| g_v rfl r_move <| g_v rfl (r_lcutUp (n := p0.length) Try.underlying52 Try.sizeOf40 rfl rfl rfl (self_len hl7 hl8 (cutMid_le hl1)) hcp0_0) <| g_e0 (e_clearT (tag := 1000) (enc := GItem.enc) (l := (l7 ++ l8)) Try.underlying52 Try.zeroValue40 rfl rfl rfl (Nat.le_trans (Nat.le_of_eq (Nat.add_sub_cancel' (self_len hl7 hl8 (cutMid_le hl1)))) hcp0_0) rfl) <| g_nil ?_
  refine d_then <| c_seq <| c_region <| g_v rfl r_move <| g_v rfl r_assign <| g_nil <| d_then <| c_ret ?_
  replace hm := Option.some.inj hm
  subst hm
  refine d_sta _ (fun W h => ok_frontR (t := 1000) (t' := 2000) h rfl) ?_
  refine d_retC (Ap0_0, cp0_0) Try.results37 ?_ (Nat.le_trans (self_len hl7 hl8 (cutMid_le hl1)) hcp0_0) (fun W h => h.phi (fun W hφ => hφ)) (.inr rfl)
  refine res_tmp <| res_nil ?_
  exact rfl
noncomputable def m_net_Net_Take (p1 : Int) (o0 : Gnet_Net) : Option (GItem × Bool × Gnet_Net) :=
  (m_net_Net_picked p1 o0).bind fun (z5 : Int × Bool) =>
  if z5.2 = true then
    (at_ o0.fitems z5.1).bind fun x7 =>
    (m_slices_Delete_37 o0.fitems z5.1 (w64 (z5.1 + 1))).bind fun x12 =>
    some (x7, true, (⟨x12, o0.fconns, o0.flast, o0.fopens⟩ : Gnet_Net))
  else
    some ((⟨0, 0, 0, 0, 0, (⟨#[]⟩ : ByteArray)⟩ : GItem), false, o0)
theorem c_net_Net_Take {w0 : World} {M : Nat → Prop} {H : List (Nat × Nat × Obj)} {R : List (Nat × Row)} {φ : World → Prop} (p1 : Int) (go0 : Nat) (o0 : Gnet_Net) (Ao0_0 : Option Addr) (co0_0 : Nat) (hco0_0 : o0.fitems.length ≤ co0_0) (Ao0_1 : Option Addr) (co0_1 : Nat) (hco0_1 : o0.fconns.length ≤ co0_1) (r : GItem × Bool × Gnet_Net) (hm : m_net_Net_Take p1 o0 = some r) :
    Cn Try.prog 17 #[.pointer (some ⟨go0, 0, none⟩), .int .i64 p1] ⟨w0, M, (1000, go0, .cells #[.slice Ao0_0 o0.fitems.length co0_0, .slice Ao0_1 o0.fconns.length co0_1, .int .i64 o0.flast, .int .i64 o0.fopens] 61 (0, 0)) :: H, (1000, ⟨.slice Ao0_0 o0.fitems.length co0_0, 40, 6, o0.fitems.length, o0.fitems.flatMap GItem.enc⟩) :: (1001, ⟨.slice Ao0_1 o0.fconns.length co0_1, 63, 3, o0.fconns.length, o0.fconns.flatMap Gnet_conn.enc⟩) :: R, φ⟩ (fun x : Option Addr × Nat => .tuple #[.agg #[.int .i64 r.1.fNumber, .int .i64 r.1.fKind, .int .i64 r.1.fFrom, .int .i64 r.1.fTo, .int .i64 r.1.fConn, .string r.1.fBody], .bool r.2.1]) (fun x => r.2.2.fitems.length ≤ x.2) (fun x => ⟨w0, M, (1000, go0, .cells #[.slice x.1 r.2.2.fitems.length x.2, .slice Ao0_1 o0.fconns.length co0_1, .int .i64 o0.flast, .int .i64 o0.fopens] 61 (0, 0)) :: H, (2000, ⟨.slice x.1 r.2.2.fitems.length x.2, 40, 6, r.2.2.fitems.length, r.2.2.fitems.flatMap GItem.enc⟩) :: (1001, ⟨.slice Ao0_1 o0.fconns.length co0_1, 63, 3, o0.fconns.length, o0.fconns.flatMap Gnet_conn.enc⟩) :: R, φ⟩) := by
 unfold m_net_Net_Take at hm
 refine cn_intro (fn := Try.f17) (N := 37) Try.func17 rfl Try.ntmps17 rfl <| c_seq <| c_region ?_
 refine g_e rfl (e_alloc 100040 Try.zeroValue40) (fun g1 _ => ?_)
 refine g_v rfl r_assign <| g_nil <| d_then <| c_seq <| c_region <| g_v rfl r_move <| g_v rfl r_move ?_
 replace hm := bnd hm
 obtain ⟨⟨x2, x3⟩, hx4, hm⟩ := hm
 refine g_cn ⟨w0, M, (1000, go0, .cells #[.slice Ao0_0 o0.fitems.length co0_0, .slice Ao0_1 o0.fconns.length co0_1, .int .i64 o0.flast, .int .i64 o0.fopens] 61 (0, 0)) :: (100040, g1, .cells #[.int .i64 0, .int .i64 0, .int .i64 0, .int .i64 0, .int .i64 0, .string (⟨#[]⟩ : ByteArray)] 40 (0, 0)) :: H, (1000, ⟨.slice Ao0_0 o0.fitems.length co0_0, 40, 6, o0.fitems.length, o0.fitems.flatMap GItem.enc⟩) :: (1001, ⟨.slice Ao0_1 o0.fconns.length co0_1, 63, 3, o0.fconns.length, o0.fconns.flatMap Gnet_conn.enc⟩) :: R, φ⟩ (fun W h => (ok_front (t := 1000) (t' := 1000) (ok_frontR (t := 1000) (t' := 1000) (ok_frontR (t := 1001) (t' := 1001) h rfl) rfl) rfl)) Try.call34 rfl rfl (c_net_Net_picked p1 go0 o0 Ao0_0 co0_0 hco0_0 Ao0_1 co0_1 hco0_1 _ hx4) (fun _ _ => ?_)
 refine g_sta _ (fun W h => (ok_frontR (t := 1000) (t' := 1000) (ok_frontR (t := 1001) (t' := 1001) (ok_front (t := 1000) (t' := 1000) h rfl) rfl) rfl)) <| g_v rfl r_move <| g_v rfl (r_extract rfl rfl) <| g_v rfl (r_extract rfl rfl) <| g_v rfl r_assign <| g_v rfl r_assign <| g_nil <| d_then ?_
 refine c_flat [(0, .pointer (some ⟨go0, 0, none⟩)), (4, .pointer (some ⟨g1, 0, none⟩)), (6, .int .i64 x2), (7, .bool x3)] ⟨rfl, rfl, rfl, rfl, trivial⟩ (fun u => ?_)
 refine c_sta ⟨w0, M, (1000, go0, .cells #[.slice Ao0_0 o0.fitems.length co0_0, .slice Ao0_1 o0.fconns.length co0_1, .int .i64 o0.flast, .int .i64 o0.fopens] 61 (0, 0)) :: (100040, g1, .cells #[.int .i64 0, .int .i64 0, .int .i64 0, .int .i64 0, .int .i64 0, .string (⟨#[]⟩ : ByteArray)] 40 (0, 0)) :: H, (1000, ⟨.slice Ao0_0 o0.fitems.length co0_0, 40, 6, o0.fitems.length, o0.fitems.flatMap GItem.enc⟩) :: (1001, ⟨.slice Ao0_1 o0.fconns.length co0_1, 63, 3, o0.fconns.length, o0.fconns.flatMap Gnet_conn.enc⟩) :: R, φ⟩ (fun _ h => h) <| c_seq <| c_seq <| c_region <| g_v rfl r_move <| g_v rfl (r_not rfl) <| g_nil <| d_then ?_
 refine c_cond rfl (fun h6 => ?_) (fun h6 => ?_)
 ·
  have h6' : x3 = false := by revert h6; cases x3 <;> simp
  replace hm := ite_f hm (bool_nt h6')
  refine c_seq <| c_region <| g_v rfl (r_build _ rfl (bld40_9)) <| g_storeL (tag := 100040) rfl rfl rfl rfl Try.sizeOf40 rfl rfl <| g_v rfl r_assign <| g_nil <| d_then <| c_ret <| d_ret_then ?_
  replace hm := Option.some.inj hm
  subst hm
  refine d_sta _ (fun W h => ok_frontR (t := 1000) (t' := 2000) h rfl) ?_
  refine d_retC (Ao0_0, co0_0) Try.results17 ?_ hco0_0 (fun W h => (h.dropH (t := 100040) rfl).phi (fun W hφ => hφ)) (.inr rfl)
  refine res_agg (tag := 100040) rfl rfl Try.isAgg40 Try.sizeOf40 <| res_tmp <| res_nil ?_
  exact rfl
 ·
  have h6' : x3 = true := by revert h6; cases x3 <;> simp
  replace hm := ite_t hm h6'
  refine c_skip <| d_then <| c_seq <| c_region <| g_v rfl r_move <| g_v rfl (r_nilck rfl) <| g_v rfl (r_field (n := 0) Try.underlying61 rfl Try.sizeOf52 rfl rfl) <| g_v rfl (r_load (tag := 1000) rfl rfl rfl Try.isAgg52) <| g_v rfl r_move ?_
  replace hm := bnd hm
  obtain ⟨x7, hx7, hm⟩ := hm
  refine g_know _ (fun W hS => cl_at (p := (Sta.ok ⟨w0, M, (1000, go0, .cells #[.slice Ao0_0 o0.fitems.length co0_0, .slice Ao0_1 o0.fconns.length co0_1, .int .i64 o0.flast, .int .i64 o0.fopens] 61 (0, 0)) :: (100040, g1, .cells #[.int .i64 0, .int .i64 0, .int .i64 0, .int .i64 0, .int .i64 0, .string (⟨#[]⟩ : ByteArray)] 40 (0, 0)) :: H, (1000, ⟨.slice Ao0_0 o0.fitems.length co0_0, 40, 6, o0.fitems.length, o0.fitems.flatMap GItem.enc⟩) :: (1001, ⟨.slice Ao0_1 o0.fconns.length co0_1, 63, 3, o0.fconns.length, o0.fconns.flatMap Gnet_conn.enc⟩) :: R, φ⟩)) (sz := 6) (fun _ => rfl) (by decide) hS (fun W hS => rowCl (S := ⟨w0, M, (1000, go0, .cells #[.slice Ao0_0 o0.fitems.length co0_0, .slice Ao0_1 o0.fconns.length co0_1, .int .i64 o0.flast, .int .i64 o0.fopens] 61 (0, 0)) :: (100040, g1, .cells #[.int .i64 0, .int .i64 0, .int .i64 0, .int .i64 0, .int .i64 0, .string (⟨#[]⟩ : ByteArray)] 40 (0, 0)) :: H, (1000, ⟨.slice Ao0_0 o0.fitems.length co0_0, 40, 6, o0.fitems.length, o0.fitems.flatMap GItem.enc⟩) :: (1001, ⟨.slice Ao0_1 o0.fconns.length co0_1, 63, 3, o0.fconns.length, o0.fconns.flatMap Gnet_conn.enc⟩) :: R, φ⟩) (tag := 1000) rfl W hS) hx7) ?_
  rintro ⟨ad8, hA10, f9⟩
  refine g_v rfl (r_ix Try.underlying52 Try.sizeOf40 rfl hA10 rfl hx7) <| g_v rfl (r_ldA rfl Try.isAgg40 Try.sizeOf40 (fun W hS => (f9 W hS).take 6) rfl) ?_
  refine g_e rfl (e_alloc 100080 Try.zeroValue40) (fun g11 _ => ?_)
  refine g_storeL (tag := 100080) rfl rfl rfl rfl Try.sizeOf40 rfl rfl <| g_nil <| d_then ?_
  refine c_flat [(0, .pointer (some ⟨go0, 0, none⟩)), (4, .pointer (some ⟨g1, 0, none⟩)), (6, .int .i64 x2), (8, .pointer (some ⟨g11, 0, none⟩))] ⟨rfl, rfl, rfl, rfl, trivial⟩ (fun u => ?_)
  refine c_sta ⟨w0, M, (100080, g11, .cells #[.int .i64 x7.fNumber, .int .i64 x7.fKind, .int .i64 x7.fFrom, .int .i64 x7.fTo, .int .i64 x7.fConn, .string x7.fBody] 40 (0, 0)) :: (1000, go0, .cells #[.slice Ao0_0 o0.fitems.length co0_0, .slice Ao0_1 o0.fconns.length co0_1, .int .i64 o0.flast, .int .i64 o0.fopens] 61 (0, 0)) :: (100040, g1, .cells #[.int .i64 0, .int .i64 0, .int .i64 0, .int .i64 0, .int .i64 0, .string (⟨#[]⟩ : ByteArray)] 40 (0, 0)) :: H, (1000, ⟨.slice Ao0_0 o0.fitems.length co0_0, 40, 6, o0.fitems.length, o0.fitems.flatMap GItem.enc⟩) :: (1001, ⟨.slice Ao0_1 o0.fconns.length co0_1, 63, 3, o0.fconns.length, o0.fconns.flatMap Gnet_conn.enc⟩) :: R, φ⟩ (fun _ h => h) <| c_seq <| c_region <| g_v rfl r_move <| g_v rfl r_move <| g_v rfl (r_nilck rfl) <| g_v rfl (r_field (n := 0) Try.underlying61 rfl Try.sizeOf52 rfl rfl) <| g_v rfl (r_load (tag := 1000) rfl rfl rfl Try.isAgg52) <| g_v rfl r_move <| g_v rfl r_move ?_
  refine g_v rfl (r_add rfl rfl rfl) ?_
  replace hm := bnd hm
  obtain ⟨x12, hx13, hm⟩ := hm
  refine g_cn ⟨w0, M, (100080, g11, .cells #[.int .i64 x7.fNumber, .int .i64 x7.fKind, .int .i64 x7.fFrom, .int .i64 x7.fTo, .int .i64 x7.fConn, .string x7.fBody] 40 (0, 0)) :: (1000, go0, .cells #[.slice Ao0_0 o0.fitems.length co0_0, .slice Ao0_1 o0.fconns.length co0_1, .int .i64 o0.flast, .int .i64 o0.fopens] 61 (0, 0)) :: (100040, g1, .cells #[.int .i64 0, .int .i64 0, .int .i64 0, .int .i64 0, .int .i64 0, .string (⟨#[]⟩ : ByteArray)] 40 (0, 0)) :: H, (1000, ⟨.slice Ao0_0 o0.fitems.length co0_0, 40, 6, o0.fitems.length, o0.fitems.flatMap GItem.enc⟩) :: (1001, ⟨.slice Ao0_1 o0.fconns.length co0_1, 63, 3, o0.fconns.length, o0.fconns.flatMap Gnet_conn.enc⟩) :: R, φ⟩ (fun W h => (ok_frontR (t := 1000) (t' := 1000) h rfl)) Try.call37 rfl rfl (c_slices_Delete_37 o0.fitems Ao0_0 co0_0 hco0_0 x2 (w64 (x2 + 1)) _ hx13) (fun ⟨A14, c15⟩ hc15 => ?_)
  refine g_sta _ (fun W h => (ok_frontR (t := 2000) (t' := 1000) h rfl)) <| g_v rfl (r_nilck rfl) <| g_v rfl (r_field (n := 0) Try.underlying61 rfl Try.sizeOf52 rfl rfl) <| g_storeL (tag := 1000) rfl rfl rfl rfl Try.sizeOf52 rfl rfl <| g_nil <| d_then ?_
  refine c_flat [(4, .pointer (some ⟨g1, 0, none⟩)), (8, .pointer (some ⟨g11, 0, none⟩))] ⟨rfl, rfl, trivial⟩ (fun u => ?_)
  refine c_sta ⟨w0, M, (100080, g11, .cells #[.int .i64 x7.fNumber, .int .i64 x7.fKind, .int .i64 x7.fFrom, .int .i64 x7.fTo, .int .i64 x7.fConn, .string x7.fBody] 40 (0, 0)) :: (1000, go0, .cells #[.slice A14 x12.length c15, .slice Ao0_1 o0.fconns.length co0_1, .int .i64 o0.flast, .int .i64 o0.fopens] 61 (0, 0)) :: (100040, g1, .cells #[.int .i64 0, .int .i64 0, .int .i64 0, .int .i64 0, .int .i64 0, .string (⟨#[]⟩ : ByteArray)] 40 (0, 0)) :: H, (1000, ⟨.slice A14 x12.length c15, 40, 6, x12.length, x12.flatMap GItem.enc⟩) :: (1001, ⟨.slice Ao0_1 o0.fconns.length co0_1, 63, 3, o0.fconns.length, o0.fconns.flatMap Gnet_conn.enc⟩) :: R, φ⟩ (fun _ h => h) <| c_seq <| c_region <| g_v rfl (r_loadA (tag := 100080) rfl rfl Try.isAgg40 Try.sizeOf40 rfl rfl) <| g_storeL (tag := 100040) rfl rfl rfl rfl Try.sizeOf40 rfl rfl <| g_v rfl r_assign <| g_nil <| d_then <| c_ret ?_
  replace hm := Option.some.inj hm
  subst hm
  refine d_sta _ (fun W h => ok_frontR (t := 1000) (t' := 2000) h rfl) ?_
  refine d_retC (A14, c15) Try.results17 ?_ hc15 (fun W h => ((h.dropH (t := 100080) rfl).dropH (t := 100040) rfl).phi (fun W hφ => hφ)) (.inr rfl)
  refine res_agg (tag := 100040) rfl rfl Try.isAgg40 Try.sizeOf40 <| res_tmp <| res_nil ?_
  exact rfl
theorem bld30_10 (z0 : Int) (z1 : Int) : ∀ W, (Instr.build 30 #[(0, .int .i64 z0), (1, .int .i64 z1)]).run Try.prog W = .ok (.agg #[.int .i64 z0, .int .i64 z1]) W := fun _ => by kernel_rfl
theorem bld63_11 (z0 : Int) (z1 : Int) (z2 : Int) : ∀ W, (Instr.build 63 #[(0, .int .i64 z0), (1, .agg #[.int .i64 z1, .int .i64 z2])]).run Try.prog W = .ok (.agg #[.int .i64 z0, .int .i64 z1, .int .i64 z2]) W := fun _ => by kernel_rfl
theorem lit63_12 (z0 : Int) (z1 : Int) (z2 : Int) : Try.prog.builtSlice 63 1 [(0, .agg #[.int .i64 z0, .int .i64 z1, .int .i64 z2])] = some #[.int .i64 z0, .int .i64 z1, .int .i64 z2] := by kernel_rfl
theorem inf63_13  : (Try.prog.info? 63).map (fun i => (i.zero, i.size, i.bytes)) = some (some (.agg #[.int .i64 0, .int .i64 0, .int .i64 0]), 3, 24) := by kernel_rfl
theorem bld40_14 (z0 : Int) (z1 : Int) (z2 : Int) (z3 : Int) : ∀ W, (Instr.build 40 #[(1, .int .i64 z0), (2, .int .i64 z1), (3, .int .i64 z2), (4, .int .i64 z3)]).run Try.prog W = .ok (.agg #[.int .i64 0, .int .i64 z0, .int .i64 z1, .int .i64 z2, .int .i64 z3, .string (⟨#[]⟩ : ByteArray)]) W := fun _ => by kernel_rfl
noncomputable def m_net_Net_Open (p1 : Int) (p2 : Int) (o0 : Gnet_Net) : Option (Int × Bool × Gnet_Net) :=
  (m_net_Net_full o0).bind fun x1 =>
  if x1 = true then
    some (0, false, o0)
  else
    if 256 ≤ (o0.fconns.length : Int) then
      some (0, false, o0)
    else
      if p1 = p2 then
        some (0, false, o0)
      else
        (app 24 o0.fconns [(⟨w64 (o0.fopens + 1), (⟨p1, p2⟩ : Garray30)⟩ : Gnet_conn)]).bind fun l15 =>
        (m_net_Net_add (⟨0, 2, p1, p2, w64 (o0.fopens + 1), (⟨#[]⟩ : ByteArray)⟩ : GItem) (⟨o0.fitems, l15, o0.flast, w64 (o0.fopens + 1)⟩ : Gnet_Net)).bind fun x18 =>
        some (w64 (o0.fopens + 1), true, (⟨x18.fitems, l15, x18.flast, w64 (o0.fopens + 1)⟩ : Gnet_Net))
theorem c_net_Net_Open {w0 : World} {M : Nat → Prop} {H : List (Nat × Nat × Obj)} {R : List (Nat × Row)} {φ : World → Prop} (p1 : Int) (p2 : Int) (go0 : Nat) (o0 : Gnet_Net) (Ao0_0 : Option Addr) (co0_0 : Nat) (hco0_0 : o0.fitems.length ≤ co0_0) (Ao0_1 : Option Addr) (co0_1 : Nat) (hco0_1 : o0.fconns.length ≤ co0_1) (r : Int × Bool × Gnet_Net) (hm : m_net_Net_Open p1 p2 o0 = some r) :
    Cn Try.prog 12 #[.pointer (some ⟨go0, 0, none⟩), .int .i64 p1, .int .i64 p2] ⟨w0, M, (1000, go0, .cells #[.slice Ao0_0 o0.fitems.length co0_0, .slice Ao0_1 o0.fconns.length co0_1, .int .i64 o0.flast, .int .i64 o0.fopens] 61 (0, 0)) :: H, (1000, ⟨.slice Ao0_0 o0.fitems.length co0_0, 40, 6, o0.fitems.length, o0.fitems.flatMap GItem.enc⟩) :: (1001, ⟨.slice Ao0_1 o0.fconns.length co0_1, 63, 3, o0.fconns.length, o0.fconns.flatMap Gnet_conn.enc⟩) :: R, φ⟩ (fun x : Option Addr × Nat × Option Addr × Nat => .tuple #[.int .i64 r.1, .bool r.2.1]) (fun x => r.2.2.fitems.length ≤ x.2.1 ∧ r.2.2.fconns.length ≤ x.2.2.2) (fun x => ⟨w0, M, (1000, go0, .cells #[.slice x.1 r.2.2.fitems.length x.2.1, .slice x.2.2.1 r.2.2.fconns.length x.2.2.2, .int .i64 r.2.2.flast, .int .i64 r.2.2.fopens] 61 (0, 0)) :: H, (2000, ⟨.slice x.1 r.2.2.fitems.length x.2.1, 40, 6, r.2.2.fitems.length, r.2.2.fitems.flatMap GItem.enc⟩) :: (2001, ⟨.slice x.2.2.1 r.2.2.fconns.length x.2.2.2, 63, 3, r.2.2.fconns.length, r.2.2.fconns.flatMap Gnet_conn.enc⟩) :: R, φ⟩) := by
 unfold m_net_Net_Open at hm
 refine cn_intro (fn := Try.f12) (N := 60) Try.func12 rfl Try.ntmps12 rfl <| c_seq <| c_region <| g_v rfl r_assign <| g_v rfl r_assign <| g_nil <| d_then <| c_seq <| c_seq <| c_region ?_
 refine g_v rfl r_move ?_
 replace hm := bnd hm
 obtain ⟨x1, hx2, hm⟩ := hm
 refine g_cn ⟨w0, M, (1000, go0, .cells #[.slice Ao0_0 o0.fitems.length co0_0, .slice Ao0_1 o0.fconns.length co0_1, .int .i64 o0.flast, .int .i64 o0.fopens] 61 (0, 0)) :: H, (1000, ⟨.slice Ao0_0 o0.fitems.length co0_0, 40, 6, o0.fitems.length, o0.fitems.flatMap GItem.enc⟩) :: (1001, ⟨.slice Ao0_1 o0.fconns.length co0_1, 63, 3, o0.fconns.length, o0.fconns.flatMap Gnet_conn.enc⟩) :: R, φ⟩ (fun W h => (ok_front (t := 1000) (t' := 1000) (ok_frontR (t := 1000) (t' := 1000) (ok_frontR (t := 1001) (t' := 1001) h rfl) rfl) rfl)) Try.call27 rfl rfl (c_net_Net_full go0 o0 Ao0_0 co0_0 hco0_0 Ao0_1 co0_1 hco0_1 _ hx2) (fun _ _ => ?_)
 refine g_sta _ (fun W h => (ok_frontR (t := 1000) (t' := 1000) (ok_frontR (t := 1001) (t' := 1001) (ok_front (t := 1000) (t' := 1000) h rfl) rfl) rfl)) <| g_v rfl r_move ?_
 refine g_if rfl rfl rfl rfl rfl (fun h3 => ?_) (fun h3 => ?_)
 ·
  replace hm := ite_f hm (bool_nt h3)
  refine g_v rfl r_move <| g_do rfl rfl rfl rfl rfl h3 <| g_v rfl (r_nilck rfl) <| g_do rfl rfl rfl rfl rfl h3 <| g_v rfl (r_field (n := 1) Try.underlying61 rfl Try.sizeOf59 rfl rfl) <| g_do rfl rfl rfl rfl rfl h3 <| g_v rfl (r_load (tag := 1000) rfl rfl rfl Try.isAgg59) <| g_do rfl rfl rfl rfl rfl h3 <| g_v rfl (r_lenL Try.underlying59 rfl) <| g_do rfl rfl rfl rfl rfl h3 ?_
  refine g_v rfl (r_geq rfl rfl) <| g_v rfl (r_pick0 rfl h3) <| g_v rfl r_move ?_
  refine g_if rfl rfl rfl rfl rfl (fun h4 => ?_) (fun h4 => ?_)
  ·
   replace hm := ite_f hm (of_decide_eq_false h4)
   refine g_v rfl r_move <| g_do rfl rfl rfl rfl rfl h4 <| g_v rfl r_move <| g_do rfl rfl rfl rfl rfl h4 <| g_v rfl (r_eql rfl rfl) <| g_v rfl (r_pick0 rfl h4) <| g_nil <| d_then ?_
   refine c_flat [(0, .pointer (some ⟨go0, 0, none⟩)), (1, .int .i64 p1), (2, .int .i64 p2), (22, .bool (decide (p1 = p2)))] ⟨rfl, rfl, rfl, rfl, trivial⟩ (fun u => ?_)
   refine c_sta ⟨w0, M, (1000, go0, .cells #[.slice Ao0_0 o0.fitems.length co0_0, .slice Ao0_1 o0.fconns.length co0_1, .int .i64 o0.flast, .int .i64 o0.fopens] 61 (0, 0)) :: H, (1000, ⟨.slice Ao0_0 o0.fitems.length co0_0, 40, 6, o0.fitems.length, o0.fitems.flatMap GItem.enc⟩) :: (1001, ⟨.slice Ao0_1 o0.fconns.length co0_1, 63, 3, o0.fconns.length, o0.fconns.flatMap Gnet_conn.enc⟩) :: R, φ⟩ (fun _ h => h) ?_
   refine c_cond rfl (fun h5 => ?_) (fun h5 => ?_)
   ·
    replace hm := ite_t hm (of_decide_eq_true h5)
    refine c_seq <| c_region <| g_v rfl r_assign <| g_v rfl r_assign <| g_nil <| d_then <| c_ret <| d_ret_then ?_
    replace hm := Option.some.inj hm
    subst hm
    refine d_sta _ (fun W h => ok_frontR (t := 1001) (t' := 2001) h rfl) <| d_sta _ (fun W h => ok_frontR (t := 1000) (t' := 2000) h rfl) ?_
    refine d_retC (Ao0_0, co0_0, Ao0_1, co0_1) Try.results12 ?_ ⟨hco0_0, hco0_1⟩ (fun W h => h.phi (fun W hφ => hφ)) (.inr rfl)
    refine res_tmp <| res_tmp <| res_nil ?_
    exact rfl
   ·
    replace hm := ite_f hm (of_decide_eq_false h5)
    refine c_skip <| d_then <| c_seq <| c_region <| g_v rfl r_move <| g_v rfl (r_nilck rfl) <| g_v rfl (r_field (n := 3) Try.underlying61 rfl Try.sizeOf3 rfl rfl) <| g_v rfl (r_load (tag := 1000) rfl rfl rfl Try.isAgg3) <| g_v rfl (r_add rfl rfl rfl) <| g_v rfl (r_nilck rfl) ?_
    refine g_v rfl (r_field (n := 3) Try.underlying61 rfl Try.sizeOf3 rfl rfl) <| g_storeL (tag := 1000) rfl rfl rfl rfl Try.sizeOf3 rfl rfl <| g_nil <| d_then <| c_seq <| ga_start (n := 18) ⟨w0, M, (1000, go0, .cells #[.slice Ao0_0 o0.fitems.length co0_0, .slice Ao0_1 o0.fconns.length co0_1, .int .i64 o0.flast, .int .i64 (w64 (o0.fopens + 1))] 61 (0, 0)) :: H, (1000, ⟨.slice Ao0_0 o0.fitems.length co0_0, 40, 6, o0.fitems.length, o0.fitems.flatMap GItem.enc⟩) :: R, φ⟩ [17] #[false, false, false, false, false, false, false, false, false, false, false, false, false, false, false, false, false, false] (fun W h => (h.dropR (t := 1001) rfl).phi (fun W hφ => hφ)) mixed rfl rfl <| ga_v (i := 0) (bz 18 1) rfl (by kernel_rfl) (fun _ _ _ _ h => h) rfl (r_move) <| ga_v (i := 1) (bz 18 3) rfl (by kernel_rfl) (fun _ _ _ _ h => h) rfl (r_move) <| ga_v (i := 2) (bz 18 7) rfl (by kernel_rfl) (fun _ _ _ _ h => h) rfl (r_nilck rfl) <| ga_v (i := 3) (bz 18 15) rfl (by kernel_rfl) (fun _ _ _ _ h => h) rfl (r_field (n := 1) Try.underlying61 rfl Try.sizeOf59 rfl rfl) ?_
    refine ga_v (i := 4) (bz 18 31) rfl (by kernel_rfl) (fun _ _ _ _ h => h) rfl (r_load (tag := 1000) rfl rfl rfl Try.isAgg59) <| ga_v (i := 5) (bz 18 63) rfl (by kernel_rfl) (fun _ _ _ _ h => h) rfl (r_move) <| ga_v (i := 6) (bz 18 127) rfl (by kernel_rfl) (fun _ _ _ _ h => h) rfl (r_nilck rfl) <| ga_v (i := 7) (bz 18 255) rfl (by kernel_rfl) (fun _ _ _ _ h => h) rfl (r_field (n := 3) Try.underlying61 rfl Try.sizeOf3 rfl rfl) <| ga_v (i := 8) (bz 18 511) rfl (by kernel_rfl) (fun _ _ _ _ h => h) rfl (r_load (tag := 1000) rfl rfl rfl Try.isAgg3) <| ga_v (i := 9) (bz 18 1023) rfl (by kernel_rfl) (fun _ _ _ _ h => h) rfl (r_move) <| ga_r (i := 10) (bz 18 2047) rfl (by kernel_rfl) (by decide) rfl (r_move) <| ga_r (i := 11) (bz 18 4095) rfl (by kernel_rfl) (by decide) rfl (r_build _ rfl (bld30_10 _ _)) <| ga_r (i := 12) (bz 18 8191) rfl (by kernel_rfl) (by decide) rfl (r_build _ rfl (bld63_11 _ _ _)) ?_
    refine ga_e (i := 13) (bz 18 16383) rfl (by kernel_rfl) (by decide) rfl  (e_lit (tag := 100430) (l := [(⟨w64 (o0.fopens + 1), (⟨p1, p2⟩ : Garray30)⟩ : Gnet_conn)]) (enc := Gnet_conn.enc) (sz := 3) rfl Try.underlying59 (lit63_12 _ _ _) rfl rfl (fun _ => rfl)) (fun g14 W _ h => ((h.dropR (t := 100430) rfl).dropR (t := 1001) rfl).phi (fun W hφ => hφ)) (fun g14 _ => ?_)
    replace hm := bnd hm
    obtain ⟨l15, hl15, hm⟩ := hm
    refine ga_e (i := 14) (bz 18 32767) rfl (by kernel_rfl) (by decide) rfl  (e_appR (enc := Gnet_conn.enc) (l := o0.fconns) (l1 := [(⟨w64 (o0.fopens + 1), (⟨p1, p2⟩ : Garray30)⟩ : Gnet_conn)]) (l2 := l15) (tag := 1001) Try.underlying59 inf63_13 rfl (by decide) (by decide) (fun _ => rfl) (fun _ => rfl) rfl hco0_1 rfl rfl (fun W hS => rowCl (tag := 100430) rfl W hS) hl15) (fun ⟨A16, c17⟩ W hc17 h => ((h.dropR (t := 100430) rfl).dropR (t := 1001) rfl).phi (fun W hφ => hφ)) (fun ⟨A16, c17⟩ hc17 => ?_)
    refine ga_r (i := 15) (bz 18 65535) rfl (by kernel_rfl) (by decide) rfl (r_nilck rfl) <| ga_r (i := 16) (bz 18 131071) rfl (by kernel_rfl) (by decide) rfl (r_field (n := 1) Try.underlying61 rfl Try.sizeOf59 rfl rfl) <| ga_lastL (i := 17) (tag := 1000) (bz 18 262143) rfl (by kernel_rfl) (by decide) rfl rfl rfl rfl Try.sizeOf59 rfl rfl <| gz_done (by kernel_rfl) <| d_then ?_
    refine c_flat [(0, .pointer (some ⟨go0, 0, none⟩)), (1, .int .i64 p1), (2, .int .i64 p2)] ⟨rfl, rfl, rfl, trivial⟩ (fun u => ?_)
    refine c_sta ⟨w0, M, (1000, go0, .cells #[.slice Ao0_0 o0.fitems.length co0_0, .slice A16 l15.length c17, .int .i64 o0.flast, .int .i64 (w64 (o0.fopens + 1))] 61 (0, 0)) :: H, (100430, ⟨.slice (some ⟨g14, 0, none⟩) [(⟨w64 (o0.fopens + 1), (⟨p1, p2⟩ : Garray30)⟩ : Gnet_conn)].length 1, 63, 3, [(⟨w64 (o0.fopens + 1), (⟨p1, p2⟩ : Garray30)⟩ : Gnet_conn)].length, [(⟨w64 (o0.fopens + 1), (⟨p1, p2⟩ : Garray30)⟩ : Gnet_conn)].flatMap Gnet_conn.enc⟩) :: (1000, ⟨.slice Ao0_0 o0.fitems.length co0_0, 40, 6, o0.fitems.length, o0.fitems.flatMap GItem.enc⟩) :: (1001, ⟨.slice A16 l15.length c17, 63, 3, l15.length, l15.flatMap Gnet_conn.enc⟩) :: R, φ⟩ (fun _ h => h) <| c_seq <| c_region <| g_v rfl r_move <| g_v rfl r_move <| g_v rfl r_move <| g_v rfl r_move <| g_v rfl (r_nilck rfl) <| g_v rfl (r_field (n := 3) Try.underlying61 rfl Try.sizeOf3 rfl rfl) <| g_v rfl (r_load (tag := 1000) rfl rfl rfl Try.isAgg3) ?_
    refine g_v rfl (r_build _ rfl (bld40_14 _ _ _ _)) ?_
    replace hm := bnd hm
    obtain ⟨x18, hx19, hm⟩ := hm
    refine g_cn ⟨w0, M, (1000, go0, .cells #[.slice Ao0_0 o0.fitems.length co0_0, .slice A16 l15.length c17, .int .i64 o0.flast, .int .i64 (w64 (o0.fopens + 1))] 61 (0, 0)) :: H, (1000, ⟨.slice Ao0_0 o0.fitems.length co0_0, 40, 6, o0.fitems.length, o0.fitems.flatMap GItem.enc⟩) :: (1001, ⟨.slice A16 l15.length c17, 63, 3, l15.length, l15.flatMap Gnet_conn.enc⟩) :: (100430, ⟨.slice (some ⟨g14, 0, none⟩) [(⟨w64 (o0.fopens + 1), (⟨p1, p2⟩ : Garray30)⟩ : Gnet_conn)].length 1, 63, 3, [(⟨w64 (o0.fopens + 1), (⟨p1, p2⟩ : Garray30)⟩ : Gnet_conn)].length, [(⟨w64 (o0.fopens + 1), (⟨p1, p2⟩ : Garray30)⟩ : Gnet_conn)].flatMap Gnet_conn.enc⟩) :: R, φ⟩ (fun W h => (ok_front (t := 1000) (t' := 1000) (ok_frontR (t := 1000) (t' := 1000) (ok_frontR (t := 1001) (t' := 1001) h rfl) rfl) rfl)) Try.call28 rfl rfl (c_net_Net_add (⟨0, 2, p1, p2, w64 (o0.fopens + 1), (⟨#[]⟩ : ByteArray)⟩ : GItem) go0 (⟨o0.fitems, l15, o0.flast, w64 (o0.fopens + 1)⟩ : Gnet_Net) Ao0_0 co0_0 hco0_0 A16 c17 hc17 _ hx19) (fun ⟨A20, c21⟩ hc21 => ?_)
    refine g_sta _ (fun W h => (ok_frontR (t := 2000) (t' := 1000) (ok_frontR (t := 1001) (t' := 1001) (ok_front (t := 1000) (t' := 1000) h rfl) rfl) rfl)) <| g_nil <| d_then ?_
    refine c_flat [(0, .pointer (some ⟨go0, 0, none⟩))] ⟨rfl, trivial⟩ (fun u => ?_)
    refine c_sta ⟨w0, M, (1000, go0, .cells #[.slice A20 x18.fitems.length c21, .slice A16 l15.length c17, .int .i64 x18.flast, .int .i64 (w64 (o0.fopens + 1))] 61 (0, 0)) :: H, (1000, ⟨.slice A20 x18.fitems.length c21, 40, 6, x18.fitems.length, x18.fitems.flatMap GItem.enc⟩) :: (1001, ⟨.slice A16 l15.length c17, 63, 3, l15.length, l15.flatMap Gnet_conn.enc⟩) :: (100430, ⟨.slice (some ⟨g14, 0, none⟩) [(⟨w64 (o0.fopens + 1), (⟨p1, p2⟩ : Garray30)⟩ : Gnet_conn)].length 1, 63, 3, [(⟨w64 (o0.fopens + 1), (⟨p1, p2⟩ : Garray30)⟩ : Gnet_conn)].length, [(⟨w64 (o0.fopens + 1), (⟨p1, p2⟩ : Garray30)⟩ : Gnet_conn)].flatMap Gnet_conn.enc⟩) :: R, φ⟩ (fun _ h => h) <| c_seq <| c_region <| g_v rfl r_move <| g_v rfl (r_nilck rfl) <| g_v rfl (r_field (n := 3) Try.underlying61 rfl Try.sizeOf3 rfl rfl) <| g_v rfl (r_load (tag := 1000) rfl rfl rfl Try.isAgg3) <| g_v rfl r_assign <| g_v rfl r_assign <| g_nil ?_
    refine d_then <| c_ret ?_
    replace hm := Option.some.inj hm
    subst hm
    refine d_sta _ (fun W h => ok_frontR (t := 1001) (t' := 2001) h rfl) <| d_sta _ (fun W h => ok_frontR (t := 1000) (t' := 2000) h rfl) ?_
    refine d_retC (A20, c21, A16, c17) Try.results12 ?_ ⟨hc21, hc17⟩ (fun W h => (h.dropR (t := 100430) rfl).phi (fun W hφ => hφ)) (.inr rfl)
    refine res_tmp <| res_tmp <| res_nil ?_
    exact rfl
  ·
   replace hm := ite_t hm (of_decide_eq_true h4)
   refine g_no rfl rfl rfl rfl rfl h4 <| g_no rfl rfl rfl rfl rfl h4 <| g_v rfl (r_pick1 rfl h4) <| g_nil <| d_then ?_
   refine c_flat [(0, .pointer (some ⟨go0, 0, none⟩)), (1, .int .i64 p1), (2, .int .i64 p2), (22, .bool true)] ⟨rfl, rfl, rfl, rfl, trivial⟩ (fun u => ?_)
   refine c_sta ⟨w0, M, (1000, go0, .cells #[.slice Ao0_0 o0.fitems.length co0_0, .slice Ao0_1 o0.fconns.length co0_1, .int .i64 o0.flast, .int .i64 o0.fopens] 61 (0, 0)) :: H, (1000, ⟨.slice Ao0_0 o0.fitems.length co0_0, 40, 6, o0.fitems.length, o0.fitems.flatMap GItem.enc⟩) :: (1001, ⟨.slice Ao0_1 o0.fconns.length co0_1, 63, 3, o0.fconns.length, o0.fconns.flatMap Gnet_conn.enc⟩) :: R, φ⟩ (fun _ h => h) <| c_cond1 rfl rfl <| c_seq <| c_region <| g_v rfl r_assign <| g_v rfl r_assign <| g_nil <| d_then <| c_ret <| d_ret_then ?_
   replace hm := Option.some.inj hm
   subst hm
   refine d_sta _ (fun W h => ok_frontR (t := 1001) (t' := 2001) h rfl) <| d_sta _ (fun W h => ok_frontR (t := 1000) (t' := 2000) h rfl) ?_
   refine d_retC (Ao0_0, co0_0, Ao0_1, co0_1) Try.results12 ?_ ⟨hco0_0, hco0_1⟩ (fun W h => h.phi (fun W hφ => hφ)) (.inr rfl)
   refine res_tmp <| res_tmp <| res_nil ?_
   exact rfl
 ·
  replace hm := ite_t hm h3
  refine g_no rfl rfl rfl rfl rfl h3 <| g_no rfl rfl rfl rfl rfl h3 <| g_no rfl rfl rfl rfl rfl h3 <| g_no rfl rfl rfl rfl rfl h3 <| g_no rfl rfl rfl rfl rfl h3 <| g_v rfl (r_pick1 rfl h3) <| g_v rfl r_move <| g_no rfl rfl rfl rfl rfl rfl <| g_no rfl rfl rfl rfl rfl rfl <| g_no rfl rfl rfl rfl rfl rfl ?_
  refine g_v rfl (r_pick1 rfl rfl) <| g_nil <| d_then <| c_cond1 rfl rfl <| c_seq <| c_region <| g_v rfl r_assign <| g_v rfl r_assign <| g_nil <| d_then ?_
  refine c_flat [(6, .int .i64 0), (7, .bool false)] ⟨rfl, rfl, trivial⟩ (fun u => ?_)
  refine c_sta ⟨w0, M, (1000, go0, .cells #[.slice Ao0_0 o0.fitems.length co0_0, .slice Ao0_1 o0.fconns.length co0_1, .int .i64 o0.flast, .int .i64 o0.fopens] 61 (0, 0)) :: H, (1000, ⟨.slice Ao0_0 o0.fitems.length co0_0, 40, 6, o0.fitems.length, o0.fitems.flatMap GItem.enc⟩) :: (1001, ⟨.slice Ao0_1 o0.fconns.length co0_1, 63, 3, o0.fconns.length, o0.fconns.flatMap Gnet_conn.enc⟩) :: R, φ⟩ (fun _ h => h) <| c_ret <| d_ret_then ?_
  replace hm := Option.some.inj hm
  subst hm
  refine d_sta _ (fun W h => ok_frontR (t := 1001) (t' := 2001) h rfl) <| d_sta _ (fun W h => ok_frontR (t := 1000) (t' := 2000) h rfl) ?_
  refine d_retC (Ao0_0, co0_0, Ao0_1, co0_1) Try.results12 ?_ ⟨hco0_0, hco0_1⟩ (fun W h => h.phi (fun W hφ => hφ)) (.inr rfl)
  refine res_tmp <| res_tmp <| res_nil ?_
  exact rfl
noncomputable def m_net_Net_find_c1 (p0 : Gnet_conn) (o0 : Int) : Option Bool :=
  some (decide (p0.fnumber = o0))
theorem c_net_Net_find_c1 {w0 : World} {M : Nat → Prop} {H : List (Nat × Nat × Obj)} {R : List (Nat × Row)} {φ : World → Prop} (p0 : Gnet_conn) (go0 : Nat) (o0 : Int) (r : Bool) (hm : m_net_Net_find_c1 p0 o0 = some r) :
    Cn Try.prog 53 #[.agg #[.int .i64 p0.fnumber, .int .i64 p0.fends.a0, .int .i64 p0.fends.a1], .pointer (some ⟨go0, 0, none⟩)] ⟨w0, M, (1000, go0, .cells #[.int .i64 o0] 3 (0, 0)) :: H, R, φ⟩ (fun x : Unit => .bool r) (fun x => True) (fun x => ⟨w0, M, (1000, go0, .cells #[.int .i64 o0] 3 (0, 0)) :: H, R, φ⟩) := by
 unfold m_net_Net_find_c1 at hm
 refine cn_intro (fn := Try.f53) (N := 8) Try.func53 rfl Try.ntmps53 rfl <| c_seq <| c_region ?_
 refine g_e rfl (e_box 100020 rfl) (fun g1 _ => ?_)
 refine g_v rfl r_assign <| g_nil <| d_then <| c_seq <| c_region <| g_v rfl (r_field (n := 0) Try.underlying63 rfl Try.sizeOf3 rfl rfl) <| g_v rfl (r_load (tag := 100020) rfl rfl rfl Try.isAgg3) <| g_v rfl (r_load (tag := 1000) rfl rfl rfl Try.isAgg3) <| g_v rfl (r_eql rfl rfl) <| g_v rfl r_assign ?_
 refine g_nil <| d_then <| c_ret ?_
 replace hm := Option.some.inj hm
 subst hm
 refine d_retC () Try.results53 ?_ trivial (fun W h => (h.dropH (t := 100020) rfl).phi (fun W hφ => hφ)) (.inr rfl)
 refine res_tmp <| res_nil ?_
 exact rfl
noncomputable def m_slices_IndexFunc_52_j1  : Option Int :=
  some (-1)
noncomputable def m_slices_IndexFunc_52_s2 (p0 : List Gnet_conn) (o0 : Int) (i30 : Int) : Option (Int ⊕ (Unit ⊕ Int)) :=
  if i30 < (p0.length : Int) then
    (at_ p0 i30).bind fun x42 =>
    (m_net_Net_find_c1 x42 o0).bind fun x46 =>
    if x46 = true then
      some (.inr (.inr i30))
    else
      some (.inl (w64 (i30 + 1)))
  else
    some (.inr (.inl ()))
noncomputable def m_slices_IndexFunc_52 (p0 : List Gnet_conn) (o0 : Int) : Option Int :=
  (loop (fun s => m_slices_IndexFunc_52_s2 p0 o0 s) 0).bind fun e => Sum.elim (fun e => m_slices_IndexFunc_52_j1) (fun x => some x) e
theorem c_slices_IndexFunc_52 {w0 : World} {M : Nat → Prop} {H : List (Nat × Nat × Obj)} {R : List (Nat × Row)} {φ : World → Prop} (p0 : List Gnet_conn) (Ap0_0 : Option Addr) (cp0_0 : Nat) (hcp0_0 : p0.length ≤ cp0_0) (fp0_0 : ∀ W, (Sta.mk w0 M H R φ).ok W → Cl W Ap0_0 (p0.flatMap Gnet_conn.enc)) (go0 : Nat) (o0 : Int) (r : Int) (hm : m_slices_IndexFunc_52 p0 o0 = some r) :
    Cn Try.prog 52 #[.slice Ap0_0 p0.length cp0_0, .func (.func 53) #[] #[.pointer (some ⟨go0, 0, none⟩)]] ⟨w0, M, (1000, go0, .cells #[.int .i64 o0] 3 (0, 0)) :: H, R, φ⟩ (fun x : Unit => .int .i64 r) (fun x => True) (fun x => ⟨w0, M, (1000, go0, .cells #[.int .i64 o0] 3 (0, 0)) :: H, R, φ⟩) := by
 unfold m_slices_IndexFunc_52 at hm
 refine cn_intro (fn := Try.f52) (N := 19) Try.func52 rfl Try.ntmps52 rfl <| c_seq <| c_region <| g_v rfl r_assign <| g_nil <| d_then <| c_seq <| c_seq <| c_region <| g_v rfl r_move ?_
 refine g_v rfl (r_lenL Try.underlying59 rfl) <| g_v rfl r_move <| g_nil <| d_then ?_
 refine c_cut (ι := Unit) [] (fun _ => []) (fun _ => ⟨w0, M, (1000, go0, .cells #[.int .i64 o0] 3 (0, 0)) :: H, R, φ⟩) (fun _ => m_slices_IndexFunc_52_j1 = some r) ?_ (fun _ u hm => ?_)
 ·
  refine c_block ?_
  replace hm := bnd hm
  obtain ⟨out2, hl2, hr2⟩ := hm
  obtain ⟨n40', hl2⟩ := loop_lp hl2
  refine c_loopU (ι := Nat × Int) [0, 1, 7, 8] (fun ⟨n40, i30⟩ => [(8, .int .i64 i30)]) (fun ⟨n40, i30⟩ => ⟨w0, M, (1000, go0, .cells #[.int .i64 o0] 3 (0, 0)) :: H, R, φ⟩) (fun ⟨n40, i30⟩ => Lp (fun s => m_slices_IndexFunc_52_s2 p0 o0 s) n40 i30 out2) (fun ⟨n40, i30⟩ => n40) (n40', 0) hl2 ⟨rfl, rfl, rfl, rfl, trivial⟩ (fun W h => h.phi (fun W hφ => hφ)) (fun ⟨n40, i30⟩ u hlp => ?_)
  obtain ⟨o2, hm, hnx2⟩ := lp_step hlp
  clear hlp
  replace hm : m_slices_IndexFunc_52_s2 p0 o0 i30 = some o2 := hm
  unfold m_slices_IndexFunc_52_s2 at hm
  refine c_flat [(0, .slice Ap0_0 p0.length cp0_0), (1, .func (.func 53) #[] #[.pointer (some ⟨go0, 0, none⟩)]), (7, .int .i64 (p0.length : Int)), (8, .int .i64 i30)] ⟨rfl, rfl, rfl, rfl, trivial⟩ (fun u => ?_)
  refine c_sta ⟨w0, M, (1000, go0, .cells #[.int .i64 o0] 3 (0, 0)) :: H, R, φ⟩ (fun _ h => h) <| c_seq <| c_region <| g_v rfl (r_lss rfl rfl) <| g_nil <| d_then <| c_seq ?_
  refine c_cond rfl (fun h41 => ?_) (fun h41 => ?_)
  ·
   replace hm := ite_t hm (of_decide_eq_true h41)
   refine c_skip <| d_then <| c_seq <| c_block <| c_seq <| c_region <| g_v rfl r_move <| g_v rfl r_assign <| g_nil <| d_then ?_
   refine c_seq <| c_region <| g_v rfl r_move <| g_v rfl r_move <| g_v rfl r_move ?_
   replace hm := bnd hm
   obtain ⟨x42, hx42, hm⟩ := hm
   refine g_know _ (fun W hS => cl_at (p := (Sta.mk w0 M H R φ).ok) (sz := 3) (fun _ => rfl) (by decide) (ok_pre (H1 := [_]) (R1 := []) hS (fun W h => h)) fp0_0 hx42) ?_
   rintro ⟨ad43, hA45, f44⟩
   refine g_v rfl (r_ix Try.underlying59 Try.sizeOf63 rfl hA45 rfl hx42) <| g_v rfl (r_ldA rfl Try.isAgg63 Try.sizeOf63 (fun W hS => (f44 W (ok_pre (H1 := [_]) (R1 := []) hS (fun W h => h))).take 3) rfl) ?_
   replace hm := bnd hm
   obtain ⟨x46, hx47, hm⟩ := hm
   refine g_cnv ⟨w0, M, (1000, go0, .cells #[.int .i64 o0] 3 (0, 0)) :: H, R, φ⟩ (fun W h => (ok_front (t := 1000) (t' := 1000) h rfl)) Try.call53 rfl rfl rfl (c_net_Net_find_c1 x42 go0 o0 _ hx47) (fun _ _ => ?_)
   refine g_sta _ (fun W h => (ok_front (t := 1000) (t' := 1000) h rfl)) <| g_nil <| d_then ?_
   refine c_flat [(0, .slice Ap0_0 p0.length cp0_0), (1, .func (.func 53) #[] #[.pointer (some ⟨go0, 0, none⟩)]), (5, .int .i64 i30), (7, .int .i64 (p0.length : Int)), (8, .int .i64 i30), (16, .bool x46)] ⟨rfl, rfl, rfl, rfl, rfl, rfl, trivial⟩ (fun u => ?_)
   refine c_cond rfl (fun h48 => ?_) (fun h48 => ?_)
   ·
    replace hm := ite_t hm h48
    refine c_seq <| c_region <| g_v rfl r_move <| g_v rfl r_assign <| g_nil <| d_then <| c_ret <| d_ret_block <| d_ret_then <| d_ret_then ?_
    refine d_ret_block <| d_ret_then <| d_ret_then ?_
    replace hm := nx_out (C := (fun e : Unit ⊕ Int => Sum.elim (fun e => m_slices_IndexFunc_52_j1) (fun x => some x) e = some r)) hm hnx2 hr2
    replace hm : some i30 = some r := hm
    replace hm := Option.some.inj hm
    subst hm
    refine d_retC () Try.results52 ?_ trivial (fun W h => h.phi (fun W hφ => hφ)) (.inr rfl)
    refine res_tmp <| res_nil ?_
    exact rfl
   ·
    replace hm := ite_f hm (bool_nt h48)
    refine c_skip <| d_normal_block <| d_then <| c_region <| g_v rfl (r_add rfl rfl rfl) <| g_v rfl r_move <| g_nil ?_
    obtain ⟨n49, hn49, hlp⟩ := nx_inl hm hnx2
    exact d_round (n49, w64 (i30 + 1)) hlp hn49 ⟨rfl, rfl, rfl, rfl, trivial⟩ (fun W h => h.phi (fun W hφ => hφ))
  ·
   replace hm := ite_f hm (of_decide_eq_false h41)
   refine c_exit <| d_exit_then <| d_exit_then <| d_exit_block ?_
   replace hm := nx_out (C := (fun e : Unit ⊕ Int => Sum.elim (fun e => m_slices_IndexFunc_52_j1) (fun x => some x) e = some r)) hm hnx2 hr2
   exact d_round () hm Nat.zero_lt_one trivial (fun W h => h.phi (fun W hφ => hφ))
 ·
  unfold m_slices_IndexFunc_52_j1 at hm
  refine d_flat [] trivial (fun u => ?_)
  refine d_sta ⟨w0, M, (1000, go0, .cells #[.int .i64 o0] 3 (0, 0)) :: H, R, φ⟩ (fun _ h => h) <| d_then <| c_seq <| c_region <| g_v rfl r_assign <| g_nil <| d_then <| c_ret ?_
  replace hm := Option.some.inj hm
  subst hm
  refine d_retC () Try.results52 ?_ trivial (fun W h => h.phi (fun W hφ => hφ)) (.inr rfl)
  refine res_tmp <| res_nil ?_
  exact rfl
noncomputable def m_net_Net_find (p1 : Int) (o0 : Gnet_Net) : Option (Int × Bool) :=
  (m_slices_IndexFunc_52 o0.fconns p1).bind fun x2 =>
  some (x2, decide (0 ≤ x2))
theorem c_net_Net_find {w0 : World} {M : Nat → Prop} {H : List (Nat × Nat × Obj)} {R : List (Nat × Row)} {φ : World → Prop} (p1 : Int) (go0 : Nat) (o0 : Gnet_Net) (Ao0_0 : Option Addr) (co0_0 : Nat) (hco0_0 : o0.fitems.length ≤ co0_0) (Ao0_1 : Option Addr) (co0_1 : Nat) (hco0_1 : o0.fconns.length ≤ co0_1) (r : Int × Bool) (hm : m_net_Net_find p1 o0 = some r) :
    Cn Try.prog 29 #[.pointer (some ⟨go0, 0, none⟩), .int .i64 p1] ⟨w0, M, (1000, go0, .cells #[.slice Ao0_0 o0.fitems.length co0_0, .slice Ao0_1 o0.fconns.length co0_1, .int .i64 o0.flast, .int .i64 o0.fopens] 61 (0, 0)) :: H, (1000, ⟨.slice Ao0_0 o0.fitems.length co0_0, 40, 6, o0.fitems.length, o0.fitems.flatMap GItem.enc⟩) :: (1001, ⟨.slice Ao0_1 o0.fconns.length co0_1, 63, 3, o0.fconns.length, o0.fconns.flatMap Gnet_conn.enc⟩) :: R, φ⟩ (fun x : Unit => .tuple #[.int .i64 r.1, .bool r.2]) (fun x => True) (fun x => ⟨w0, M, (1000, go0, .cells #[.slice Ao0_0 o0.fitems.length co0_0, .slice Ao0_1 o0.fconns.length co0_1, .int .i64 o0.flast, .int .i64 o0.fopens] 61 (0, 0)) :: H, (1000, ⟨.slice Ao0_0 o0.fitems.length co0_0, 40, 6, o0.fitems.length, o0.fitems.flatMap GItem.enc⟩) :: (1001, ⟨.slice Ao0_1 o0.fconns.length co0_1, 63, 3, o0.fconns.length, o0.fconns.flatMap Gnet_conn.enc⟩) :: R, φ⟩) := by
 unfold m_net_Net_find at hm
 refine cn_intro (fn := Try.f29) (N := 18) Try.func29 rfl Try.ntmps29 rfl <| c_seq <| c_region ?_
 refine g_e rfl (e_box 100030 rfl) (fun g1 _ => ?_)
 refine g_v rfl r_assign <| g_v rfl r_assign <| g_nil <| d_then <| c_seq <| c_seq <| c_region <| g_v rfl r_move <| g_v rfl (r_eqlP1 Try.underlying24 rfl rfl) <| g_nil ?_
 refine d_then <| c_cond0 rfl rfl <| c_skip <| d_then <| c_seq <| c_region <| g_v rfl r_move <| g_v rfl (r_nilck rfl) <| g_v rfl (r_field (n := 1) Try.underlying61 rfl Try.sizeOf59 rfl rfl) <| g_v rfl (r_load (tag := 1000) rfl rfl rfl Try.isAgg59) ?_
 refine g_v rfl (r_mkf rfl) ?_
 replace hm := bnd hm
 obtain ⟨x2, hx3, hm⟩ := hm
 refine g_cn ⟨w0, M, (1000, g1, .cells #[.int .i64 p1] 3 (0, 0)) :: (1000, go0, .cells #[.slice Ao0_0 o0.fitems.length co0_0, .slice Ao0_1 o0.fconns.length co0_1, .int .i64 o0.flast, .int .i64 o0.fopens] 61 (0, 0)) :: H, (1000, ⟨.slice Ao0_0 o0.fitems.length co0_0, 40, 6, o0.fitems.length, o0.fitems.flatMap GItem.enc⟩) :: (1001, ⟨.slice Ao0_1 o0.fconns.length co0_1, 63, 3, o0.fconns.length, o0.fconns.flatMap Gnet_conn.enc⟩) :: R, φ⟩ (fun W h => (ok_front (t := 100030) (t' := 1000) h rfl)) Try.call52 rfl rfl (c_slices_IndexFunc_52 o0.fconns Ao0_1 co0_1 hco0_1 (fun W hS => rowCl (tag := 1001) rfl W hS) g1 p1 _ hx3) (fun _ _ => ?_)
 refine g_sta _ (fun W h => (ok_front (t := 1000) (t' := 100030) h rfl)) <| g_v rfl r_assign <| g_nil <| d_then ?_
 refine c_flat [(6, .int .i64 x2)] ⟨rfl, trivial⟩ (fun u => ?_)
 refine c_sta ⟨w0, M, (100030, g1, .cells #[.int .i64 p1] 3 (0, 0)) :: (1000, go0, .cells #[.slice Ao0_0 o0.fitems.length co0_0, .slice Ao0_1 o0.fconns.length co0_1, .int .i64 o0.flast, .int .i64 o0.fopens] 61 (0, 0)) :: H, (1000, ⟨.slice Ao0_0 o0.fitems.length co0_0, 40, 6, o0.fitems.length, o0.fitems.flatMap GItem.enc⟩) :: (1001, ⟨.slice Ao0_1 o0.fconns.length co0_1, 63, 3, o0.fconns.length, o0.fconns.flatMap Gnet_conn.enc⟩) :: R, φ⟩ (fun _ h => h) <| c_seq <| c_region <| g_v rfl r_move <| g_v rfl r_move <| g_v rfl (r_geq rfl rfl) <| g_v rfl r_assign <| g_v rfl r_assign <| g_nil <| d_then ?_
 refine c_ret ?_
 replace hm := Option.some.inj hm
 subst hm
 refine d_retC () Try.results29 ?_ trivial (fun W h => (h.dropH (t := 100030) rfl).phi (fun W hφ => hφ)) (.inr rfl)
 refine res_tmp <| res_tmp <| res_nil ?_
 exact rfl
noncomputable def m_net_conn_has (p0 : Gnet_conn) (p1 : Int) : Option Bool :=
  if p1 = p0.fends.a0 then
    some true
  else
    some (decide (p1 = p0.fends.a1))
theorem c_net_conn_has {w0 : World} {M : Nat → Prop} {H : List (Nat × Nat × Obj)} {R : List (Nat × Row)} {φ : World → Prop} (p0 : Gnet_conn) (p1 : Int) (r : Bool) (hm : m_net_conn_has p0 p1 = some r) :
    Cn Try.prog 39 #[.agg #[.int .i64 p0.fnumber, .int .i64 p0.fends.a0, .int .i64 p0.fends.a1], .int .i64 p1] ⟨w0, M, H, R, φ⟩ (fun x : Unit => .bool r) (fun x => True) (fun x => ⟨w0, M, H, R, φ⟩) := by
 unfold m_net_conn_has at hm
 refine cn_intro (fn := Try.f39) (N := 17) Try.func39 rfl Try.ntmps39 rfl <| c_seq <| c_region ?_
 refine g_e rfl (e_box 100020 rfl) (fun g1 _ => ?_)
 refine g_v rfl r_assign <| g_nil <| d_then <| c_seq <| c_region <| g_v rfl r_move <| g_v rfl (r_field (n := 1) Try.underlying63 rfl Try.sizeOf30 rfl rfl) <| g_v rfl (r_elemH (n := 1) Try.underlying30 Try.sizeOf3 rfl rfl (by decide) (by decide) rfl) <| g_v rfl (r_load (tag := 100020) rfl rfl rfl Try.isAgg3) <| g_v rfl (r_eql rfl rfl) ?_
 refine g_v rfl r_move ?_
 refine g_if rfl rfl rfl rfl rfl (fun h2 => ?_) (fun h2 => ?_)
 ·
  replace hm := ite_f hm (of_decide_eq_false h2)
  refine g_v rfl r_move <| g_do rfl rfl rfl rfl rfl h2 <| g_v rfl (r_field (n := 1) Try.underlying63 rfl Try.sizeOf30 rfl rfl) <| g_do rfl rfl rfl rfl rfl h2 <| g_v rfl (r_elemH (n := 2) Try.underlying30 Try.sizeOf3 rfl rfl (by decide) (by decide) rfl) <| g_do rfl rfl rfl rfl rfl h2 <| g_v rfl (r_load (tag := 100020) rfl rfl rfl Try.isAgg3) <| g_do rfl rfl rfl rfl rfl h2 <| g_v rfl (r_eql rfl rfl) <| g_v rfl (r_pick0 rfl h2) ?_
  refine g_v rfl r_assign <| g_nil <| d_then ?_
  refine c_flat [(4, .bool (decide (p1 = p0.fends.a1)))] ⟨rfl, trivial⟩ (fun u => ?_)
  refine c_sta ⟨w0, M, (100020, g1, .cells #[.int .i64 p0.fnumber, .int .i64 p0.fends.a0, .int .i64 p0.fends.a1] 63 (0, 0)) :: H, R, φ⟩ (fun _ h => h) <| c_ret ?_
  replace hm := Option.some.inj hm
  subst hm
  refine d_retC () Try.results39 ?_ trivial (fun W h => ok_pre (H1 := [_]) (R1 := []) h (fun W hφ => hφ)) (.inr rfl)
  refine res_tmp <| res_nil ?_
  exact rfl
 ·
  replace hm := ite_t hm (of_decide_eq_true h2)
  refine g_no rfl rfl rfl rfl rfl h2 <| g_no rfl rfl rfl rfl rfl h2 <| g_no rfl rfl rfl rfl rfl h2 <| g_no rfl rfl rfl rfl rfl h2 <| g_v rfl (r_pick1 rfl h2) <| g_v rfl r_assign <| g_nil <| d_then ?_
  refine c_flat [(4, .bool true)] ⟨rfl, trivial⟩ (fun u => ?_)
  refine c_sta ⟨w0, M, (100020, g1, .cells #[.int .i64 p0.fnumber, .int .i64 p0.fends.a0, .int .i64 p0.fends.a1] 63 (0, 0)) :: H, R, φ⟩ (fun _ h => h) <| c_ret ?_
  replace hm := Option.some.inj hm
  subst hm
  refine d_retC () Try.results39 ?_ trivial (fun W h => ok_pre (H1 := [_]) (R1 := []) h (fun W hφ => hφ)) (.inr rfl)
  refine res_tmp <| res_nil ?_
  exact rfl
noncomputable def m_net_conn_other (p0 : Gnet_conn) (p1 : Int) : Option Int :=
  if p1 = p0.fends.a0 then
    some p0.fends.a1
  else
    some p0.fends.a0
theorem c_net_conn_other {w0 : World} {M : Nat → Prop} {H : List (Nat × Nat × Obj)} {R : List (Nat × Row)} {φ : World → Prop} (p0 : Gnet_conn) (p1 : Int) (r : Int) (hm : m_net_conn_other p0 p1 = some r) :
    Cn Try.prog 40 #[.agg #[.int .i64 p0.fnumber, .int .i64 p0.fends.a0, .int .i64 p0.fends.a1], .int .i64 p1] ⟨w0, M, H, R, φ⟩ (fun x : Unit => .int .i64 r) (fun x => True) (fun x => ⟨w0, M, H, R, φ⟩) := by
 unfold m_net_conn_other at hm
 refine cn_intro (fn := Try.f40) (N := 16) Try.func40 rfl Try.ntmps40 rfl <| c_seq <| c_region ?_
 refine g_e rfl (e_box 100020 rfl) (fun g1 _ => ?_)
 refine g_v rfl r_assign <| g_nil <| d_then <| c_seq <| c_seq <| c_region <| g_v rfl r_move <| g_v rfl (r_field (n := 1) Try.underlying63 rfl Try.sizeOf30 rfl rfl) <| g_v rfl (r_elemH (n := 1) Try.underlying30 Try.sizeOf3 rfl rfl (by decide) (by decide) rfl) <| g_v rfl (r_load (tag := 100020) rfl rfl rfl Try.isAgg3) ?_
 refine g_v rfl (r_eql rfl rfl) <| g_nil <| d_then ?_
 refine c_cond rfl (fun h2 => ?_) (fun h2 => ?_)
 ·
  replace hm := ite_t hm (of_decide_eq_true h2)
  refine c_seq <| c_region <| g_v rfl (r_field (n := 1) Try.underlying63 rfl Try.sizeOf30 rfl rfl) <| g_v rfl (r_elemH (n := 2) Try.underlying30 Try.sizeOf3 rfl rfl (by decide) (by decide) rfl) <| g_v rfl (r_load (tag := 100020) rfl rfl rfl Try.isAgg3) <| g_v rfl r_assign <| g_nil <| d_then ?_
  refine c_flat [(4, .int .i64 p0.fends.a1)] ⟨rfl, trivial⟩ (fun u => ?_)
  refine c_sta ⟨w0, M, (100020, g1, .cells #[.int .i64 p0.fnumber, .int .i64 p0.fends.a0, .int .i64 p0.fends.a1] 63 (0, 0)) :: H, R, φ⟩ (fun _ h => h) <| c_ret <| d_ret_then ?_
  replace hm := Option.some.inj hm
  subst hm
  refine d_retC () Try.results40 ?_ trivial (fun W h => ok_pre (H1 := [_]) (R1 := []) h (fun W hφ => hφ)) (.inr rfl)
  refine res_tmp <| res_nil ?_
  exact rfl
 ·
  replace hm := ite_f hm (of_decide_eq_false h2)
  refine c_skip <| d_then <| c_seq <| c_region <| g_v rfl (r_field (n := 1) Try.underlying63 rfl Try.sizeOf30 rfl rfl) <| g_v rfl (r_elemH (n := 1) Try.underlying30 Try.sizeOf3 rfl rfl (by decide) (by decide) rfl) <| g_v rfl (r_load (tag := 100020) rfl rfl rfl Try.isAgg3) <| g_v rfl r_assign <| g_nil <| d_then ?_
  refine c_flat [(4, .int .i64 p0.fends.a0)] ⟨rfl, trivial⟩ (fun u => ?_)
  refine c_sta ⟨w0, M, (100020, g1, .cells #[.int .i64 p0.fnumber, .int .i64 p0.fends.a0, .int .i64 p0.fends.a1] 63 (0, 0)) :: H, R, φ⟩ (fun _ h => h) <| c_ret ?_
  replace hm := Option.some.inj hm
  subst hm
  refine d_retC () Try.results40 ?_ trivial (fun W h => ok_pre (H1 := [_]) (R1 := []) h (fun W hφ => hφ)) (.inr rfl)
  refine res_tmp <| res_nil ?_
  exact rfl
noncomputable def m_net_Net_Peer (p1 : Int) (p2 : Int) (o0 : Gnet_Net) : Option (Int × Bool) :=
  (m_net_Net_find p1 o0).bind fun (z4 : Int × Bool) =>
  if z4.2 = true then
    (at_ o0.fconns z4.1).bind fun x6 =>
    (m_net_conn_has x6 p2).bind fun x10 =>
    if x10 = true then
      (at_ o0.fconns z4.1).bind fun x13 =>
      (m_net_conn_other x13 p2).bind fun x17 =>
      some (x17, true)
    else
      some (0, false)
  else
    some (0, false)
theorem c_net_Net_Peer {w0 : World} {M : Nat → Prop} {H : List (Nat × Nat × Obj)} {R : List (Nat × Row)} {φ : World → Prop} (p1 : Int) (p2 : Int) (go0 : Nat) (o0 : Gnet_Net) (Ao0_0 : Option Addr) (co0_0 : Nat) (hco0_0 : o0.fitems.length ≤ co0_0) (Ao0_1 : Option Addr) (co0_1 : Nat) (hco0_1 : o0.fconns.length ≤ co0_1) (r : Int × Bool) (hm : m_net_Net_Peer p1 p2 o0 = some r) :
    Cn Try.prog 22 #[.pointer (some ⟨go0, 0, none⟩), .int .i64 p1, .int .i64 p2] ⟨w0, M, (1000, go0, .cells #[.slice Ao0_0 o0.fitems.length co0_0, .slice Ao0_1 o0.fconns.length co0_1, .int .i64 o0.flast, .int .i64 o0.fopens] 61 (0, 0)) :: H, (1000, ⟨.slice Ao0_0 o0.fitems.length co0_0, 40, 6, o0.fitems.length, o0.fitems.flatMap GItem.enc⟩) :: (1001, ⟨.slice Ao0_1 o0.fconns.length co0_1, 63, 3, o0.fconns.length, o0.fconns.flatMap Gnet_conn.enc⟩) :: R, φ⟩ (fun x : Unit => .tuple #[.int .i64 r.1, .bool r.2]) (fun x => True) (fun x => ⟨w0, M, (1000, go0, .cells #[.slice Ao0_0 o0.fitems.length co0_0, .slice Ao0_1 o0.fconns.length co0_1, .int .i64 o0.flast, .int .i64 o0.fopens] 61 (0, 0)) :: H, (1000, ⟨.slice Ao0_0 o0.fitems.length co0_0, 40, 6, o0.fitems.length, o0.fitems.flatMap GItem.enc⟩) :: (1001, ⟨.slice Ao0_1 o0.fconns.length co0_1, 63, 3, o0.fconns.length, o0.fconns.flatMap Gnet_conn.enc⟩) :: R, φ⟩) := by
 unfold m_net_Net_Peer at hm
 refine cn_intro (fn := Try.f22) (N := 39) Try.func22 rfl Try.ntmps22 rfl <| c_seq <| c_region <| g_v rfl r_assign <| g_v rfl r_assign <| g_nil <| d_then <| c_seq <| c_region <| g_v rfl r_move ?_
 refine g_v rfl r_move ?_
 replace hm := bnd hm
 obtain ⟨⟨x1, x2⟩, hx3, hm⟩ := hm
 refine g_cn ⟨w0, M, (1000, go0, .cells #[.slice Ao0_0 o0.fitems.length co0_0, .slice Ao0_1 o0.fconns.length co0_1, .int .i64 o0.flast, .int .i64 o0.fopens] 61 (0, 0)) :: H, (1000, ⟨.slice Ao0_0 o0.fitems.length co0_0, 40, 6, o0.fitems.length, o0.fitems.flatMap GItem.enc⟩) :: (1001, ⟨.slice Ao0_1 o0.fconns.length co0_1, 63, 3, o0.fconns.length, o0.fconns.flatMap Gnet_conn.enc⟩) :: R, φ⟩ (fun W h => (ok_front (t := 1000) (t' := 1000) (ok_frontR (t := 1000) (t' := 1000) (ok_frontR (t := 1001) (t' := 1001) h rfl) rfl) rfl)) Try.call29 rfl rfl (c_net_Net_find p1 go0 o0 Ao0_0 co0_0 hco0_0 Ao0_1 co0_1 hco0_1 _ hx3) (fun _ _ => ?_)
 refine g_sta _ (fun W h => (ok_frontR (t := 1000) (t' := 1000) (ok_frontR (t := 1001) (t' := 1001) (ok_front (t := 1000) (t' := 1000) h rfl) rfl) rfl)) <| g_v rfl r_move <| g_v rfl (r_extract rfl rfl) <| g_v rfl (r_extract rfl rfl) <| g_v rfl r_assign <| g_v rfl r_assign <| g_nil <| d_then ?_
 refine c_flat [(0, .pointer (some ⟨go0, 0, none⟩)), (2, .int .i64 p2), (8, .int .i64 x1), (9, .bool x2)] ⟨rfl, rfl, rfl, rfl, trivial⟩ (fun u => ?_)
 refine c_sta ⟨w0, M, (1000, go0, .cells #[.slice Ao0_0 o0.fitems.length co0_0, .slice Ao0_1 o0.fconns.length co0_1, .int .i64 o0.flast, .int .i64 o0.fopens] 61 (0, 0)) :: H, (1000, ⟨.slice Ao0_0 o0.fitems.length co0_0, 40, 6, o0.fitems.length, o0.fitems.flatMap GItem.enc⟩) :: (1001, ⟨.slice Ao0_1 o0.fconns.length co0_1, 63, 3, o0.fconns.length, o0.fconns.flatMap Gnet_conn.enc⟩) :: R, φ⟩ (fun _ h => h) <| c_seq <| c_seq <| c_region <| g_v rfl r_move <| g_v rfl (r_not rfl) <| g_v rfl r_move ?_
 refine g_if rfl rfl rfl rfl rfl (fun h5 => ?_) (fun h5 => ?_)
 ·
  have h5' : x2 = true := by revert h5; cases x2 <;> simp
  replace hm := ite_t hm h5'
  refine g_v rfl r_move <| g_do rfl rfl rfl rfl rfl h5 <| g_v rfl (r_nilck rfl) <| g_do rfl rfl rfl rfl rfl h5 <| g_v rfl (r_field (n := 1) Try.underlying61 rfl Try.sizeOf59 rfl rfl) <| g_do rfl rfl rfl rfl rfl h5 <| g_v rfl (r_load (tag := 1000) rfl rfl rfl Try.isAgg59) <| g_do rfl rfl rfl rfl rfl h5 <| g_v rfl r_move <| g_do rfl rfl rfl rfl rfl h5 ?_
  replace hm := bnd hm
  obtain ⟨x6, hx6, hm⟩ := hm
  refine g_know _ (fun W hS => cl_at (p := (Sta.ok ⟨w0, M, (1000, go0, .cells #[.slice Ao0_0 o0.fitems.length co0_0, .slice Ao0_1 o0.fconns.length co0_1, .int .i64 o0.flast, .int .i64 o0.fopens] 61 (0, 0)) :: H, (1000, ⟨.slice Ao0_0 o0.fitems.length co0_0, 40, 6, o0.fitems.length, o0.fitems.flatMap GItem.enc⟩) :: (1001, ⟨.slice Ao0_1 o0.fconns.length co0_1, 63, 3, o0.fconns.length, o0.fconns.flatMap Gnet_conn.enc⟩) :: R, φ⟩)) (sz := 3) (fun _ => rfl) (by decide) hS (fun W hS => rowCl (S := ⟨w0, M, (1000, go0, .cells #[.slice Ao0_0 o0.fitems.length co0_0, .slice Ao0_1 o0.fconns.length co0_1, .int .i64 o0.flast, .int .i64 o0.fopens] 61 (0, 0)) :: H, (1000, ⟨.slice Ao0_0 o0.fitems.length co0_0, 40, 6, o0.fitems.length, o0.fitems.flatMap GItem.enc⟩) :: (1001, ⟨.slice Ao0_1 o0.fconns.length co0_1, 63, 3, o0.fconns.length, o0.fconns.flatMap Gnet_conn.enc⟩) :: R, φ⟩) (tag := 1001) rfl W hS) hx6) ?_
  rintro ⟨ad7, hA9, f8⟩
  refine g_v rfl (r_ix Try.underlying59 Try.sizeOf63 rfl hA9 rfl hx6) <| g_do rfl rfl rfl rfl rfl h5 <| g_v rfl (r_ldA rfl Try.isAgg63 Try.sizeOf63 (fun W hS => (f8 W hS).take 3) rfl) <| g_do rfl rfl rfl rfl rfl h5 <| g_v rfl r_move <| g_do rfl rfl rfl rfl rfl h5 ?_
  replace hm := bnd hm
  obtain ⟨x10, hx11, hm⟩ := hm
  refine g_cn ⟨w0, M, _, _, φ⟩ (fun _ h => h) Try.call39 rfl rfl (c_net_conn_has x6 p2 _ hx11) (fun _ _ => ?_)
  refine g_do rfl rfl rfl rfl rfl h5 <| g_v rfl (r_not rfl) <| g_v rfl (r_pick0 rfl h5) <| g_nil <| d_then ?_
  refine c_flat [(0, .pointer (some ⟨go0, 0, none⟩)), (2, .int .i64 p2), (8, .int .i64 x1), (29, .bool (!x10))] ⟨rfl, rfl, rfl, rfl, trivial⟩ (fun u => ?_)
  refine c_cond rfl (fun h12 => ?_) (fun h12 => ?_)
  ·
   have h12' : x10 = false := by revert h12; cases x10 <;> simp
   replace hm := ite_f hm (bool_nt h12')
   refine c_seq <| c_region <| g_v rfl r_assign <| g_v rfl r_assign <| g_nil <| d_then <| c_ret <| d_ret_then ?_
   replace hm := Option.some.inj hm
   subst hm
   refine d_retC () Try.results22 ?_ trivial (fun W h => h.phi (fun W hφ => hφ)) (.inr rfl)
   refine res_tmp <| res_tmp <| res_nil ?_
   exact rfl
  ·
   have h12' : x10 = true := by revert h12; cases x10 <;> simp
   replace hm := ite_t hm h12'
   refine c_skip <| d_then <| c_seq <| c_region <| g_v rfl r_move <| g_v rfl (r_nilck rfl) <| g_v rfl (r_field (n := 1) Try.underlying61 rfl Try.sizeOf59 rfl rfl) <| g_v rfl (r_load (tag := 1000) rfl rfl rfl Try.isAgg59) <| g_v rfl r_move ?_
   replace hm := bnd hm
   obtain ⟨x13, hx13, hm⟩ := hm
   refine g_know _ (fun W hS => cl_at (p := (Sta.ok ⟨w0, M, (1000, go0, .cells #[.slice Ao0_0 o0.fitems.length co0_0, .slice Ao0_1 o0.fconns.length co0_1, .int .i64 o0.flast, .int .i64 o0.fopens] 61 (0, 0)) :: H, (1000, ⟨.slice Ao0_0 o0.fitems.length co0_0, 40, 6, o0.fitems.length, o0.fitems.flatMap GItem.enc⟩) :: (1001, ⟨.slice Ao0_1 o0.fconns.length co0_1, 63, 3, o0.fconns.length, o0.fconns.flatMap Gnet_conn.enc⟩) :: R, φ⟩)) (sz := 3) (fun _ => rfl) (by decide) hS (fun W hS => rowCl (S := ⟨w0, M, (1000, go0, .cells #[.slice Ao0_0 o0.fitems.length co0_0, .slice Ao0_1 o0.fconns.length co0_1, .int .i64 o0.flast, .int .i64 o0.fopens] 61 (0, 0)) :: H, (1000, ⟨.slice Ao0_0 o0.fitems.length co0_0, 40, 6, o0.fitems.length, o0.fitems.flatMap GItem.enc⟩) :: (1001, ⟨.slice Ao0_1 o0.fconns.length co0_1, 63, 3, o0.fconns.length, o0.fconns.flatMap Gnet_conn.enc⟩) :: R, φ⟩) (tag := 1001) rfl W hS) hx13) ?_
   rintro ⟨ad14, hA16, f15⟩
   refine g_v rfl (r_ix Try.underlying59 Try.sizeOf63 rfl hA16 rfl hx13) <| g_v rfl (r_ldA rfl Try.isAgg63 Try.sizeOf63 (fun W hS => (f15 W hS).take 3) rfl) <| g_v rfl r_move ?_
   replace hm := bnd hm
   obtain ⟨x17, hx18, hm⟩ := hm
   refine g_cn ⟨w0, M, _, _, φ⟩ (fun _ h => h) Try.call40 rfl rfl (c_net_conn_other x13 p2 _ hx18) (fun _ _ => ?_)
   refine g_v rfl r_assign <| g_v rfl r_assign <| g_nil <| d_then ?_
   refine c_flat [(6, .int .i64 x17), (7, .bool true)] ⟨rfl, rfl, trivial⟩ (fun u => ?_)
   refine c_ret ?_
   replace hm := Option.some.inj hm
   subst hm
   refine d_retC () Try.results22 ?_ trivial (fun W h => h.phi (fun W hφ => hφ)) (.inr rfl)
   refine res_tmp <| res_tmp <| res_nil ?_
   exact rfl
 ·
  have h5' : x2 = false := by revert h5; cases x2 <;> simp
  replace hm := ite_f hm (bool_nt h5')
  refine g_no rfl rfl rfl rfl rfl h5 <| g_no rfl rfl rfl rfl rfl h5 <| g_no rfl rfl rfl rfl rfl h5 <| g_no rfl rfl rfl rfl rfl h5 <| g_no rfl rfl rfl rfl rfl h5 <| g_no rfl rfl rfl rfl rfl h5 <| g_no rfl rfl rfl rfl rfl h5 <| g_no rfl rfl rfl rfl rfl h5 <| g_no rfl rfl rfl rfl rfl h5 <| g_v rfl (r_pick1 rfl h5) ?_
  refine g_nil <| d_then <| c_cond1 rfl rfl <| c_seq <| c_region <| g_v rfl r_assign <| g_v rfl r_assign <| g_nil <| d_then <| c_ret ?_
  refine d_ret_then ?_
  replace hm := Option.some.inj hm
  subst hm
  refine d_retC () Try.results22 ?_ trivial (fun W h => h.phi (fun W hφ => hφ)) (.inr rfl)
  refine res_tmp <| res_tmp <| res_nil ?_
  exact rfl
theorem bld40_15 (z0 : Int) (z1 : Int) (z2 : Int) (z3 : Int) (z4 : ByteArray) : ∀ W, (Instr.build 40 #[(1, .int .i64 z0), (2, .int .i64 z1), (3, .int .i64 z2), (4, .int .i64 z3), (5, .string z4)]).run Try.prog W = .ok (.agg #[.int .i64 0, .int .i64 z0, .int .i64 z1, .int .i64 z2, .int .i64 z3, .string z4]) W := fun _ => by kernel_rfl
noncomputable def m_net_Net_Write (p1 : Int) (p2 : Int) (p3 : ByteArray) (o0 : Gnet_Net) : Option (Bool × Gnet_Net) :=
  (m_net_Net_Peer p1 p2 o0).bind fun (z4 : Int × Bool) =>
  if z4.2 = true then
    (m_net_Net_full o0).bind fun x6 =>
    if x6 = true then
      some (false, o0)
    else
      (m_net_Net_add (⟨0, 3, p2, z4.1, p1, p3⟩ : GItem) o0).bind fun x9 =>
      some (true, (⟨x9.fitems, o0.fconns, x9.flast, o0.fopens⟩ : Gnet_Net))
  else
    some (false, o0)
theorem c_net_Net_Write {w0 : World} {M : Nat → Prop} {H : List (Nat × Nat × Obj)} {R : List (Nat × Row)} {φ : World → Prop} (p1 : Int) (p2 : Int) (p3 : ByteArray) (go0 : Nat) (o0 : Gnet_Net) (Ao0_0 : Option Addr) (co0_0 : Nat) (hco0_0 : o0.fitems.length ≤ co0_0) (Ao0_1 : Option Addr) (co0_1 : Nat) (hco0_1 : o0.fconns.length ≤ co0_1) (r : Bool × Gnet_Net) (hm : m_net_Net_Write p1 p2 p3 o0 = some r) :
    Cn Try.prog 13 #[.pointer (some ⟨go0, 0, none⟩), .int .i64 p1, .int .i64 p2, .string p3] ⟨w0, M, (1000, go0, .cells #[.slice Ao0_0 o0.fitems.length co0_0, .slice Ao0_1 o0.fconns.length co0_1, .int .i64 o0.flast, .int .i64 o0.fopens] 61 (0, 0)) :: H, (1000, ⟨.slice Ao0_0 o0.fitems.length co0_0, 40, 6, o0.fitems.length, o0.fitems.flatMap GItem.enc⟩) :: (1001, ⟨.slice Ao0_1 o0.fconns.length co0_1, 63, 3, o0.fconns.length, o0.fconns.flatMap Gnet_conn.enc⟩) :: R, φ⟩ (fun x : Option Addr × Nat => .bool r.1) (fun x => r.2.fitems.length ≤ x.2) (fun x => ⟨w0, M, (1000, go0, .cells #[.slice x.1 r.2.fitems.length x.2, .slice Ao0_1 o0.fconns.length co0_1, .int .i64 r.2.flast, .int .i64 o0.fopens] 61 (0, 0)) :: H, (2000, ⟨.slice x.1 r.2.fitems.length x.2, 40, 6, r.2.fitems.length, r.2.fitems.flatMap GItem.enc⟩) :: (1001, ⟨.slice Ao0_1 o0.fconns.length co0_1, 63, 3, o0.fconns.length, o0.fconns.flatMap Gnet_conn.enc⟩) :: R, φ⟩) := by
 unfold m_net_Net_Write at hm
 refine cn_intro (fn := Try.f13) (N := 31) Try.func13 rfl Try.ntmps13 rfl <| c_seq <| c_region <| g_v rfl r_assign <| g_nil <| d_then <| c_seq <| c_region <| g_v rfl r_move <| g_v rfl r_move ?_
 refine g_v rfl r_move ?_
 replace hm := bnd hm
 obtain ⟨⟨x1, x2⟩, hx3, hm⟩ := hm
 refine g_cn ⟨w0, M, (1000, go0, .cells #[.slice Ao0_0 o0.fitems.length co0_0, .slice Ao0_1 o0.fconns.length co0_1, .int .i64 o0.flast, .int .i64 o0.fopens] 61 (0, 0)) :: H, (1000, ⟨.slice Ao0_0 o0.fitems.length co0_0, 40, 6, o0.fitems.length, o0.fitems.flatMap GItem.enc⟩) :: (1001, ⟨.slice Ao0_1 o0.fconns.length co0_1, 63, 3, o0.fconns.length, o0.fconns.flatMap Gnet_conn.enc⟩) :: R, φ⟩ (fun W h => (ok_front (t := 1000) (t' := 1000) (ok_frontR (t := 1000) (t' := 1000) (ok_frontR (t := 1001) (t' := 1001) h rfl) rfl) rfl)) Try.call22 rfl rfl (c_net_Net_Peer p1 p2 go0 o0 Ao0_0 co0_0 hco0_0 Ao0_1 co0_1 hco0_1 _ hx3) (fun _ _ => ?_)
 refine g_sta _ (fun W h => (ok_frontR (t := 1000) (t' := 1000) (ok_frontR (t := 1001) (t' := 1001) (ok_front (t := 1000) (t' := 1000) h rfl) rfl) rfl)) <| g_v rfl r_move <| g_v rfl (r_extract rfl rfl) <| g_v rfl (r_extract rfl rfl) <| g_v rfl r_assign <| g_v rfl r_assign <| g_nil <| d_then ?_
 refine c_flat [(0, .pointer (some ⟨go0, 0, none⟩)), (1, .int .i64 p1), (2, .int .i64 p2), (3, .string p3), (9, .int .i64 x1), (10, .bool x2)] ⟨rfl, rfl, rfl, rfl, rfl, rfl, trivial⟩ (fun u => ?_)
 refine c_sta ⟨w0, M, (1000, go0, .cells #[.slice Ao0_0 o0.fitems.length co0_0, .slice Ao0_1 o0.fconns.length co0_1, .int .i64 o0.flast, .int .i64 o0.fopens] 61 (0, 0)) :: H, (1000, ⟨.slice Ao0_0 o0.fitems.length co0_0, 40, 6, o0.fitems.length, o0.fitems.flatMap GItem.enc⟩) :: (1001, ⟨.slice Ao0_1 o0.fconns.length co0_1, 63, 3, o0.fconns.length, o0.fconns.flatMap Gnet_conn.enc⟩) :: R, φ⟩ (fun _ h => h) <| c_seq <| c_seq <| c_region <| g_v rfl r_move <| g_v rfl (r_not rfl) <| g_v rfl r_move ?_
 refine g_if rfl rfl rfl rfl rfl (fun h5 => ?_) (fun h5 => ?_)
 ·
  have h5' : x2 = true := by revert h5; cases x2 <;> simp
  replace hm := ite_t hm h5'
  refine g_v rfl r_move <| g_do rfl rfl rfl rfl rfl h5 ?_
  replace hm := bnd hm
  obtain ⟨x6, hx7, hm⟩ := hm
  refine g_cn ⟨w0, M, (1000, go0, .cells #[.slice Ao0_0 o0.fitems.length co0_0, .slice Ao0_1 o0.fconns.length co0_1, .int .i64 o0.flast, .int .i64 o0.fopens] 61 (0, 0)) :: H, (1000, ⟨.slice Ao0_0 o0.fitems.length co0_0, 40, 6, o0.fitems.length, o0.fitems.flatMap GItem.enc⟩) :: (1001, ⟨.slice Ao0_1 o0.fconns.length co0_1, 63, 3, o0.fconns.length, o0.fconns.flatMap Gnet_conn.enc⟩) :: R, φ⟩ (fun W h => (ok_front (t := 1000) (t' := 1000) (ok_frontR (t := 1000) (t' := 1000) (ok_frontR (t := 1001) (t' := 1001) h rfl) rfl) rfl)) Try.call27 rfl rfl (c_net_Net_full go0 o0 Ao0_0 co0_0 hco0_0 Ao0_1 co0_1 hco0_1 _ hx7) (fun _ _ => ?_)
  refine g_sta _ (fun W h => (ok_frontR (t := 1000) (t' := 1000) (ok_frontR (t := 1001) (t' := 1001) (ok_front (t := 1000) (t' := 1000) h rfl) rfl) rfl)) <| g_v rfl (r_pick0 rfl h5) <| g_nil <| d_then ?_
  refine c_cond rfl (fun h8 => ?_) (fun h8 => ?_)
  ·
   replace hm := ite_t hm h8
   refine c_seq <| c_region <| g_v rfl r_assign <| g_nil <| d_then <| c_ret <| d_ret_then ?_
   replace hm := Option.some.inj hm
   subst hm
   refine d_sta _ (fun W h => ok_frontR (t := 1000) (t' := 2000) h rfl) ?_
   refine d_retC (Ao0_0, co0_0) Try.results13 ?_ hco0_0 (fun W h => h.phi (fun W hφ => hφ)) (.inr rfl)
   refine res_tmp <| res_nil ?_
   exact rfl
  ·
   replace hm := ite_f hm (bool_nt h8)
   refine c_skip <| d_then <| c_seq <| c_region <| g_v rfl r_move <| g_v rfl r_move <| g_v rfl r_move <| g_v rfl r_move <| g_v rfl r_move <| g_v rfl (r_build _ rfl (bld40_15 _ _ _ _ _)) ?_
   replace hm := bnd hm
   obtain ⟨x9, hx10, hm⟩ := hm
   refine g_cn ⟨w0, M, (1000, go0, .cells #[.slice Ao0_0 o0.fitems.length co0_0, .slice Ao0_1 o0.fconns.length co0_1, .int .i64 o0.flast, .int .i64 o0.fopens] 61 (0, 0)) :: H, (1000, ⟨.slice Ao0_0 o0.fitems.length co0_0, 40, 6, o0.fitems.length, o0.fitems.flatMap GItem.enc⟩) :: (1001, ⟨.slice Ao0_1 o0.fconns.length co0_1, 63, 3, o0.fconns.length, o0.fconns.flatMap Gnet_conn.enc⟩) :: R, φ⟩ (fun W h => (ok_front (t := 1000) (t' := 1000) (ok_frontR (t := 1000) (t' := 1000) (ok_frontR (t := 1001) (t' := 1001) h rfl) rfl) rfl)) Try.call28 rfl rfl (c_net_Net_add (⟨0, 3, p2, x1, p1, p3⟩ : GItem) go0 o0 Ao0_0 co0_0 hco0_0 Ao0_1 co0_1 hco0_1 _ hx10) (fun ⟨A11, c12⟩ hc12 => ?_)
   refine g_sta _ (fun W h => (ok_frontR (t := 2000) (t' := 1000) (ok_frontR (t := 1001) (t' := 1001) (ok_front (t := 1000) (t' := 1000) h rfl) rfl) rfl)) <| g_nil <| d_then ?_
   refine c_flat [] trivial (fun u => ?_)
   refine c_sta ⟨w0, M, (1000, go0, .cells #[.slice A11 x9.fitems.length c12, .slice Ao0_1 o0.fconns.length co0_1, .int .i64 x9.flast, .int .i64 o0.fopens] 61 (0, 0)) :: H, (1000, ⟨.slice A11 x9.fitems.length c12, 40, 6, x9.fitems.length, x9.fitems.flatMap GItem.enc⟩) :: (1001, ⟨.slice Ao0_1 o0.fconns.length co0_1, 63, 3, o0.fconns.length, o0.fconns.flatMap Gnet_conn.enc⟩) :: R, φ⟩ (fun _ h => h) <| c_seq <| c_region <| g_v rfl r_assign <| g_nil <| d_then <| c_ret ?_
   replace hm := Option.some.inj hm
   subst hm
   refine d_sta _ (fun W h => ok_frontR (t := 1000) (t' := 2000) h rfl) ?_
   refine d_retC (A11, c12) Try.results13 ?_ hc12 (fun W h => h.phi (fun W hφ => hφ)) (.inr rfl)
   refine res_tmp <| res_nil ?_
   exact rfl
 ·
  have h5' : x2 = false := by revert h5; cases x2 <;> simp
  replace hm := ite_f hm (bool_nt h5')
  refine g_no rfl rfl rfl rfl rfl h5 <| g_v rfl (r_pick1 rfl h5) <| g_nil <| d_then <| c_cond1 rfl rfl <| c_seq <| c_region <| g_v rfl r_assign <| g_nil <| d_then ?_
  refine c_ret <| d_ret_then ?_
  replace hm := Option.some.inj hm
  subst hm
  refine d_sta _ (fun W h => ok_frontR (t := 1000) (t' := 2000) h rfl) ?_
  refine d_retC (Ao0_0, co0_0) Try.results13 ?_ hco0_0 (fun W h => h.phi (fun W hφ => hφ)) (.inr rfl)
  refine res_tmp <| res_nil ?_
  exact rfl
noncomputable def m_net_Net_Ready_j1  (l97 : List GItem) : Option (List GItem) :=
  some l97
noncomputable def m_net_Net_Ready_s2 (x1 : List Int) (o0 : Gnet_Net) (l117 : List GItem) (i120 : Int) : Option (((List GItem) × Int) ⊕ (List GItem)) :=
  if i120 < (x1.length : Int) then
    (at_ x1 i120).bind fun x140 =>
    (at_ o0.fitems x140).bind fun x144 =>
    (app 56 l117 [x144]).bind fun l149 =>
    some (.inl (l149, w64 (i120 + 1)))
  else
    some (.inr l117)
noncomputable def m_net_Net_Ready (o0 : Gnet_Net) : Option (List GItem) :=
  (m_net_Net_ready o0).bind fun x1 =>
  (loop (fun s => m_net_Net_Ready_s2 x1 o0 s.1 s.2) (([] : List GItem), 0)).bind fun e => m_net_Net_Ready_j1 e
theorem c_net_Net_Ready {w0 : World} {M : Nat → Prop} {H : List (Nat × Nat × Obj)} {R : List (Nat × Row)} {φ : World → Prop} (go0 : Nat) (o0 : Gnet_Net) (Ao0_0 : Option Addr) (co0_0 : Nat) (hco0_0 : o0.fitems.length ≤ co0_0) (Ao0_1 : Option Addr) (co0_1 : Nat) (hco0_1 : o0.fconns.length ≤ co0_1) (r : (List GItem)) (hm : m_net_Net_Ready o0 = some r) :
    Cn Try.prog 25 #[.pointer (some ⟨go0, 0, none⟩)] ⟨w0, M, (1000, go0, .cells #[.slice Ao0_0 o0.fitems.length co0_0, .slice Ao0_1 o0.fconns.length co0_1, .int .i64 o0.flast, .int .i64 o0.fopens] 61 (0, 0)) :: H, (1000, ⟨.slice Ao0_0 o0.fitems.length co0_0, 40, 6, o0.fitems.length, o0.fitems.flatMap GItem.enc⟩) :: (1001, ⟨.slice Ao0_1 o0.fconns.length co0_1, 63, 3, o0.fconns.length, o0.fconns.flatMap Gnet_conn.enc⟩) :: R, φ⟩ (fun x : Option Addr × Nat => .slice x.1 r.length x.2) (fun x => r.length ≤ x.2) (fun x => ⟨w0, M, (1000, go0, .cells #[.slice Ao0_0 o0.fitems.length co0_0, .slice Ao0_1 o0.fconns.length co0_1, .int .i64 o0.flast, .int .i64 o0.fopens] 61 (0, 0)) :: H, (2000, ⟨.slice x.1 r.length x.2, 40, 6, r.length, r.flatMap GItem.enc⟩) :: (1000, ⟨.slice Ao0_0 o0.fitems.length co0_0, 40, 6, o0.fitems.length, o0.fitems.flatMap GItem.enc⟩) :: (1001, ⟨.slice Ao0_1 o0.fconns.length co0_1, 63, 3, o0.fconns.length, o0.fconns.flatMap Gnet_conn.enc⟩) :: R, φ⟩) := by
 unfold m_net_Net_Ready at hm
 refine cn_intro (fn := Try.f25) (N := 27) Try.func25 rfl Try.ntmps25 rfl <| c_seq <| c_region <| g_v rfl r_assign <| g_nil <| d_then <| c_seq <| c_seq <| c_region <| g_v rfl r_move ?_
 refine g_v rfl (r_eqlP1 Try.underlying24 rfl rfl) <| g_nil <| d_then <| c_cond0 rfl rfl <| c_skip <| d_then <| c_seq <| c_region <| g_v rfl r_assign <| g_nil ?_
 refine d_then <| c_seq <| c_seq <| c_region <| g_v rfl r_move ?_
 replace hm := bnd hm
 obtain ⟨x1, hx2, hm⟩ := hm
 refine g_cn ⟨w0, M, (1000, go0, .cells #[.slice Ao0_0 o0.fitems.length co0_0, .slice Ao0_1 o0.fconns.length co0_1, .int .i64 o0.flast, .int .i64 o0.fopens] 61 (0, 0)) :: H, (1000, ⟨.slice Ao0_0 o0.fitems.length co0_0, 40, 6, o0.fitems.length, o0.fitems.flatMap GItem.enc⟩) :: (1001, ⟨.slice Ao0_1 o0.fconns.length co0_1, 63, 3, o0.fconns.length, o0.fconns.flatMap Gnet_conn.enc⟩) :: R, φ⟩ (fun W h => (ok_front (t := 1000) (t' := 1000) (ok_frontR (t := 1000) (t' := 1000) (ok_frontR (t := 1001) (t' := 1001) h rfl) rfl) rfl)) Try.call36 rfl rfl (c_net_Net_ready go0 o0 Ao0_0 co0_0 hco0_0 Ao0_1 co0_1 hco0_1 _ hx2) (fun ⟨A3, c4⟩ hc4 => ?_)
 refine g_sta _ (fun W h => (ok_frontR (t := 2000) (t' := 100090) (ok_frontR (t := 1000) (t' := 1000) (ok_frontR (t := 1001) (t' := 1001) (ok_front (t := 1000) (t' := 1000) h rfl) rfl) rfl) rfl)) <| g_v rfl (r_lenL Try.underlying78 rfl) <| g_v rfl r_move <| g_nil <| d_then <| c_sta _ (fun W h => nilR h 13 40 6) ?_
 refine c_cut (ι := (List GItem) × Option Addr × Nat) [3] (fun ⟨l97, A98, c99⟩ => [(3, .slice A98 l97.length c99)]) (fun ⟨l97, A98, c99⟩ => ⟨w0, M, (1000, go0, .cells #[.slice Ao0_0 o0.fitems.length co0_0, .slice Ao0_1 o0.fconns.length co0_1, .int .i64 o0.flast, .int .i64 o0.fopens] 61 (0, 0)) :: H, (13, ⟨.slice A98 l97.length c99, 40, 6, l97.length, l97.flatMap GItem.enc⟩) :: (1000, ⟨.slice Ao0_0 o0.fitems.length co0_0, 40, 6, o0.fitems.length, o0.fitems.flatMap GItem.enc⟩) :: (1001, ⟨.slice Ao0_1 o0.fconns.length co0_1, 63, 3, o0.fconns.length, o0.fconns.flatMap Gnet_conn.enc⟩) :: R, φ⟩) (fun ⟨l97, A98, c99⟩ => m_net_Net_Ready_j1 l97 = some r ∧ l97.length ≤ c99) ?_ (fun ⟨l97, A98, c99⟩ u ⟨hm, hc99⟩ => ?_)
 ·
  refine c_block ?_
  replace hm := bnd hm
  obtain ⟨out2, hl2, hr2⟩ := hm
  obtain ⟨n138', hl2⟩ := loop_lp hl2
  refine c_loopU (ι := Nat × (List GItem) × Int × Option Addr × Nat) [0, 3, 9, 10, 11] (fun ⟨n138, l117, i120, A118, c119⟩ => [(3, .slice A118 l117.length c119), (11, .int .i64 i120)]) (fun ⟨n138, l117, i120, A118, c119⟩ => ⟨w0, M, (1000, go0, .cells #[.slice Ao0_0 o0.fitems.length co0_0, .slice Ao0_1 o0.fconns.length co0_1, .int .i64 o0.flast, .int .i64 o0.fopens] 61 (0, 0)) :: H, (13, ⟨.slice A118 l117.length c119, 40, 6, l117.length, l117.flatMap GItem.enc⟩) :: (100090, ⟨.slice A3 x1.length c4, 3, 1, x1.length, x1.flatMap (fun x : Int => [Value.int .i64 x])⟩) :: (1000, ⟨.slice Ao0_0 o0.fitems.length co0_0, 40, 6, o0.fitems.length, o0.fitems.flatMap GItem.enc⟩) :: (1001, ⟨.slice Ao0_1 o0.fconns.length co0_1, 63, 3, o0.fconns.length, o0.fconns.flatMap Gnet_conn.enc⟩) :: R, φ⟩) (fun ⟨n138, l117, i120, A118, c119⟩ => Lp (fun s => m_net_Net_Ready_s2 x1 o0 s.1 s.2) n138 (l117, i120) out2 ∧ l117.length ≤ c119) (fun ⟨n138, l117, i120, A118, c119⟩ => n138) (n138', ([] : List GItem), 0, none, 0) ⟨hl2, (Nat.le_refl 0)⟩ ⟨rfl, rfl, rfl, rfl, rfl, trivial⟩ (fun W h => h.phi (fun W hφ => hφ)) (fun ⟨n138, l117, i120, A118, c119⟩ u ⟨hlp, hc119⟩ => ?_)
  obtain ⟨o2, hm, hnx2⟩ := lp_step hlp
  clear hlp
  replace hm : m_net_Net_Ready_s2 x1 o0 l117 i120 = some o2 := hm
  unfold m_net_Net_Ready_s2 at hm
  refine c_flat [(0, .pointer (some ⟨go0, 0, none⟩)), (3, .slice A118 l117.length c119), (9, .slice A3 x1.length c4), (10, .int .i64 (x1.length : Int)), (11, .int .i64 i120)] ⟨rfl, rfl, rfl, rfl, rfl, trivial⟩ (fun u => ?_)
  refine c_sta ⟨w0, M, (1000, go0, .cells #[.slice Ao0_0 o0.fitems.length co0_0, .slice Ao0_1 o0.fconns.length co0_1, .int .i64 o0.flast, .int .i64 o0.fopens] 61 (0, 0)) :: H, (13, ⟨.slice A118 l117.length c119, 40, 6, l117.length, l117.flatMap GItem.enc⟩) :: (100090, ⟨.slice A3 x1.length c4, 3, 1, x1.length, x1.flatMap (fun x : Int => [Value.int .i64 x])⟩) :: (1000, ⟨.slice Ao0_0 o0.fitems.length co0_0, 40, 6, o0.fitems.length, o0.fitems.flatMap GItem.enc⟩) :: (1001, ⟨.slice Ao0_1 o0.fconns.length co0_1, 63, 3, o0.fconns.length, o0.fconns.flatMap Gnet_conn.enc⟩) :: R, φ⟩ (fun _ h => h) <| c_seq <| c_region <| g_v rfl (r_lss rfl rfl) <| g_nil <| d_then <| c_seq ?_
  refine c_cond rfl (fun h139 => ?_) (fun h139 => ?_)
  ·
   replace hm := ite_t hm (of_decide_eq_true h139)
   refine c_skip <| d_then <| c_seq <| c_block <| c_seq <| c_region ?_
   replace hm := bnd hm
   obtain ⟨x140, hx140, hm⟩ := hm
   refine g_know _ (fun W hS => cl_at (p := (Sta.ok ⟨w0, M, (1000, go0, .cells #[.slice Ao0_0 o0.fitems.length co0_0, .slice Ao0_1 o0.fconns.length co0_1, .int .i64 o0.flast, .int .i64 o0.fopens] 61 (0, 0)) :: H, (13, ⟨.slice A118 l117.length c119, 40, 6, l117.length, l117.flatMap GItem.enc⟩) :: (100090, ⟨.slice A3 x1.length c4, 3, 1, x1.length, x1.flatMap (fun x : Int => [Value.int .i64 x])⟩) :: (1000, ⟨.slice Ao0_0 o0.fitems.length co0_0, 40, 6, o0.fitems.length, o0.fitems.flatMap GItem.enc⟩) :: (1001, ⟨.slice Ao0_1 o0.fconns.length co0_1, 63, 3, o0.fconns.length, o0.fconns.flatMap Gnet_conn.enc⟩) :: R, φ⟩)) (sz := 1) (fun _ => rfl) (by decide) hS (fun W hS => rowCl (S := ⟨w0, M, (1000, go0, .cells #[.slice Ao0_0 o0.fitems.length co0_0, .slice Ao0_1 o0.fconns.length co0_1, .int .i64 o0.flast, .int .i64 o0.fopens] 61 (0, 0)) :: H, (13, ⟨.slice A118 l117.length c119, 40, 6, l117.length, l117.flatMap GItem.enc⟩) :: (100090, ⟨.slice A3 x1.length c4, 3, 1, x1.length, x1.flatMap (fun x : Int => [Value.int .i64 x])⟩) :: (1000, ⟨.slice Ao0_0 o0.fitems.length co0_0, 40, 6, o0.fitems.length, o0.fitems.flatMap GItem.enc⟩) :: (1001, ⟨.slice Ao0_1 o0.fconns.length co0_1, 63, 3, o0.fconns.length, o0.fconns.flatMap Gnet_conn.enc⟩) :: R, φ⟩) (tag := 100090) rfl W hS) hx140) ?_
   rintro ⟨ad141, hA143, f142⟩
   refine g_v rfl (r_ix Try.underlying78 Try.sizeOf3 rfl hA143 rfl hx140) <| g_v rfl (r_ld rfl Try.isAgg3 (fun W hS => Cl.head (f142 W hS))) <| g_v rfl r_assign <| g_nil <| d_then <| c_region <| g_v rfl r_move <| g_v rfl r_move <| g_v rfl (r_nilck rfl) <| g_v rfl (r_field (n := 0) Try.underlying61 rfl Try.sizeOf52 rfl rfl) ?_
   refine g_v rfl (r_load (tag := 1000) rfl rfl rfl Try.isAgg52) <| g_v rfl r_move ?_
   replace hm := bnd hm
   obtain ⟨x144, hx144, hm⟩ := hm
   refine g_know _ (fun W hS => cl_at (p := (Sta.ok ⟨w0, M, (1000, go0, .cells #[.slice Ao0_0 o0.fitems.length co0_0, .slice Ao0_1 o0.fconns.length co0_1, .int .i64 o0.flast, .int .i64 o0.fopens] 61 (0, 0)) :: H, (13, ⟨.slice A118 l117.length c119, 40, 6, l117.length, l117.flatMap GItem.enc⟩) :: (100090, ⟨.slice A3 x1.length c4, 3, 1, x1.length, x1.flatMap (fun x : Int => [Value.int .i64 x])⟩) :: (1000, ⟨.slice Ao0_0 o0.fitems.length co0_0, 40, 6, o0.fitems.length, o0.fitems.flatMap GItem.enc⟩) :: (1001, ⟨.slice Ao0_1 o0.fconns.length co0_1, 63, 3, o0.fconns.length, o0.fconns.flatMap Gnet_conn.enc⟩) :: R, φ⟩)) (sz := 6) (fun _ => rfl) (by decide) hS (fun W hS => rowCl (S := ⟨w0, M, (1000, go0, .cells #[.slice Ao0_0 o0.fitems.length co0_0, .slice Ao0_1 o0.fconns.length co0_1, .int .i64 o0.flast, .int .i64 o0.fopens] 61 (0, 0)) :: H, (13, ⟨.slice A118 l117.length c119, 40, 6, l117.length, l117.flatMap GItem.enc⟩) :: (100090, ⟨.slice A3 x1.length c4, 3, 1, x1.length, x1.flatMap (fun x : Int => [Value.int .i64 x])⟩) :: (1000, ⟨.slice Ao0_0 o0.fitems.length co0_0, 40, 6, o0.fitems.length, o0.fitems.flatMap GItem.enc⟩) :: (1001, ⟨.slice Ao0_1 o0.fconns.length co0_1, 63, 3, o0.fconns.length, o0.fconns.flatMap Gnet_conn.enc⟩) :: R, φ⟩) (tag := 1000) rfl W hS) hx144) ?_
   rintro ⟨ad145, hA147, f146⟩
   refine g_v rfl (r_ix Try.underlying52 Try.sizeOf40 rfl hA147 rfl hx144) <| g_v rfl (r_ldA rfl Try.isAgg40 Try.sizeOf40 (fun W hS => (f146 W hS).take 6) rfl) ?_
   refine g_e rfl (e_lit (tag := 100230) (l := [x144]) (enc := GItem.enc) (sz := 6) rfl Try.underlying52 (lit40_2 _ _ _ _ _ _) rfl rfl (fun _ => rfl)) (fun g148 _ => ?_)
   replace hm := bnd hm
   obtain ⟨l149, hl149, hm⟩ := hm
   refine g_e rfl (e_appR (enc := GItem.enc) (l := l117) (l1 := [x144]) (l2 := l149) (tag := 13) Try.underlying52 inf40_3 rfl (by decide) (by decide) (fun _ => rfl) (fun _ => rfl) rfl hc119 rfl rfl (fun W hS => rowCl (tag := 100230) rfl W hS) hl149) (fun ⟨A150, c151⟩ hc151 => ?_)
   refine g_v rfl r_assign <| g_nil <| d_normal_block <| d_then ?_
   refine c_flat [(0, .pointer (some ⟨go0, 0, none⟩)), (3, .slice A150 l149.length c151), (9, .slice A3 x1.length c4), (10, .int .i64 (x1.length : Int)), (11, .int .i64 i120)] ⟨rfl, rfl, rfl, rfl, rfl, trivial⟩ (fun u => ?_)
   refine c_sta ⟨w0, M, (1000, go0, .cells #[.slice Ao0_0 o0.fitems.length co0_0, .slice Ao0_1 o0.fconns.length co0_1, .int .i64 o0.flast, .int .i64 o0.fopens] 61 (0, 0)) :: H, (100230, ⟨.slice (some ⟨g148, 0, none⟩) [x144].length 1, 40, 6, [x144].length, [x144].flatMap GItem.enc⟩) :: (13, ⟨.slice A150 l149.length c151, 40, 6, l149.length, l149.flatMap GItem.enc⟩) :: (100090, ⟨.slice A3 x1.length c4, 3, 1, x1.length, x1.flatMap (fun x : Int => [Value.int .i64 x])⟩) :: (1000, ⟨.slice Ao0_0 o0.fitems.length co0_0, 40, 6, o0.fitems.length, o0.fitems.flatMap GItem.enc⟩) :: (1001, ⟨.slice Ao0_1 o0.fconns.length co0_1, 63, 3, o0.fconns.length, o0.fconns.flatMap Gnet_conn.enc⟩) :: R, φ⟩ (fun _ h => h) <| c_region <| g_v rfl (r_add rfl rfl rfl) <| g_v rfl r_move <| g_nil ?_
   obtain ⟨n152, hn152, hlp⟩ := nx_inl hm hnx2
   exact d_round (n152, l149, w64 (i120 + 1), A150, c151) ⟨hlp, hc151⟩ hn152 ⟨rfl, rfl, rfl, rfl, rfl, trivial⟩ (fun W h => (h.dropR (t := 100230) rfl).phi (fun W hφ => hφ))
  ·
   replace hm := ite_f hm (of_decide_eq_false h139)
   refine c_exit <| d_exit_then <| d_exit_then <| d_exit_block ?_
   replace hm := nx_out (C := (fun e : (List GItem) => m_net_Net_Ready_j1 e = some r)) hm hnx2 hr2
   exact d_round (l117, A118, c119) ⟨hm, hc119⟩ Nat.zero_lt_one ⟨rfl, trivial⟩ (fun W h => (h.dropR (t := 100090) rfl).phi (fun W hφ => hφ))
 ·
  unfold m_net_Net_Ready_j1 at hm
  refine d_flat [(3, .slice A98 l97.length c99)] ⟨rfl, trivial⟩ (fun u => ?_)
  refine d_sta ⟨w0, M, (1000, go0, .cells #[.slice Ao0_0 o0.fitems.length co0_0, .slice Ao0_1 o0.fconns.length co0_1, .int .i64 o0.flast, .int .i64 o0.fopens] 61 (0, 0)) :: H, (13, ⟨.slice A98 l97.length c99, 40, 6, l97.length, l97.flatMap GItem.enc⟩) :: (1000, ⟨.slice Ao0_0 o0.fitems.length co0_0, 40, 6, o0.fitems.length, o0.fitems.flatMap GItem.enc⟩) :: (1001, ⟨.slice Ao0_1 o0.fconns.length co0_1, 63, 3, o0.fconns.length, o0.fconns.flatMap Gnet_conn.enc⟩) :: R, φ⟩ (fun _ h => h) <| d_then <| c_seq <| c_region <| g_v rfl r_move <| g_v rfl r_assign <| g_nil <| d_then <| c_ret ?_
  replace hm := Option.some.inj hm
  subst hm
  refine d_sta _ (fun W h => ok_frontR (t := 13) (t' := 2000) h rfl) ?_
  refine d_retC (A98, c99) Try.results25 ?_ hc99 (fun W h => h.phi (fun W hφ => hφ)) (.inr rfl)
  refine res_tmp <| res_nil ?_
  exact rfl
noncomputable def m_slices_Delete_30 (p0 : List Gnet_conn) (p1 : Int) (p2 : Int) : Option (List Gnet_conn) :=
  (cutMid p0 p1 p2).bind fun l1 =>
  if p1 = p2 then
    some p0
  else
    (cutHi p0 p1).bind fun l7 =>
    (cutLo p0 p2).bind fun l8 =>
    some (l7 ++ l8)
theorem c_slices_Delete_30 {w0 : World} {M : Nat → Prop} {H : List (Nat × Nat × Obj)} {R : List (Nat × Row)} {φ : World → Prop} (p0 : List Gnet_conn) (Ap0_0 : Option Addr) (cp0_0 : Nat) (hcp0_0 : p0.length ≤ cp0_0) (p1 : Int) (p2 : Int) (r : (List Gnet_conn)) (hm : m_slices_Delete_30 p0 p1 p2 = some r) :
    Cn Try.prog 30 #[.slice Ap0_0 p0.length cp0_0, .int .i64 p1, .int .i64 p2] ⟨w0, M, H, (1000, ⟨.slice Ap0_0 p0.length cp0_0, 63, 3, p0.length, p0.flatMap Gnet_conn.enc⟩) :: R, φ⟩ (fun x : Option Addr × Nat => .slice x.1 r.length x.2) (fun x => r.length ≤ x.2) (fun x => ⟨w0, M, H, (2000, ⟨.slice x.1 r.length x.2, 63, 3, r.length, r.flatMap Gnet_conn.enc⟩) :: R, φ⟩) := by
 unfold m_slices_Delete_30 at hm
 refine cn_intro (fn := Try.f30) (N := 33) Try.func30 rfl Try.ntmps30 rfl <| c_seq <| c_region <| g_v rfl r_assign <| g_nil <| d_then <| c_seq <| c_region <| g_v rfl r_move <| g_v rfl r_move ?_
 refine g_v rfl r_move <| g_v rfl r_move <| g_v rfl (r_lenL Try.underlying59 rfl) ?_
 replace hm := bnd hm
 obtain ⟨l1, hl1, hm⟩ := hm
 refine g_v rfl (r_lcutMidF Try.underlying59 Try.sizeOf63 rfl hcp0_0 rfl rfl rfl rfl hl1) <| g_nil <| d_then <| c_seq <| c_seq <| c_region <| g_v rfl r_move <| g_v rfl r_move <| g_v rfl (r_eql rfl rfl) <| g_nil ?_
 refine d_then ?_
 refine c_flat [(0, .slice Ap0_0 p0.length cp0_0), (1, .int .i64 p1), (2, .int .i64 p2), (16, .bool (decide (p1 = p2)))] ⟨rfl, rfl, rfl, rfl, trivial⟩ (fun u => ?_)
 refine c_sta ⟨w0, M, H, (1000, ⟨.slice Ap0_0 p0.length cp0_0, 63, 3, p0.length, p0.flatMap Gnet_conn.enc⟩) :: R, φ⟩ (fun _ h => h) ?_
 refine c_cond rfl (fun h2 => ?_) (fun h2 => ?_)
 ·
  replace hm := ite_t hm (of_decide_eq_true h2)
  refine c_seq <| c_region <| g_v rfl r_move <| g_v rfl r_assign <| g_nil <| d_then <| c_ret <| d_ret_then ?_
  replace hm := Option.some.inj hm
  subst hm
  refine d_sta _ (fun W h => ok_frontR (t := 1000) (t' := 2000) h rfl) ?_
  refine d_retC (Ap0_0, cp0_0) Try.results30 ?_ hcp0_0 (fun W h => h.phi (fun W hφ => hφ)) (.inr rfl)
  refine res_tmp <| res_nil ?_
  exact rfl
 ·
  replace hm := ite_f hm (of_decide_eq_false h2)
  refine c_skip <| d_then <| c_seq <| c_region <| g_v rfl r_move <| g_v rfl (r_lenL Try.underlying59 rfl) <| g_v rfl r_assign <| g_nil <| d_then <| c_seq ?_
  refine ga_start (n := 8) ⟨w0, M, H, R, φ⟩ [] #[false, false, false, false, false, false, false, false] (fun W h => (h.dropR (t := 1000) rfl).phi (fun W hφ => hφ)) mixed rfl rfl <| ga_v (i := 0) (bz 8 1) rfl (by kernel_rfl) (fun _ _ _ _ h => h) rfl (r_move) <| ga_v (i := 1) (bz 8 3) rfl (by kernel_rfl) (fun _ _ _ _ h => h) rfl (r_move) ?_
  replace hm := bnd hm
  obtain ⟨l7, hl7, hm⟩ := hm
  refine ga_v (i := 2) (bz 8 7) rfl (by kernel_rfl) (fun _ _ _ _ h => h) rfl (r_lcutHi Try.underlying59 Try.sizeOf63 rfl hcp0_0 rfl hl7) <| ga_v (i := 3) (bz 8 15) rfl (by kernel_rfl) (fun _ _ _ _ h => h) rfl (r_move) <| ga_r (i := 4) (bz 8 31) rfl (by kernel_rfl) (by decide) rfl (r_move) ?_
  replace hm := bnd hm
  obtain ⟨l8, hl8, hm⟩ := hm
  refine ga_r (i := 5) (bz 8 63) rfl (by kernel_rfl) (by decide) rfl (r_lcutLo Try.underlying59 Try.sizeOf63 rfl hcp0_0 rfl hl8) ?_
  refine ga_e (i := 6) (bz 8 127) rfl (by kernel_rfl) (by decide) rfl  (e_appSelf (tag := 1000) (enc := Gnet_conn.enc) Try.underlying59 inf63_13 (by decide) (fun _ => rfl) (fun _ => rfl) rfl hl7 rfl hl8 (cutMid_le hl1) hcp0_0 rfl) (fun _ W _ h => (h.dropR (t := 1000) rfl).phi (fun W hφ => hφ)) (fun _ _ => ?_)
  refine ga_r (i := 7) (bz 8 255) rfl (by kernel_rfl) (by decide) rfl (r_assign) <| ga_done (by kernel_rfl) <| d_then ?_
  refine c_flat [(0, .slice Ap0_0 (l7 ++ l8).length cp0_0), (7, .int .i64 (p0.length : Int))] ⟨rfl, rfl, trivial⟩ (fun u => ?_)
  refine c_sta ⟨w0, M, H, (1000, ⟨.slice Ap0_0 (l7 ++ l8).length cp0_0, 63, 3, (l7 ++ l8).length, (l7 ++ l8).flatMap Gnet_conn.enc⟩) :: R, φ⟩ (fun _ h => h) <| c_seq <| c_region <| g_v rfl r_move <| g_v rfl r_move <| g_v rfl (r_lenL Try.underlying59 rfl) <| g_v rfl r_move <| g_v rfl (r_lcutUp (n := p0.length) Try.underlying59 Try.sizeOf63 rfl rfl rfl (self_len hl7 hl8 (cutMid_le hl1)) hcp0_0) <| g_e0 (e_clearT (tag := 1000) (enc := Gnet_conn.enc) (l := (l7 ++ l8)) Try.underlying59 Try.zeroValue63 rfl rfl rfl (Nat.le_trans (Nat.le_of_eq (Nat.add_sub_cancel' (self_len hl7 hl8 (cutMid_le hl1)))) hcp0_0) rfl) <| g_nil ?_
  refine d_then <| c_seq <| c_region <| g_v rfl r_move <| g_v rfl r_assign <| g_nil <| d_then <| c_ret ?_
  replace hm := Option.some.inj hm
  subst hm
  refine d_sta _ (fun W h => ok_frontR (t := 1000) (t' := 2000) h rfl) ?_
  refine d_retC (Ap0_0, cp0_0) Try.results30 ?_ (Nat.le_trans (self_len hl7 hl8 (cutMid_le hl1)) hcp0_0) (fun W h => h.phi (fun W hφ => hφ)) (.inr rfl)
  refine res_tmp <| res_nil ?_
  exact rfl
noncomputable def m_net_Net_Close_c1 (p0 : GItem) (o0 : Int) : Option Bool :=
  some (decide (p0.fConn = o0))
theorem c_net_Net_Close_c1 {w0 : World} {M : Nat → Prop} {H : List (Nat × Nat × Obj)} {R : List (Nat × Row)} {φ : World → Prop} (p0 : GItem) (go0 : Nat) (o0 : Int) (r : Bool) (hm : m_net_Net_Close_c1 p0 o0 = some r) :
    Cn Try.prog 32 #[.agg #[.int .i64 p0.fNumber, .int .i64 p0.fKind, .int .i64 p0.fFrom, .int .i64 p0.fTo, .int .i64 p0.fConn, .string p0.fBody], .pointer (some ⟨go0, 0, none⟩)] ⟨w0, M, (1000, go0, .cells #[.int .i64 o0] 3 (0, 0)) :: H, R, φ⟩ (fun x : Unit => .bool r) (fun x => True) (fun x => ⟨w0, M, (1000, go0, .cells #[.int .i64 o0] 3 (0, 0)) :: H, R, φ⟩) := by
 unfold m_net_Net_Close_c1 at hm
 refine cn_intro (fn := Try.f32) (N := 8) Try.func32 rfl Try.ntmps32 rfl <| c_seq <| c_region ?_
 refine g_e rfl (e_box 100020 rfl) (fun g1 _ => ?_)
 refine g_v rfl r_assign <| g_nil <| d_then <| c_seq <| c_region <| g_v rfl (r_field (n := 4) Try.underlying40 rfl Try.sizeOf3 rfl rfl) <| g_v rfl (r_load (tag := 100020) rfl rfl rfl Try.isAgg3) <| g_v rfl (r_load (tag := 1000) rfl rfl rfl Try.isAgg3) <| g_v rfl (r_eql rfl rfl) <| g_v rfl r_assign ?_
 refine g_nil <| d_then <| c_ret ?_
 replace hm := Option.some.inj hm
 subst hm
 refine d_retC () Try.results32 ?_ trivial (fun W h => (h.dropH (t := 100020) rfl).phi (fun W hφ => hφ)) (.inr rfl)
 refine res_tmp <| res_nil ?_
 exact rfl
noncomputable def m_slices_IndexFunc_54_j1  : Option Int :=
  some (-1)
noncomputable def m_slices_IndexFunc_54_s2 (p0 : List GItem) (o0 : Int) (i30 : Int) : Option (Int ⊕ (Unit ⊕ Int)) :=
  if i30 < (p0.length : Int) then
    (at_ p0 i30).bind fun x42 =>
    (m_net_Net_Close_c1 x42 o0).bind fun x46 =>
    if x46 = true then
      some (.inr (.inr i30))
    else
      some (.inl (w64 (i30 + 1)))
  else
    some (.inr (.inl ()))
noncomputable def m_slices_IndexFunc_54 (p0 : List GItem) (o0 : Int) : Option Int :=
  (loop (fun s => m_slices_IndexFunc_54_s2 p0 o0 s) 0).bind fun e => Sum.elim (fun e => m_slices_IndexFunc_54_j1) (fun x => some x) e
theorem c_slices_IndexFunc_54 {w0 : World} {M : Nat → Prop} {H : List (Nat × Nat × Obj)} {R : List (Nat × Row)} {φ : World → Prop} (p0 : List GItem) (Ap0_0 : Option Addr) (cp0_0 : Nat) (hcp0_0 : p0.length ≤ cp0_0) (fp0_0 : ∀ W, (Sta.mk w0 M H R φ).ok W → Cl W Ap0_0 (p0.flatMap GItem.enc)) (go0 : Nat) (o0 : Int) (r : Int) (hm : m_slices_IndexFunc_54 p0 o0 = some r) :
    Cn Try.prog 54 #[.slice Ap0_0 p0.length cp0_0, .func (.func 32) #[] #[.pointer (some ⟨go0, 0, none⟩)]] ⟨w0, M, (1000, go0, .cells #[.int .i64 o0] 3 (0, 0)) :: H, R, φ⟩ (fun x : Unit => .int .i64 r) (fun x => True) (fun x => ⟨w0, M, (1000, go0, .cells #[.int .i64 o0] 3 (0, 0)) :: H, R, φ⟩) := by
 unfold m_slices_IndexFunc_54 at hm
 refine cn_intro (fn := Try.f54) (N := 19) Try.func54 rfl Try.ntmps54 rfl <| c_seq <| c_region <| g_v rfl r_assign <| g_nil <| d_then <| c_seq <| c_seq <| c_region <| g_v rfl r_move ?_
 refine g_v rfl (r_lenL Try.underlying52 rfl) <| g_v rfl r_move <| g_nil <| d_then ?_
 refine c_cut (ι := Unit) [] (fun _ => []) (fun _ => ⟨w0, M, (1000, go0, .cells #[.int .i64 o0] 3 (0, 0)) :: H, R, φ⟩) (fun _ => m_slices_IndexFunc_54_j1 = some r) ?_ (fun _ u hm => ?_)
 ·
  refine c_block ?_
  replace hm := bnd hm
  obtain ⟨out2, hl2, hr2⟩ := hm
  obtain ⟨n40', hl2⟩ := loop_lp hl2
  refine c_loopU (ι := Nat × Int) [0, 1, 7, 8] (fun ⟨n40, i30⟩ => [(8, .int .i64 i30)]) (fun ⟨n40, i30⟩ => ⟨w0, M, (1000, go0, .cells #[.int .i64 o0] 3 (0, 0)) :: H, R, φ⟩) (fun ⟨n40, i30⟩ => Lp (fun s => m_slices_IndexFunc_54_s2 p0 o0 s) n40 i30 out2) (fun ⟨n40, i30⟩ => n40) (n40', 0) hl2 ⟨rfl, rfl, rfl, rfl, trivial⟩ (fun W h => h.phi (fun W hφ => hφ)) (fun ⟨n40, i30⟩ u hlp => ?_)
  obtain ⟨o2, hm, hnx2⟩ := lp_step hlp
  clear hlp
  replace hm : m_slices_IndexFunc_54_s2 p0 o0 i30 = some o2 := hm
  unfold m_slices_IndexFunc_54_s2 at hm
  refine c_flat [(0, .slice Ap0_0 p0.length cp0_0), (1, .func (.func 32) #[] #[.pointer (some ⟨go0, 0, none⟩)]), (7, .int .i64 (p0.length : Int)), (8, .int .i64 i30)] ⟨rfl, rfl, rfl, rfl, trivial⟩ (fun u => ?_)
  refine c_sta ⟨w0, M, (1000, go0, .cells #[.int .i64 o0] 3 (0, 0)) :: H, R, φ⟩ (fun _ h => h) <| c_seq <| c_region <| g_v rfl (r_lss rfl rfl) <| g_nil <| d_then <| c_seq ?_
  refine c_cond rfl (fun h41 => ?_) (fun h41 => ?_)
  ·
   replace hm := ite_t hm (of_decide_eq_true h41)
   refine c_skip <| d_then <| c_seq <| c_block <| c_seq <| c_region <| g_v rfl r_move <| g_v rfl r_assign <| g_nil <| d_then ?_
   refine c_seq <| c_region <| g_v rfl r_move <| g_v rfl r_move <| g_v rfl r_move ?_
   replace hm := bnd hm
   obtain ⟨x42, hx42, hm⟩ := hm
   refine g_know _ (fun W hS => cl_at (p := (Sta.mk w0 M H R φ).ok) (sz := 6) (fun _ => rfl) (by decide) (ok_pre (H1 := [_]) (R1 := []) hS (fun W h => h)) fp0_0 hx42) ?_
   rintro ⟨ad43, hA45, f44⟩
   refine g_v rfl (r_ix Try.underlying52 Try.sizeOf40 rfl hA45 rfl hx42) <| g_v rfl (r_ldA rfl Try.isAgg40 Try.sizeOf40 (fun W hS => (f44 W (ok_pre (H1 := [_]) (R1 := []) hS (fun W h => h))).take 6) rfl) ?_
   replace hm := bnd hm
   obtain ⟨x46, hx47, hm⟩ := hm
   refine g_cnv ⟨w0, M, (1000, go0, .cells #[.int .i64 o0] 3 (0, 0)) :: H, R, φ⟩ (fun W h => (ok_front (t := 1000) (t' := 1000) h rfl)) Try.call32 rfl rfl rfl (c_net_Net_Close_c1 x42 go0 o0 _ hx47) (fun _ _ => ?_)
   refine g_sta _ (fun W h => (ok_front (t := 1000) (t' := 1000) h rfl)) <| g_nil <| d_then ?_
   refine c_flat [(0, .slice Ap0_0 p0.length cp0_0), (1, .func (.func 32) #[] #[.pointer (some ⟨go0, 0, none⟩)]), (5, .int .i64 i30), (7, .int .i64 (p0.length : Int)), (8, .int .i64 i30), (16, .bool x46)] ⟨rfl, rfl, rfl, rfl, rfl, rfl, trivial⟩ (fun u => ?_)
   refine c_cond rfl (fun h48 => ?_) (fun h48 => ?_)
   ·
    replace hm := ite_t hm h48
    refine c_seq <| c_region <| g_v rfl r_move <| g_v rfl r_assign <| g_nil <| d_then <| c_ret <| d_ret_block <| d_ret_then <| d_ret_then ?_
    refine d_ret_block <| d_ret_then <| d_ret_then ?_
    replace hm := nx_out (C := (fun e : Unit ⊕ Int => Sum.elim (fun e => m_slices_IndexFunc_54_j1) (fun x => some x) e = some r)) hm hnx2 hr2
    replace hm : some i30 = some r := hm
    replace hm := Option.some.inj hm
    subst hm
    refine d_retC () Try.results54 ?_ trivial (fun W h => h.phi (fun W hφ => hφ)) (.inr rfl)
    refine res_tmp <| res_nil ?_
    exact rfl
   ·
    replace hm := ite_f hm (bool_nt h48)
    refine c_skip <| d_normal_block <| d_then <| c_region <| g_v rfl (r_add rfl rfl rfl) <| g_v rfl r_move <| g_nil ?_
    obtain ⟨n49, hn49, hlp⟩ := nx_inl hm hnx2
    exact d_round (n49, w64 (i30 + 1)) hlp hn49 ⟨rfl, rfl, rfl, rfl, trivial⟩ (fun W h => h.phi (fun W hφ => hφ))
  ·
   replace hm := ite_f hm (of_decide_eq_false h41)
   refine c_exit <| d_exit_then <| d_exit_then <| d_exit_block ?_
   replace hm := nx_out (C := (fun e : Unit ⊕ Int => Sum.elim (fun e => m_slices_IndexFunc_54_j1) (fun x => some x) e = some r)) hm hnx2 hr2
   exact d_round () hm Nat.zero_lt_one trivial (fun W h => h.phi (fun W hφ => hφ))
 ·
  unfold m_slices_IndexFunc_54_j1 at hm
  refine d_flat [] trivial (fun u => ?_)
  refine d_sta ⟨w0, M, (1000, go0, .cells #[.int .i64 o0] 3 (0, 0)) :: H, R, φ⟩ (fun _ h => h) <| d_then <| c_seq <| c_region <| g_v rfl r_assign <| g_nil <| d_then <| c_ret ?_
  replace hm := Option.some.inj hm
  subst hm
  refine d_retC () Try.results54 ?_ trivial (fun W h => h.phi (fun W hφ => hφ)) (.inr rfl)
  refine res_tmp <| res_nil ?_
  exact rfl
noncomputable def m_slices_DeleteFunc_31_j1  (l49 : List GItem) (i52 : Int) : Option (List GItem) :=
  (cutLo l49 i52).bind fun l53 =>
  (cutHi l49 i52).bind fun l54 =>
  some l54
noncomputable def m_slices_DeleteFunc_31_s2 (o0 : Int) (l75 : List GItem) (i78 : Int) (i79 : Int) : Option (((List GItem) × Int × Int) ⊕ ((List GItem) × Int)) :=
  if i79 < (l75.length : Int) then
    (at_ l75 i79).bind fun x101 =>
    (m_net_Net_Close_c1 x101 o0).bind fun x106 =>
    if x106 = true then
      some (.inl (l75, i78, w64 (i79 + 1)))
    else
      (at_ l75 i78).bind fun x109 =>
      (setAt l75 i78 x101).bind fun l113 =>
      some (.inl (l113, w64 (i78 + 1), w64 (i79 + 1)))
  else
    some (.inr (l75, i78))
noncomputable def m_slices_DeleteFunc_31 (p0 : List GItem) (o0 : Int) : Option (List GItem) :=
  (m_slices_IndexFunc_54 p0 o0).bind fun x1 =>
  if x1 = (-1) then
    some p0
  else
    (loop (fun s => m_slices_DeleteFunc_31_s2 o0 s.1 s.2.1 s.2.2) (p0, x1, w64 (x1 + 1))).bind fun e => m_slices_DeleteFunc_31_j1 e.1 e.2
theorem c_slices_DeleteFunc_31 {w0 : World} {M : Nat → Prop} {H : List (Nat × Nat × Obj)} {R : List (Nat × Row)} {φ : World → Prop} (p0 : List GItem) (Ap0_0 : Option Addr) (cp0_0 : Nat) (hcp0_0 : p0.length ≤ cp0_0) (go0 : Nat) (o0 : Int) (r : (List GItem)) (hm : m_slices_DeleteFunc_31 p0 o0 = some r) :
    Cn Try.prog 31 #[.slice Ap0_0 p0.length cp0_0, .func (.func 32) #[] #[.pointer (some ⟨go0, 0, none⟩)]] ⟨w0, M, (1000, go0, .cells #[.int .i64 o0] 3 (0, 0)) :: H, (1000, ⟨.slice Ap0_0 p0.length cp0_0, 40, 6, p0.length, p0.flatMap GItem.enc⟩) :: R, φ⟩ (fun x : Option Addr × Nat => .slice x.1 r.length x.2) (fun x => r.length ≤ x.2) (fun x => ⟨w0, M, (1000, go0, .cells #[.int .i64 o0] 3 (0, 0)) :: H, (2000, ⟨.slice x.1 r.length x.2, 40, 6, r.length, r.flatMap GItem.enc⟩) :: R, φ⟩) := by
 unfold m_slices_DeleteFunc_31 at hm
 refine cn_intro (fn := Try.f31) (N := 42) Try.func31 rfl Try.ntmps31 rfl <| c_seq <| c_region <| g_v rfl r_assign <| g_nil <| d_then <| c_seq <| c_region <| g_v rfl r_move <| g_v rfl r_move ?_
 replace hm := bnd hm
 obtain ⟨x1, hx2, hm⟩ := hm
 refine g_cn ⟨w0, M, (1000, go0, .cells #[.int .i64 o0] 3 (0, 0)) :: H, (1000, ⟨.slice Ap0_0 p0.length cp0_0, 40, 6, p0.length, p0.flatMap GItem.enc⟩) :: R, φ⟩ (fun W h => (ok_front (t := 1000) (t' := 1000) h rfl)) Try.call54 rfl rfl (c_slices_IndexFunc_54 p0 Ap0_0 cp0_0 hcp0_0 (fun W hS => rowCl (tag := 1000) rfl W hS) go0 o0 _ hx2) (fun _ _ => ?_)
 refine g_sta _ (fun W h => (ok_front (t := 1000) (t' := 1000) h rfl)) <| g_v rfl r_assign <| g_nil <| d_then <| c_seq <| c_seq <| c_region <| g_v rfl r_move <| g_v rfl (r_eql rfl rfl) <| g_nil ?_
 refine d_then ?_
 refine c_cond rfl (fun h3 => ?_) (fun h3 => ?_)
 ·
  replace hm := ite_t hm (of_decide_eq_true h3)
  refine c_seq <| c_region <| g_v rfl r_move <| g_v rfl r_assign <| g_nil <| d_then ?_
  refine c_flat [(4, .slice Ap0_0 p0.length cp0_0)] ⟨rfl, trivial⟩ (fun u => ?_)
  refine c_sta ⟨w0, M, (1000, go0, .cells #[.int .i64 o0] 3 (0, 0)) :: H, (1000, ⟨.slice Ap0_0 p0.length cp0_0, 40, 6, p0.length, p0.flatMap GItem.enc⟩) :: R, φ⟩ (fun _ h => h) <| c_ret <| d_ret_then ?_
  replace hm := Option.some.inj hm
  subst hm
  refine d_sta _ (fun W h => ok_frontR (t := 1000) (t' := 2000) h rfl) ?_
  refine d_retC (Ap0_0, cp0_0) Try.results31 ?_ hcp0_0 (fun W h => h.phi (fun W hφ => hφ)) (.inr rfl)
  refine res_tmp <| res_nil ?_
  exact rfl
 ·
  replace hm := ite_f hm (of_decide_eq_false h3)
  refine c_skip <| d_then <| c_seq <| c_seq <| c_region <| g_v rfl r_move <| g_v rfl (r_add rfl rfl rfl) <| g_v rfl r_assign <| g_nil <| d_then ?_
  refine c_flat [(0, .slice Ap0_0 p0.length cp0_0), (1, .func (.func 32) #[] #[.pointer (some ⟨go0, 0, none⟩)]), (5, .int .i64 x1), (6, .int .i64 (w64 (x1 + 1)))] ⟨rfl, rfl, rfl, rfl, trivial⟩ (fun u => ?_)
  refine c_sta ⟨w0, M, (1000, go0, .cells #[.int .i64 o0] 3 (0, 0)) :: H, (1000, ⟨.slice Ap0_0 p0.length cp0_0, 40, 6, p0.length, p0.flatMap GItem.enc⟩) :: R, φ⟩ (fun _ h => h) ?_
  refine c_cut (ι := (List GItem) × Int) [0, 5] (fun ⟨l49, i52⟩ => [(0, .slice Ap0_0 l49.length cp0_0), (5, .int .i64 i52)]) (fun ⟨l49, i52⟩ => ⟨w0, M, (1000, go0, .cells #[.int .i64 o0] 3 (0, 0)) :: H, (1000, ⟨.slice Ap0_0 l49.length cp0_0, 40, 6, l49.length, l49.flatMap GItem.enc⟩) :: R, φ⟩) (fun ⟨l49, i52⟩ => m_slices_DeleteFunc_31_j1 l49 i52 = some r ∧ (l49.length ≤ cp0_0 ∧ l49.length = p0.length)) ?_ (fun ⟨l49, i52⟩ u ⟨hm, hl49⟩ => ?_)
  ·
   refine c_block ?_
   replace hm := bnd hm
   obtain ⟨out2, hl2, hr2⟩ := hm
   obtain ⟨n99', hl2⟩ := loop_lp hl2
   refine c_loopU (ι := Nat × (List GItem) × Int × Int) [0, 1, 5, 6] (fun ⟨n99, l75, i78, i79⟩ => [(0, .slice Ap0_0 l75.length cp0_0), (5, .int .i64 i78), (6, .int .i64 i79)]) (fun ⟨n99, l75, i78, i79⟩ => ⟨w0, M, (1000, go0, .cells #[.int .i64 o0] 3 (0, 0)) :: H, (1000, ⟨.slice Ap0_0 l75.length cp0_0, 40, 6, l75.length, l75.flatMap GItem.enc⟩) :: R, φ⟩) (fun ⟨n99, l75, i78, i79⟩ => Lp (fun s => m_slices_DeleteFunc_31_s2 o0 s.1 s.2.1 s.2.2) n99 (l75, i78, i79) out2 ∧ (l75.length ≤ cp0_0 ∧ l75.length = p0.length)) (fun ⟨n99, l75, i78, i79⟩ => n99) (n99', p0, x1, w64 (x1 + 1)) ⟨hl2, ⟨hcp0_0, rfl⟩⟩ ⟨rfl, rfl, rfl, rfl, trivial⟩ (fun W h => h.phi (fun W hφ => hφ)) (fun ⟨n99, l75, i78, i79⟩ u ⟨hlp, hl75⟩ => ?_)
   obtain ⟨o2, hm, hnx2⟩ := lp_step hlp
   clear hlp
   replace hm : m_slices_DeleteFunc_31_s2 o0 l75 i78 i79 = some o2 := hm
   unfold m_slices_DeleteFunc_31_s2 at hm
   refine c_flat [(0, .slice Ap0_0 l75.length cp0_0), (1, .func (.func 32) #[] #[.pointer (some ⟨go0, 0, none⟩)]), (5, .int .i64 i78), (6, .int .i64 i79)] ⟨rfl, rfl, rfl, rfl, trivial⟩ (fun u => ?_)
   refine c_sta ⟨w0, M, (1000, go0, .cells #[.int .i64 o0] 3 (0, 0)) :: H, (1000, ⟨.slice Ap0_0 l75.length cp0_0, 40, 6, l75.length, l75.flatMap GItem.enc⟩) :: R, φ⟩ (fun _ h => h) <| c_seq <| c_seq <| c_region <| g_v rfl r_move <| g_v rfl r_move <| g_v rfl (r_lenL Try.underlying52 rfl) <| g_v rfl (r_lss rfl rfl) <| g_nil <| d_then ?_
   refine c_cond rfl (fun h100 => ?_) (fun h100 => ?_)
   ·
    replace hm := ite_t hm (of_decide_eq_true h100)
    refine c_skip <| d_then <| c_seq <| c_block <| c_seq <| c_region <| g_v rfl r_move <| g_v rfl r_move ?_
    replace hm := bnd hm
    obtain ⟨x101, hx101, hm⟩ := hm
    refine g_know _ (fun W hS => cl_at (p := (Sta.ok ⟨w0, M, (1000, go0, .cells #[.int .i64 o0] 3 (0, 0)) :: H, (1000, ⟨.slice Ap0_0 l75.length cp0_0, 40, 6, l75.length, l75.flatMap GItem.enc⟩) :: R, φ⟩)) (sz := 6) (fun _ => rfl) (by decide) hS (fun W hS => rowCl (S := ⟨w0, M, (1000, go0, .cells #[.int .i64 o0] 3 (0, 0)) :: H, (1000, ⟨.slice Ap0_0 l75.length cp0_0, 40, 6, l75.length, l75.flatMap GItem.enc⟩) :: R, φ⟩) (tag := 1000) rfl W hS) hx101) ?_
    rintro ⟨ad102, hA104, f103⟩
    refine g_v rfl (r_ix Try.underlying52 Try.sizeOf40 rfl hA104 rfl hx101) <| g_v rfl (r_ldA rfl Try.isAgg40 Try.sizeOf40 (fun W hS => (f103 W hS).take 6) rfl) ?_
    refine g_e rfl (e_alloc 100070 Try.zeroValue40) (fun g105 _ => ?_)
    refine g_storeL (tag := 100070) rfl rfl rfl rfl Try.sizeOf40 rfl rfl <| g_nil <| d_then ?_
    refine c_flat [(0, .slice Ap0_0 l75.length cp0_0), (1, .func (.func 32) #[] #[.pointer (some ⟨go0, 0, none⟩)]), (5, .int .i64 i78), (6, .int .i64 i79), (7, .pointer (some ⟨g105, 0, none⟩))] ⟨rfl, rfl, rfl, rfl, rfl, trivial⟩ (fun u => ?_)
    refine c_sta ⟨w0, M, (100070, g105, .cells #[.int .i64 x101.fNumber, .int .i64 x101.fKind, .int .i64 x101.fFrom, .int .i64 x101.fTo, .int .i64 x101.fConn, .string x101.fBody] 40 (0, 0)) :: (1000, go0, .cells #[.int .i64 o0] 3 (0, 0)) :: H, (1000, ⟨.slice Ap0_0 l75.length cp0_0, 40, 6, l75.length, l75.flatMap GItem.enc⟩) :: R, φ⟩ (fun _ h => h) <| c_seq <| c_region <| g_v rfl r_move <| g_v rfl (r_loadA (tag := 100070) rfl rfl Try.isAgg40 Try.sizeOf40 rfl rfl) ?_
    replace hm := bnd hm
    obtain ⟨x106, hx107, hm⟩ := hm
    refine g_cnv ⟨w0, M, (1000, go0, .cells #[.int .i64 o0] 3 (0, 0)) :: (100070, g105, .cells #[.int .i64 x101.fNumber, .int .i64 x101.fKind, .int .i64 x101.fFrom, .int .i64 x101.fTo, .int .i64 x101.fConn, .string x101.fBody] 40 (0, 0)) :: H, (1000, ⟨.slice Ap0_0 l75.length cp0_0, 40, 6, l75.length, l75.flatMap GItem.enc⟩) :: R, φ⟩ (fun W h => (ok_front (t := 1000) (t' := 1000) h rfl)) Try.call32 rfl rfl rfl (c_net_Net_Close_c1 x101 go0 o0 _ hx107) (fun _ _ => ?_)
    refine g_sta _ (fun W h => (ok_front (t := 1000) (t' := 1000) h rfl)) <| g_v rfl (r_not rfl) <| g_nil <| d_then ?_
    refine c_cond rfl (fun h108 => ?_) (fun h108 => ?_)
    ·
     have h108' : x106 = false := by revert h108; cases x106 <;> simp
     replace hm := ite_f hm (bool_nt h108')
     refine c_seq <| c_region <| g_v rfl r_move <| g_v rfl r_move <| g_v rfl (r_loadA (tag := 100070) rfl rfl Try.isAgg40 Try.sizeOf40 rfl rfl) ?_
     replace hm := bnd hm
     obtain ⟨x109, hx109, hm⟩ := hm
     refine g_know _ (fun W hS => cl_at (p := (Sta.ok ⟨w0, M, (1000, go0, .cells #[.int .i64 o0] 3 (0, 0)) :: (100070, g105, .cells #[.int .i64 x101.fNumber, .int .i64 x101.fKind, .int .i64 x101.fFrom, .int .i64 x101.fTo, .int .i64 x101.fConn, .string x101.fBody] 40 (0, 0)) :: H, (1000, ⟨.slice Ap0_0 l75.length cp0_0, 40, 6, l75.length, l75.flatMap GItem.enc⟩) :: R, φ⟩)) (sz := 6) (fun _ => rfl) (by decide) hS (fun W hS => rowCl (S := ⟨w0, M, (1000, go0, .cells #[.int .i64 o0] 3 (0, 0)) :: (100070, g105, .cells #[.int .i64 x101.fNumber, .int .i64 x101.fKind, .int .i64 x101.fFrom, .int .i64 x101.fTo, .int .i64 x101.fConn, .string x101.fBody] 40 (0, 0)) :: H, (1000, ⟨.slice Ap0_0 l75.length cp0_0, 40, 6, l75.length, l75.flatMap GItem.enc⟩) :: R, φ⟩) (tag := 1000) rfl W hS) hx109) ?_
     rintro ⟨ad110, hA112, f111⟩
     refine g_v rfl (r_ix Try.underlying52 Try.sizeOf40 rfl hA112 rfl hx109) ?_
     replace hm := bnd hm
     obtain ⟨l113, hl113, hm⟩ := hm
     refine g_stR (tag := 1000) (enc := GItem.enc) (l := l75) (off := 0) (vs := [.int .i64 x101.fNumber, .int .i64 x101.fKind, .int .i64 x101.fFrom, .int .i64 x101.fTo, .int .i64 x101.fConn, .string x101.fBody]) (add0 rfl) hA112 rfl rfl hx109 hl113 rfl (Nat.le_of_ble_eq_true rfl) (fun _ => rfl) rfl rfl Try.sizeOf40 ?_
     rw [show l75.length = l113.length from (setAt_lenE hl113).symm]
     refine g_nil <| d_then ?_
     refine c_flat [(0, .slice Ap0_0 l113.length cp0_0), (1, .func (.func 32) #[] #[.pointer (some ⟨go0, 0, none⟩)]), (5, .int .i64 i78), (6, .int .i64 i79)] ⟨rfl, rfl, rfl, rfl, trivial⟩ (fun u => ?_)
     refine c_sta ⟨w0, M, (1000, go0, .cells #[.int .i64 o0] 3 (0, 0)) :: (100070, g105, .cells #[.int .i64 x101.fNumber, .int .i64 x101.fKind, .int .i64 x101.fFrom, .int .i64 x101.fTo, .int .i64 x101.fConn, .string x101.fBody] 40 (0, 0)) :: H, (1000, ⟨.slice Ap0_0 l113.length cp0_0, 40, 6, l113.length, l113.flatMap GItem.enc⟩) :: R, φ⟩ (fun _ h => h) <| c_region <| g_v rfl r_move <| g_v rfl (r_add rfl rfl rfl) <| g_v rfl r_assign <| g_nil <| d_normal_block <| d_then <| c_region <| g_v rfl r_move ?_
     refine g_v rfl (r_add rfl rfl rfl) <| g_v rfl r_assign <| g_nil ?_
     obtain ⟨n114, hn114, hlp⟩ := nx_inl hm hnx2
     exact d_round (n114, l113, w64 (i78 + 1), w64 (i79 + 1)) ⟨hlp, ⟨(setAt_len hl75.1 hl113), ((setAt_lenE hl113).trans hl75.2)⟩⟩ hn114 ⟨rfl, rfl, rfl, rfl, trivial⟩ (fun W h => (h.dropH (t := 100070) rfl).phi (fun W hφ => hφ))
    ·
     have h108' : x106 = true := by revert h108; cases x106 <;> simp
     replace hm := ite_t hm h108'
     refine c_skip <| d_normal_block <| d_then <| c_region <| g_v rfl r_move <| g_v rfl (r_add rfl rfl rfl) <| g_v rfl r_assign <| g_nil ?_
     obtain ⟨n115, hn115, hlp⟩ := nx_inl hm hnx2
     exact d_round (n115, l75, i78, w64 (i79 + 1)) ⟨hlp, ⟨hl75.1, hl75.2⟩⟩ hn115 ⟨rfl, rfl, rfl, rfl, trivial⟩ (fun W h => (h.dropH (t := 100070) rfl).phi (fun W hφ => hφ))
   ·
    replace hm := ite_f hm (of_decide_eq_false h100)
    refine c_exit <| d_exit_then <| d_exit_then <| d_exit_block ?_
    replace hm := nx_out (C := (fun e : (List GItem) × Int => m_slices_DeleteFunc_31_j1 e.1 e.2 = some r)) hm hnx2 hr2
    exact d_round (l75, i78) ⟨hm, ⟨hl75.1, hl75.2⟩⟩ Nat.zero_lt_one ⟨rfl, rfl, trivial⟩ (fun W h => h.phi (fun W hφ => hφ))
  ·
   unfold m_slices_DeleteFunc_31_j1 at hm
   refine d_flat [(0, .slice Ap0_0 l49.length cp0_0), (5, .int .i64 i52)] ⟨rfl, rfl, trivial⟩ (fun u => ?_)
   refine d_sta ⟨w0, M, (1000, go0, .cells #[.int .i64 o0] 3 (0, 0)) :: H, (1000, ⟨.slice Ap0_0 l49.length cp0_0, 40, 6, l49.length, l49.flatMap GItem.enc⟩) :: R, φ⟩ (fun _ h => h) <| d_then <| c_seq <| c_region <| g_v rfl r_move <| g_v rfl r_move ?_
   replace hm := bnd hm
   obtain ⟨l53, hl53, hm⟩ := hm
   refine g_v rfl (r_lcutLo Try.underlying52 Try.sizeOf40 rfl hl49.1 rfl hl53) ?_
   replace hm := bnd hm
   obtain ⟨l54, hl54, hm⟩ := hm
   refine g_sta _ (fun W h => row_cut (tag := 1000) (enc := GItem.enc) (fun _ => rfl) rfl hl54 h) <| g_e0 (e_clearLo (tag := 1000) (enc := GItem.enc) Try.underlying52 Try.zeroValue40 rfl rfl hl54 hl53 rfl hl49.1 rfl) <| g_nil <| d_then <| c_seq <| c_region <| g_v rfl r_move <| g_v rfl r_move <| g_v rfl (r_lcutHi Try.underlying52 Try.sizeOf40 rfl hl49.1 rfl hl54) <| g_v rfl r_assign ?_
   refine g_nil <| d_then <| c_ret ?_
   replace hm := Option.some.inj hm
   subst hm
   refine d_sta _ (fun W h => ok_frontR (t := 1000) (t' := 2000) h rfl) ?_
   refine d_retC (Ap0_0, cp0_0) Try.results31 ?_ (cutHi_len hl49.1 hl54) (fun W h => h.phi (fun W hφ => hφ)) (.inr rfl)
   refine res_tmp <| res_nil ?_
   exact rfl
noncomputable def m_net_Net_closed (p1 : Gnet_conn) (p2 : Int) (o0 : Gnet_Net) : Option Gnet_Net :=
  (m_net_conn_other p1 p2).bind fun x16 =>
  (m_net_Net_add (⟨0, 4, x16, p2, p1.fnumber, (⟨#[]⟩ : ByteArray)⟩ : GItem) o0).bind fun x18 =>
  some (⟨x18.fitems, o0.fconns, x18.flast, o0.fopens⟩ : Gnet_Net)
theorem c_net_Net_closed {w0 : World} {M : Nat → Prop} {H : List (Nat × Nat × Obj)} {R : List (Nat × Row)} {φ : World → Prop} (p1 : Gnet_conn) (p2 : Int) (go0 : Nat) (o0 : Gnet_Net) (Ao0_0 : Option Addr) (co0_0 : Nat) (hco0_0 : o0.fitems.length ≤ co0_0) (Ao0_1 : Option Addr) (co0_1 : Nat) (hco0_1 : o0.fconns.length ≤ co0_1) (r : Gnet_Net) (hm : m_net_Net_closed p1 p2 o0 = some r) :
    Cn Try.prog 33 #[.pointer (some ⟨go0, 0, none⟩), .agg #[.int .i64 p1.fnumber, .int .i64 p1.fends.a0, .int .i64 p1.fends.a1], .int .i64 p2] ⟨w0, M, (1000, go0, .cells #[.slice Ao0_0 o0.fitems.length co0_0, .slice Ao0_1 o0.fconns.length co0_1, .int .i64 o0.flast, .int .i64 o0.fopens] 61 (0, 0)) :: H, (1000, ⟨.slice Ao0_0 o0.fitems.length co0_0, 40, 6, o0.fitems.length, o0.fitems.flatMap GItem.enc⟩) :: (1001, ⟨.slice Ao0_1 o0.fconns.length co0_1, 63, 3, o0.fconns.length, o0.fconns.flatMap Gnet_conn.enc⟩) :: R, φ⟩ (fun x : Option Addr × Nat => .tuple #[]) (fun x => r.fitems.length ≤ x.2) (fun x => ⟨w0, M, (1000, go0, .cells #[.slice x.1 r.fitems.length x.2, .slice Ao0_1 o0.fconns.length co0_1, .int .i64 r.flast, .int .i64 o0.fopens] 61 (0, 0)) :: H, (2000, ⟨.slice x.1 r.fitems.length x.2, 40, 6, r.fitems.length, r.fitems.flatMap GItem.enc⟩) :: (1001, ⟨.slice Ao0_1 o0.fconns.length co0_1, 63, 3, o0.fconns.length, o0.fconns.flatMap Gnet_conn.enc⟩) :: R, φ⟩) := by
 unfold m_net_Net_closed at hm
 refine cn_intro (fn := Try.f33) (N := 15) Try.func33 rfl Try.ntmps33 rfl <| c_seq <| c_region ?_
 refine g_e rfl (e_box 100040 rfl) (fun g1 _ => ?_)
 refine g_nil <| d_then <| ga_start (n := 9) ⟨w0, M, (100040, g1, .cells #[.int .i64 p1.fnumber, .int .i64 p1.fends.a0, .int .i64 p1.fends.a1] 63 (0, 0)) :: H, R, φ⟩ [] #[false, false, false, false, false, false, false, false, false] (fun W h => (((h.dropR (t := 1000) rfl).dropR (t := 1001) rfl).dropH (t := 1000) rfl).phi (fun W hφ => hφ)) mixed rfl rfl <| ga_v (i := 0) (bz 9 1) rfl (by kernel_rfl) (fun _ _ _ _ h => h) rfl (r_move) <| ga_v (i := 1) (bz 9 3) rfl (by kernel_rfl) (fun _ _ _ _ h => h) rfl (r_loadA (tag := 100040) rfl rfl Try.isAgg63 Try.sizeOf63 rfl rfl) <| ga_v (i := 2) (bz 9 7) rfl (by kernel_rfl) (fun _ _ _ _ h => h) rfl (r_move) <| ga_v (i := 4) (bz 9 23) rfl (by kernel_rfl) (fun _ _ _ _ h => h) rfl (r_move) <| ga_v (i := 5) (bz 9 55) rfl (by kernel_rfl) (fun _ _ _ _ h => h) rfl (r_field (n := 0) Try.underlying63 rfl Try.sizeOf3 rfl rfl) <| ga_v (i := 6) (bz 9 119) rfl (by kernel_rfl) (fun _ _ _ _ h => h) rfl (r_load (tag := 100040) rfl rfl rfl Try.isAgg3) ?_
 replace hm := bnd hm
 obtain ⟨x16, hx17, hm⟩ := hm
 refine ga_cn (first := #[]) (i := 3) (bz 9 127) rfl (by kernel_rfl) (by decide)  ⟨w0, M, _, _, φ⟩ (fun _ h => h) Try.call40 rfl rfl rfl (c_net_conn_other p1 p2 _ hx17) (fun _ W _ h => (((h.dropR (t := 1000) rfl).dropR (t := 1001) rfl).dropH (t := 1000) rfl).phi (fun W hφ => hφ)) (fun _ _ => ?_)
 refine ga_r (i := 7) (bz 9 255) rfl (by kernel_rfl) (by decide) rfl (r_build _ rfl (bld40_14 _ _ _ _)) ?_
 replace hm := bnd hm
 obtain ⟨x18, hx19, hm⟩ := hm
 refine ga_cn (first := #[]) (i := 8) (bz 9 511) rfl (by kernel_rfl) (by decide)  ⟨w0, M, (1000, go0, .cells #[.slice Ao0_0 o0.fitems.length co0_0, .slice Ao0_1 o0.fconns.length co0_1, .int .i64 o0.flast, .int .i64 o0.fopens] 61 (0, 0)) :: (100040, g1, .cells #[.int .i64 p1.fnumber, .int .i64 p1.fends.a0, .int .i64 p1.fends.a1] 63 (0, 0)) :: H, (1000, ⟨.slice Ao0_0 o0.fitems.length co0_0, 40, 6, o0.fitems.length, o0.fitems.flatMap GItem.enc⟩) :: (1001, ⟨.slice Ao0_1 o0.fconns.length co0_1, 63, 3, o0.fconns.length, o0.fconns.flatMap Gnet_conn.enc⟩) :: R, φ⟩ (fun W h => (ok_front (t := 1000) (t' := 1000) (ok_frontR (t := 1000) (t' := 1000) (ok_frontR (t := 1001) (t' := 1001) h rfl) rfl) rfl)) Try.call28 rfl rfl rfl (c_net_Net_add (⟨0, 4, x16, p2, p1.fnumber, (⟨#[]⟩ : ByteArray)⟩ : GItem) go0 o0 Ao0_0 co0_0 hco0_0 Ao0_1 co0_1 hco0_1 _ hx19) (fun ⟨A20, c21⟩ W hc21 h => ((((ok_frontR (t := 2000) (t' := 1000) (ok_frontR (t := 1001) (t' := 1001) (ok_front (t := 1000) (t' := 1000) h rfl) rfl) rfl).dropR (t := 1000) rfl).dropR (t := 1001) rfl).dropH (t := 1000) rfl).phi (fun W hφ => hφ)) (fun ⟨A20, c21⟩ hc21 => ?_)
 refine ga_sta _ (fun W h => (ok_frontR (t := 2000) (t' := 1000) (ok_frontR (t := 1001) (t' := 1001) (ok_front (t := 1000) (t' := 1000) h rfl) rfl) rfl)) <| ga_done (by kernel_rfl) ?_
 replace hm := Option.some.inj hm
 subst hm
 refine d_sta _ (fun W h => ok_frontR (t := 1000) (t' := 2000) h rfl) ?_
 refine d_retC (A20, c21) Try.results33 ?_ hc21 (fun W h => (h.dropH (t := 100040) rfl).phi (fun W hφ => hφ)) (.inl rfl)
 refine res_nil ?_
 exact rfl
noncomputable def m_net_Net_Close (p1 : Int) (o0 : Gnet_Net) : Option (Bool × Gnet_Net) :=
  (m_net_Net_find p1 o0).bind fun (z5 : Int × Bool) =>
  if z5.2 = true then
    (at_ o0.fconns z5.1).bind fun x7 =>
    (m_slices_Delete_30 o0.fconns z5.1 (w64 (z5.1 + 1))).bind fun x12 =>
    (m_slices_DeleteFunc_31 o0.fitems p1).bind fun x17 =>
    (m_net_Net_closed x7 x7.fends.a0 (⟨x17, x12, o0.flast, o0.fopens⟩ : Gnet_Net)).bind fun x22 =>
    (m_net_Net_closed x7 x7.fends.a1 (⟨x22.fitems, x12, x22.flast, o0.fopens⟩ : Gnet_Net)).bind fun x27 =>
    some (true, (⟨x27.fitems, x12, x27.flast, o0.fopens⟩ : Gnet_Net))
  else
    some (false, o0)
theorem c_net_Net_Close {w0 : World} {M : Nat → Prop} {H : List (Nat × Nat × Obj)} {R : List (Nat × Row)} {φ : World → Prop} (p1 : Int) (go0 : Nat) (o0 : Gnet_Net) (Ao0_0 : Option Addr) (co0_0 : Nat) (hco0_0 : o0.fitems.length ≤ co0_0) (Ao0_1 : Option Addr) (co0_1 : Nat) (hco0_1 : o0.fconns.length ≤ co0_1) (r : Bool × Gnet_Net) (hm : m_net_Net_Close p1 o0 = some r) :
    Cn Try.prog 14 #[.pointer (some ⟨go0, 0, none⟩), .int .i64 p1] ⟨w0, M, (1000, go0, .cells #[.slice Ao0_0 o0.fitems.length co0_0, .slice Ao0_1 o0.fconns.length co0_1, .int .i64 o0.flast, .int .i64 o0.fopens] 61 (0, 0)) :: H, (1000, ⟨.slice Ao0_0 o0.fitems.length co0_0, 40, 6, o0.fitems.length, o0.fitems.flatMap GItem.enc⟩) :: (1001, ⟨.slice Ao0_1 o0.fconns.length co0_1, 63, 3, o0.fconns.length, o0.fconns.flatMap Gnet_conn.enc⟩) :: R, φ⟩ (fun x : Option Addr × Nat × Option Addr × Nat => .bool r.1) (fun x => r.2.fitems.length ≤ x.2.1 ∧ r.2.fconns.length ≤ x.2.2.2) (fun x => ⟨w0, M, (1000, go0, .cells #[.slice x.1 r.2.fitems.length x.2.1, .slice x.2.2.1 r.2.fconns.length x.2.2.2, .int .i64 r.2.flast, .int .i64 o0.fopens] 61 (0, 0)) :: H, (2000, ⟨.slice x.1 r.2.fitems.length x.2.1, 40, 6, r.2.fitems.length, r.2.fitems.flatMap GItem.enc⟩) :: (2001, ⟨.slice x.2.2.1 r.2.fconns.length x.2.2.2, 63, 3, r.2.fconns.length, r.2.fconns.flatMap Gnet_conn.enc⟩) :: R, φ⟩) := by
 unfold m_net_Net_Close at hm
 refine cn_intro (fn := Try.f14) (N := 55) Try.func14 rfl Try.ntmps14 rfl <| c_seq <| c_region ?_
 refine g_e rfl (e_box 100030 rfl) (fun g1 _ => ?_)
 refine g_v rfl r_assign <| g_nil <| d_then <| c_seq <| c_region <| g_v rfl r_move <| g_v rfl (r_load (tag := 100030) rfl rfl rfl Try.isAgg3) ?_
 replace hm := bnd hm
 obtain ⟨⟨x2, x3⟩, hx4, hm⟩ := hm
 refine g_cn ⟨w0, M, (1000, go0, .cells #[.slice Ao0_0 o0.fitems.length co0_0, .slice Ao0_1 o0.fconns.length co0_1, .int .i64 o0.flast, .int .i64 o0.fopens] 61 (0, 0)) :: (100030, g1, .cells #[.int .i64 p1] 3 (0, 0)) :: H, (1000, ⟨.slice Ao0_0 o0.fitems.length co0_0, 40, 6, o0.fitems.length, o0.fitems.flatMap GItem.enc⟩) :: (1001, ⟨.slice Ao0_1 o0.fconns.length co0_1, 63, 3, o0.fconns.length, o0.fconns.flatMap Gnet_conn.enc⟩) :: R, φ⟩ (fun W h => (ok_front (t := 1000) (t' := 1000) (ok_frontR (t := 1000) (t' := 1000) (ok_frontR (t := 1001) (t' := 1001) h rfl) rfl) rfl)) Try.call29 rfl rfl (c_net_Net_find p1 go0 o0 Ao0_0 co0_0 hco0_0 Ao0_1 co0_1 hco0_1 _ hx4) (fun _ _ => ?_)
 refine g_sta _ (fun W h => (ok_frontR (t := 1000) (t' := 1000) (ok_frontR (t := 1001) (t' := 1001) (ok_front (t := 1000) (t' := 1000) h rfl) rfl) rfl)) <| g_v rfl r_move <| g_v rfl (r_extract rfl rfl) <| g_v rfl (r_extract rfl rfl) <| g_v rfl r_assign <| g_v rfl r_assign <| g_nil <| d_then ?_
 refine c_flat [(0, .pointer (some ⟨go0, 0, none⟩)), (3, .pointer (some ⟨g1, 0, none⟩)), (5, .int .i64 x2), (6, .bool x3)] ⟨rfl, rfl, rfl, rfl, trivial⟩ (fun u => ?_)
 refine c_sta ⟨w0, M, (1000, go0, .cells #[.slice Ao0_0 o0.fitems.length co0_0, .slice Ao0_1 o0.fconns.length co0_1, .int .i64 o0.flast, .int .i64 o0.fopens] 61 (0, 0)) :: (100030, g1, .cells #[.int .i64 p1] 3 (0, 0)) :: H, (1000, ⟨.slice Ao0_0 o0.fitems.length co0_0, 40, 6, o0.fitems.length, o0.fitems.flatMap GItem.enc⟩) :: (1001, ⟨.slice Ao0_1 o0.fconns.length co0_1, 63, 3, o0.fconns.length, o0.fconns.flatMap Gnet_conn.enc⟩) :: R, φ⟩ (fun _ h => h) <| c_seq <| c_seq <| c_region <| g_v rfl r_move <| g_v rfl (r_not rfl) <| g_nil <| d_then ?_
 refine c_cond rfl (fun h6 => ?_) (fun h6 => ?_)
 ·
  have h6' : x3 = false := by revert h6; cases x3 <;> simp
  replace hm := ite_f hm (bool_nt h6')
  refine c_seq <| c_region <| g_v rfl r_assign <| g_nil <| d_then <| c_ret <| d_ret_then ?_
  replace hm := Option.some.inj hm
  subst hm
  refine d_sta _ (fun W h => ok_frontR (t := 1001) (t' := 2001) h rfl) <| d_sta _ (fun W h => ok_frontR (t := 1000) (t' := 2000) h rfl) ?_
  refine d_retC (Ao0_0, co0_0, Ao0_1, co0_1) Try.results14 ?_ ⟨hco0_0, hco0_1⟩ (fun W h => (h.dropH (t := 100030) rfl).phi (fun W hφ => hφ)) (.inr rfl)
  refine res_tmp <| res_nil ?_
  exact rfl
 ·
  have h6' : x3 = true := by revert h6; cases x3 <;> simp
  replace hm := ite_t hm h6'
  refine c_skip <| d_then <| c_seq <| c_region <| g_v rfl r_move <| g_v rfl (r_nilck rfl) <| g_v rfl (r_field (n := 1) Try.underlying61 rfl Try.sizeOf59 rfl rfl) <| g_v rfl (r_load (tag := 1000) rfl rfl rfl Try.isAgg59) <| g_v rfl r_move ?_
  replace hm := bnd hm
  obtain ⟨x7, hx7, hm⟩ := hm
  refine g_know _ (fun W hS => cl_at (p := (Sta.ok ⟨w0, M, (1000, go0, .cells #[.slice Ao0_0 o0.fitems.length co0_0, .slice Ao0_1 o0.fconns.length co0_1, .int .i64 o0.flast, .int .i64 o0.fopens] 61 (0, 0)) :: (100030, g1, .cells #[.int .i64 p1] 3 (0, 0)) :: H, (1000, ⟨.slice Ao0_0 o0.fitems.length co0_0, 40, 6, o0.fitems.length, o0.fitems.flatMap GItem.enc⟩) :: (1001, ⟨.slice Ao0_1 o0.fconns.length co0_1, 63, 3, o0.fconns.length, o0.fconns.flatMap Gnet_conn.enc⟩) :: R, φ⟩)) (sz := 3) (fun _ => rfl) (by decide) hS (fun W hS => rowCl (S := ⟨w0, M, (1000, go0, .cells #[.slice Ao0_0 o0.fitems.length co0_0, .slice Ao0_1 o0.fconns.length co0_1, .int .i64 o0.flast, .int .i64 o0.fopens] 61 (0, 0)) :: (100030, g1, .cells #[.int .i64 p1] 3 (0, 0)) :: H, (1000, ⟨.slice Ao0_0 o0.fitems.length co0_0, 40, 6, o0.fitems.length, o0.fitems.flatMap GItem.enc⟩) :: (1001, ⟨.slice Ao0_1 o0.fconns.length co0_1, 63, 3, o0.fconns.length, o0.fconns.flatMap Gnet_conn.enc⟩) :: R, φ⟩) (tag := 1001) rfl W hS) hx7) ?_
  rintro ⟨ad8, hA10, f9⟩
  refine g_v rfl (r_ix Try.underlying59 Try.sizeOf63 rfl hA10 rfl hx7) <| g_v rfl (r_ldA rfl Try.isAgg63 Try.sizeOf63 (fun W hS => (f9 W hS).take 3) rfl) ?_
  refine g_e rfl (e_alloc 100070 Try.zeroValue63) (fun g11 _ => ?_)
  refine g_storeL (tag := 100070) rfl rfl rfl rfl Try.sizeOf63 rfl rfl <| g_nil <| d_then ?_
  refine c_flat [(0, .pointer (some ⟨go0, 0, none⟩)), (3, .pointer (some ⟨g1, 0, none⟩)), (5, .int .i64 x2), (7, .pointer (some ⟨g11, 0, none⟩))] ⟨rfl, rfl, rfl, rfl, trivial⟩ (fun u => ?_)
  refine c_sta ⟨w0, M, (100070, g11, .cells #[.int .i64 x7.fnumber, .int .i64 x7.fends.a0, .int .i64 x7.fends.a1] 63 (0, 0)) :: (1000, go0, .cells #[.slice Ao0_0 o0.fitems.length co0_0, .slice Ao0_1 o0.fconns.length co0_1, .int .i64 o0.flast, .int .i64 o0.fopens] 61 (0, 0)) :: (100030, g1, .cells #[.int .i64 p1] 3 (0, 0)) :: H, (1000, ⟨.slice Ao0_0 o0.fitems.length co0_0, 40, 6, o0.fitems.length, o0.fitems.flatMap GItem.enc⟩) :: (1001, ⟨.slice Ao0_1 o0.fconns.length co0_1, 63, 3, o0.fconns.length, o0.fconns.flatMap Gnet_conn.enc⟩) :: R, φ⟩ (fun _ h => h) <| c_seq <| c_region <| g_v rfl r_move <| g_v rfl r_move <| g_v rfl (r_nilck rfl) <| g_v rfl (r_field (n := 1) Try.underlying61 rfl Try.sizeOf59 rfl rfl) <| g_v rfl (r_load (tag := 1000) rfl rfl rfl Try.isAgg59) <| g_v rfl r_move <| g_v rfl r_move ?_
  refine g_v rfl (r_add rfl rfl rfl) ?_
  replace hm := bnd hm
  obtain ⟨x12, hx13, hm⟩ := hm
  refine g_cn ⟨w0, M, (100070, g11, .cells #[.int .i64 x7.fnumber, .int .i64 x7.fends.a0, .int .i64 x7.fends.a1] 63 (0, 0)) :: (1000, go0, .cells #[.slice Ao0_0 o0.fitems.length co0_0, .slice Ao0_1 o0.fconns.length co0_1, .int .i64 o0.flast, .int .i64 o0.fopens] 61 (0, 0)) :: (100030, g1, .cells #[.int .i64 p1] 3 (0, 0)) :: H, (1000, ⟨.slice Ao0_1 o0.fconns.length co0_1, 63, 3, o0.fconns.length, o0.fconns.flatMap Gnet_conn.enc⟩) :: (1000, ⟨.slice Ao0_0 o0.fitems.length co0_0, 40, 6, o0.fitems.length, o0.fitems.flatMap GItem.enc⟩) :: R, φ⟩ (fun W h => (ok_frontR (t := 1001) (t' := 1000) h rfl)) Try.call30 rfl rfl (c_slices_Delete_30 o0.fconns Ao0_1 co0_1 hco0_1 x2 (w64 (x2 + 1)) _ hx13) (fun ⟨A14, c15⟩ hc15 => ?_)
  refine g_sta _ (fun W h => (ok_frontR (t := 2000) (t' := 1001) h rfl)) <| g_v rfl (r_nilck rfl) <| g_v rfl (r_field (n := 1) Try.underlying61 rfl Try.sizeOf59 rfl rfl) <| g_storeL (tag := 1000) rfl rfl rfl rfl Try.sizeOf59 rfl rfl <| g_nil <| d_then ?_
  refine c_flat [(0, .pointer (some ⟨go0, 0, none⟩)), (3, .pointer (some ⟨g1, 0, none⟩)), (7, .pointer (some ⟨g11, 0, none⟩))] ⟨rfl, rfl, rfl, trivial⟩ (fun u => ?_)
  refine c_sta ⟨w0, M, (100070, g11, .cells #[.int .i64 x7.fnumber, .int .i64 x7.fends.a0, .int .i64 x7.fends.a1] 63 (0, 0)) :: (1000, go0, .cells #[.slice Ao0_0 o0.fitems.length co0_0, .slice A14 x12.length c15, .int .i64 o0.flast, .int .i64 o0.fopens] 61 (0, 0)) :: (100030, g1, .cells #[.int .i64 p1] 3 (0, 0)) :: H, (1001, ⟨.slice A14 x12.length c15, 63, 3, x12.length, x12.flatMap Gnet_conn.enc⟩) :: (1000, ⟨.slice Ao0_0 o0.fitems.length co0_0, 40, 6, o0.fitems.length, o0.fitems.flatMap GItem.enc⟩) :: R, φ⟩ (fun _ h => h) <| c_seq <| c_region <| g_v rfl r_move <| g_v rfl r_move <| g_v rfl (r_nilck rfl) <| g_v rfl (r_field (n := 0) Try.underlying61 rfl Try.sizeOf52 rfl rfl) <| g_v rfl (r_load (tag := 1000) rfl rfl rfl Try.isAgg52) <| g_v rfl (r_mkf rfl) ?_
  replace hm := bnd hm
  obtain ⟨x17, hx18, hm⟩ := hm
  refine g_cn ⟨w0, M, (1000, g1, .cells #[.int .i64 p1] 3 (0, 0)) :: (100070, g11, .cells #[.int .i64 x7.fnumber, .int .i64 x7.fends.a0, .int .i64 x7.fends.a1] 63 (0, 0)) :: (1000, go0, .cells #[.slice Ao0_0 o0.fitems.length co0_0, .slice A14 x12.length c15, .int .i64 o0.flast, .int .i64 o0.fopens] 61 (0, 0)) :: H, (1000, ⟨.slice Ao0_0 o0.fitems.length co0_0, 40, 6, o0.fitems.length, o0.fitems.flatMap GItem.enc⟩) :: (1001, ⟨.slice A14 x12.length c15, 63, 3, x12.length, x12.flatMap Gnet_conn.enc⟩) :: R, φ⟩ (fun W h => (ok_front (t := 100030) (t' := 1000) (ok_frontR (t := 1000) (t' := 1000) h rfl) rfl)) Try.call31 rfl rfl (c_slices_DeleteFunc_31 o0.fitems Ao0_0 co0_0 hco0_0 g1 p1 _ hx18) (fun ⟨A19, c20⟩ hc20 => ?_)
  refine g_sta _ (fun W h => (ok_frontR (t := 2000) (t' := 1000) (ok_front (t := 1000) (t' := 100030) h rfl) rfl)) <| g_v rfl (r_nilck rfl) <| g_v rfl (r_field (n := 0) Try.underlying61 rfl Try.sizeOf52 rfl rfl) <| g_storeL (tag := 1000) rfl rfl rfl rfl Try.sizeOf52 rfl rfl <| g_nil <| d_then ?_
  refine c_flat [(0, .pointer (some ⟨go0, 0, none⟩)), (7, .pointer (some ⟨g11, 0, none⟩))] ⟨rfl, rfl, trivial⟩ (fun u => ?_)
  refine c_sta ⟨w0, M, (100030, g1, .cells #[.int .i64 p1] 3 (0, 0)) :: (100070, g11, .cells #[.int .i64 x7.fnumber, .int .i64 x7.fends.a0, .int .i64 x7.fends.a1] 63 (0, 0)) :: (1000, go0, .cells #[.slice A19 x17.length c20, .slice A14 x12.length c15, .int .i64 o0.flast, .int .i64 o0.fopens] 61 (0, 0)) :: H, (1000, ⟨.slice A19 x17.length c20, 40, 6, x17.length, x17.flatMap GItem.enc⟩) :: (1001, ⟨.slice A14 x12.length c15, 63, 3, x12.length, x12.flatMap Gnet_conn.enc⟩) :: R, φ⟩ (fun _ h => h) <| c_seq <| c_seq <| c_region <| g_v rfl (r_field (n := 1) Try.underlying63 rfl Try.sizeOf30 rfl rfl) <| g_v rfl (r_loadA (tag := 100070) rfl rfl Try.isAgg30 Try.sizeOf30 rfl rfl) <| g_v rfl r_move <| g_nil <| d_then <| c_block ?_
  refine c_rounds 64 <| c_seq <| c_region <| g_v rfl (r_lss rfl rfl) <| g_nil <| d_then <| c_seq <| c_cond1 rfl (by decide) <| c_skip <| d_then ?_
  refine c_seq <| c_block <| c_seq <| c_region <| g_v rfl (r_indexA Try.underlying30 Try.sizeOf3 Try.isAgg3 rfl rfl rfl rfl) <| g_v rfl r_assign <| g_nil <| d_then <| c_region <| g_v rfl r_move ?_
  refine g_v rfl (r_loadA (tag := 100070) rfl rfl Try.isAgg63 Try.sizeOf63 rfl rfl) <| g_v rfl r_move ?_
  replace hm := bnd hm
  obtain ⟨x22, hx23, hm⟩ := hm
  refine g_cn ⟨w0, M, (1000, go0, .cells #[.slice A19 x17.length c20, .slice A14 x12.length c15, .int .i64 o0.flast, .int .i64 o0.fopens] 61 (0, 0)) :: (100030, g1, .cells #[.int .i64 p1] 3 (0, 0)) :: (100070, g11, .cells #[.int .i64 x7.fnumber, .int .i64 x7.fends.a0, .int .i64 x7.fends.a1] 63 (0, 0)) :: H, (1000, ⟨.slice A19 x17.length c20, 40, 6, x17.length, x17.flatMap GItem.enc⟩) :: (1001, ⟨.slice A14 x12.length c15, 63, 3, x12.length, x12.flatMap Gnet_conn.enc⟩) :: R, φ⟩ (fun W h => (ok_front (t := 1000) (t' := 1000) (ok_frontR (t := 1000) (t' := 1000) (ok_frontR (t := 1001) (t' := 1001) h rfl) rfl) rfl)) Try.call33 rfl rfl (c_net_Net_closed x7 x7.fends.a0 go0 (⟨x17, x12, o0.flast, o0.fopens⟩ : Gnet_Net) A19 c20 hc20 A14 c15 hc15 _ hx23) (fun ⟨A24, c25⟩ hc25 => ?_)
  refine g_sta _ (fun W h => (ok_frontR (t := 2000) (t' := 1000) (ok_frontR (t := 1001) (t' := 1001) (ok_front (t := 1000) (t' := 1000) h rfl) rfl) rfl)) <| g_nil <| d_normal_block <| d_then ?_
  refine c_flat [(0, .pointer (some ⟨go0, 0, none⟩)), (7, .pointer (some ⟨g11, 0, none⟩)), (46, .agg #[.int .i64 x7.fends.a0, .int .i64 x7.fends.a1]), (47, .int .i64 0)] ⟨rfl, rfl, rfl, rfl, trivial⟩ (fun u => ?_)
  refine c_sta ⟨w0, M, (1000, go0, .cells #[.slice A24 x22.fitems.length c25, .slice A14 x12.length c15, .int .i64 x22.flast, .int .i64 o0.fopens] 61 (0, 0)) :: (100030, g1, .cells #[.int .i64 p1] 3 (0, 0)) :: (100070, g11, .cells #[.int .i64 x7.fnumber, .int .i64 x7.fends.a0, .int .i64 x7.fends.a1] 63 (0, 0)) :: H, (1000, ⟨.slice A24 x22.fitems.length c25, 40, 6, x22.fitems.length, x22.fitems.flatMap GItem.enc⟩) :: (1001, ⟨.slice A14 x12.length c15, 63, 3, x12.length, x12.flatMap Gnet_conn.enc⟩) :: R, φ⟩ (fun _ h => h) <| c_region <| g_v rfl (r_add rfl rfl (show IntKind.i64.wrap (0 + 1) = 1 by decide)) <| g_v rfl r_move <| g_nil <| d_rounds ?_
  refine c_flat [(0, .pointer (some ⟨go0, 0, none⟩)), (7, .pointer (some ⟨g11, 0, none⟩)), (46, .agg #[.int .i64 x7.fends.a0, .int .i64 x7.fends.a1]), (47, .int .i64 1)] ⟨rfl, rfl, rfl, rfl, trivial⟩ (fun u => ?_)
  refine c_seq <| c_region <| g_v rfl (r_lss rfl rfl) <| g_nil <| d_then <| c_seq <| c_cond1 rfl (by decide) <| c_skip <| d_then <| c_seq ?_
  refine c_block <| c_seq <| c_region <| g_v rfl (r_indexA Try.underlying30 Try.sizeOf3 Try.isAgg3 rfl rfl rfl rfl) <| g_v rfl r_assign <| g_nil <| d_then <| c_region <| g_v rfl r_move <| g_v rfl (r_loadA (tag := 100070) rfl rfl Try.isAgg63 Try.sizeOf63 rfl rfl) ?_
  refine g_v rfl r_move ?_
  replace hm := bnd hm
  obtain ⟨x27, hx28, hm⟩ := hm
  refine g_cn ⟨w0, M, (1000, go0, .cells #[.slice A24 x22.fitems.length c25, .slice A14 x12.length c15, .int .i64 x22.flast, .int .i64 o0.fopens] 61 (0, 0)) :: (100030, g1, .cells #[.int .i64 p1] 3 (0, 0)) :: (100070, g11, .cells #[.int .i64 x7.fnumber, .int .i64 x7.fends.a0, .int .i64 x7.fends.a1] 63 (0, 0)) :: H, (1000, ⟨.slice A24 x22.fitems.length c25, 40, 6, x22.fitems.length, x22.fitems.flatMap GItem.enc⟩) :: (1001, ⟨.slice A14 x12.length c15, 63, 3, x12.length, x12.flatMap Gnet_conn.enc⟩) :: R, φ⟩ (fun W h => (ok_front (t := 1000) (t' := 1000) (ok_frontR (t := 1000) (t' := 1000) (ok_frontR (t := 1001) (t' := 1001) h rfl) rfl) rfl)) Try.call33 rfl rfl (c_net_Net_closed x7 x7.fends.a1 go0 (⟨x22.fitems, x12, x22.flast, o0.fopens⟩ : Gnet_Net) A24 c25 hc25 A14 c15 hc15 _ hx28) (fun ⟨A29, c30⟩ hc30 => ?_)
  refine g_sta _ (fun W h => (ok_frontR (t := 2000) (t' := 1000) (ok_frontR (t := 1001) (t' := 1001) (ok_front (t := 1000) (t' := 1000) h rfl) rfl) rfl)) <| g_nil <| d_normal_block <| d_then <| c_region <| g_v rfl (r_add rfl rfl (show IntKind.i64.wrap (1 + 1) = 2 by decide)) <| g_v rfl r_move <| g_nil <| d_rounds ?_
  refine c_flat [(0, .pointer (some ⟨go0, 0, none⟩)), (7, .pointer (some ⟨g11, 0, none⟩)), (46, .agg #[.int .i64 x7.fends.a0, .int .i64 x7.fends.a1]), (47, .int .i64 2)] ⟨rfl, rfl, rfl, rfl, trivial⟩ (fun u => ?_)
  refine c_sta ⟨w0, M, (1000, go0, .cells #[.slice A29 x27.fitems.length c30, .slice A14 x12.length c15, .int .i64 x27.flast, .int .i64 o0.fopens] 61 (0, 0)) :: (100030, g1, .cells #[.int .i64 p1] 3 (0, 0)) :: (100070, g11, .cells #[.int .i64 x7.fnumber, .int .i64 x7.fends.a0, .int .i64 x7.fends.a1] 63 (0, 0)) :: H, (1000, ⟨.slice A29 x27.fitems.length c30, 40, 6, x27.fitems.length, x27.fitems.flatMap GItem.enc⟩) :: (1001, ⟨.slice A14 x12.length c15, 63, 3, x12.length, x12.flatMap Gnet_conn.enc⟩) :: R, φ⟩ (fun _ h => h) <| c_seq <| c_region <| g_v rfl (r_lss rfl rfl) <| g_nil <| d_then <| c_seq <| c_cond0 rfl (by decide) <| c_exit <| d_exit_then ?_
  refine d_exit_then <| d_exit_block <| d_then <| c_seq <| c_region <| g_v rfl r_assign <| g_nil <| d_then <| c_ret ?_
  replace hm := Option.some.inj hm
  subst hm
  refine d_sta _ (fun W h => ok_frontR (t := 1001) (t' := 2001) h rfl) <| d_sta _ (fun W h => ok_frontR (t := 1000) (t' := 2000) h rfl) ?_
  refine d_retC (A29, c30, A14, c15) Try.results14 ?_ ⟨hc30, hc15⟩ (fun W h => ((h.dropH (t := 100030) rfl).dropH (t := 100070) rfl).phi (fun W hφ => hφ)) (.inr rfl)
  refine res_tmp <| res_nil ?_
  exact rfl
noncomputable def m_law08_awake  : Option Bool :=
  (m_net_New).bind fun x1 =>
  (m_net_Net_Send 1 2 (⟨#[97]⟩ : ByteArray) x1).bind fun (z16 : Bool × Gnet_Net) =>
  (m_net_Net_Send 2 1 (⟨#[98]⟩ : ByteArray) (⟨z16.2.fitems, x1.fconns, z16.2.flast, x1.fopens⟩ : Gnet_Net)).bind fun (z23 : Bool × Gnet_Net) =>
  (m_net_Net_Take 1 (⟨z23.2.fitems, x1.fconns, z23.2.flast, x1.fopens⟩ : Gnet_Net)).bind fun (z31 : GItem × Bool × Gnet_Net) =>
  (m_net_Net_Take 0 (⟨z31.2.2.fitems, x1.fconns, z23.2.flast, x1.fopens⟩ : Gnet_Net)).bind fun (z40 : GItem × Bool × Gnet_Net) =>
  (m_net_Net_Take 0 (⟨z40.2.2.fitems, x1.fconns, z23.2.flast, x1.fopens⟩ : Gnet_Net)).bind fun (z49 : GItem × Bool × Gnet_Net) =>
  (m_net_Net_Open 1 2 (⟨z49.2.2.fitems, x1.fconns, z23.2.flast, x1.fopens⟩ : Gnet_Net)).bind fun (z61 : Int × Bool × Gnet_Net) =>
  (m_net_Net_Write z61.1 1 (⟨#[120]⟩ : ByteArray) z61.2.2).bind fun (z68 : Bool × Gnet_Net) =>
  (m_net_Net_Write z61.1 1 (⟨#[121]⟩ : ByteArray) (⟨z68.2.fitems, z61.2.2.fconns, z68.2.flast, z61.2.2.fopens⟩ : Gnet_Net)).bind fun (z75 : Bool × Gnet_Net) =>
  (m_net_Net_Ready (⟨z75.2.fitems, z61.2.2.fconns, z75.2.flast, z61.2.2.fopens⟩ : Gnet_Net)).bind fun x76 =>
  (m_net_Net_Close z61.1 (⟨z75.2.fitems, z61.2.2.fconns, z75.2.flast, z61.2.2.fopens⟩ : Gnet_Net)).bind fun (z90 : Bool × Gnet_Net) =>
  (m_net_Net_Ready (⟨z90.2.fitems, z90.2.fconns, z90.2.flast, z61.2.2.fopens⟩ : Gnet_Net)).bind fun x91 =>
  if z31.1.fBody = (⟨#[98]⟩ : ByteArray) then
    if z31.2.1 = true then
      if z40.1.fBody = (⟨#[97]⟩ : ByteArray) then
        if z40.2.1 = true then
          if z49.2.1 = true then
            some false
          else
            if z61.1 = 1 then
              if z61.2.1 = true then
                if (x76.length : Int) = 1 then
                  (at_ x76 0).bind fun x104 =>
                  if x104.fKind = 2 then
                    if z90.1 = true then
                      if (x91.length : Int) = 2 then
                        (at_ x91 0).bind fun x112 =>
                        if x112.fTo = 1 then
                          (at_ x91 1).bind fun x118 =>
                          if x118.fTo = 2 then
                            (at_ x91 1).bind fun x124 =>
                            some (decide (x124.fKind = 4))
                          else
                            some false
                        else
                          some false
                      else
                        some false
                    else
                      some false
                  else
                    some false
                else
                  some false
              else
                some false
            else
              some false
        else
          some false
      else
        some false
    else
      some false
  else
    some false
theorem c_law08_awake {w0 : World} {M : Nat → Prop} {H : List (Nat × Nat × Obj)} {R : List (Nat × Row)} {φ : World → Prop}  (r : Bool) (hm : m_law08_awake = some r) :
    Cn Try.prog 9 #[] ⟨w0, M, H, R, φ⟩ (fun x : Unit => .bool r) (fun x => True) (fun x => ⟨w0, M, H, R, φ⟩) := by
 unfold m_law08_awake at hm
 refine cn_intro (fn := Try.f9) (N := 119) Try.func9 rfl Try.ntmps9 rfl <| c_seq <| c_region <| g_v rfl r_assign <| g_nil <| d_then <| c_seq <| c_region ?_
 replace hm := bnd hm
 obtain ⟨x1, hx2, hm⟩ := hm
 refine g_cn ⟨w0, M, _, _, φ⟩ (fun _ h => h) Try.call10 rfl rfl (c_net_New  _ hx2) (fun ⟨A3, c4, A6, c7, g9⟩ ⟨hc4, hc7⟩ => ?_)
 refine g_sta _ (fun W h => (ok_frontR (t := 2000) (t' := 100130) (ok_frontR (t := 2001) (t' := 100131) (ok_front (t := 3000) (t' := 100135) h rfl) rfl) rfl)) <| g_v rfl r_assign <| g_nil <| d_then <| c_seq <| c_seq <| c_region <| g_v rfl r_move <| g_v rfl (r_eqlP1 Try.underlying24 rfl rfl) <| g_nil ?_
 refine d_then <| c_cond0 rfl rfl <| c_skip <| d_then <| c_seq <| c_region <| g_v rfl r_move ?_
 replace hm := bnd hm
 obtain ⟨⟨x10, x11⟩, hx12, hm⟩ := hm
 refine g_cn ⟨w0, M, (1000, g9, .cells #[.slice A3 x1.fitems.length c4, .slice A6 x1.fconns.length c7, .int .i64 x1.flast, .int .i64 x1.fopens] 61 (0, 0)) :: H, (1000, ⟨.slice A3 x1.fitems.length c4, 40, 6, x1.fitems.length, x1.fitems.flatMap GItem.enc⟩) :: (1001, ⟨.slice A6 x1.fconns.length c7, 63, 3, x1.fconns.length, x1.fconns.flatMap Gnet_conn.enc⟩) :: R, φ⟩ (fun W h => (ok_front (t := 100135) (t' := 1000) (ok_frontR (t := 100130) (t' := 1000) (ok_frontR (t := 100131) (t' := 1001) h rfl) rfl) rfl)) Try.call15 rfl rfl (c_net_Net_Send 1 2 (⟨#[97]⟩ : ByteArray) g9 x1 A3 c4 hc4 A6 c7 hc7 _ hx12) (fun ⟨A13, c14⟩ hc14 => ?_)
 refine g_sta _ (fun W h => (ok_frontR (t := 2000) (t' := 100130) (ok_frontR (t := 1001) (t' := 100131) (ok_front (t := 1000) (t' := 100135) h rfl) rfl) rfl)) <| g_nil <| d_then <| c_seq <| c_region <| g_v rfl r_move ?_
 replace hm := bnd hm
 obtain ⟨⟨x17, x18⟩, hx19, hm⟩ := hm
 refine g_cn ⟨w0, M, (1000, g9, .cells #[.slice A13 x11.fitems.length c14, .slice A6 x1.fconns.length c7, .int .i64 x11.flast, .int .i64 x1.fopens] 61 (0, 0)) :: H, (1000, ⟨.slice A13 x11.fitems.length c14, 40, 6, x11.fitems.length, x11.fitems.flatMap GItem.enc⟩) :: (1001, ⟨.slice A6 x1.fconns.length c7, 63, 3, x1.fconns.length, x1.fconns.flatMap Gnet_conn.enc⟩) :: R, φ⟩ (fun W h => (ok_front (t := 100135) (t' := 1000) (ok_frontR (t := 100130) (t' := 1000) (ok_frontR (t := 100131) (t' := 1001) h rfl) rfl) rfl)) Try.call15 rfl rfl (c_net_Net_Send 2 1 (⟨#[98]⟩ : ByteArray) g9 (⟨x11.fitems, x1.fconns, x11.flast, x1.fopens⟩ : Gnet_Net) A13 c14 hc14 A6 c7 hc7 _ hx19) (fun ⟨A20, c21⟩ hc21 => ?_)
 refine g_sta _ (fun W h => (ok_frontR (t := 2000) (t' := 100130) (ok_frontR (t := 1001) (t' := 100131) (ok_front (t := 1000) (t' := 100135) h rfl) rfl) rfl)) <| g_nil <| d_then ?_
 refine c_flat [(1, .pointer (some ⟨g9, 0, none⟩))] ⟨rfl, trivial⟩ (fun u => ?_)
 refine c_sta ⟨w0, M, (100135, g9, .cells #[.slice A20 x18.fitems.length c21, .slice A6 x1.fconns.length c7, .int .i64 x18.flast, .int .i64 x1.fopens] 61 (0, 0)) :: H, (100130, ⟨.slice A20 x18.fitems.length c21, 40, 6, x18.fitems.length, x18.fitems.flatMap GItem.enc⟩) :: (100131, ⟨.slice A6 x1.fconns.length c7, 63, 3, x1.fconns.length, x1.fconns.flatMap Gnet_conn.enc⟩) :: R, φ⟩ (fun _ h => h) <| c_seq <| c_region <| g_v rfl r_move ?_
 replace hm := bnd hm
 obtain ⟨⟨x24, x25, x26⟩, hx27, hm⟩ := hm
 refine g_cn ⟨w0, M, (1000, g9, .cells #[.slice A20 x18.fitems.length c21, .slice A6 x1.fconns.length c7, .int .i64 x18.flast, .int .i64 x1.fopens] 61 (0, 0)) :: H, (1000, ⟨.slice A20 x18.fitems.length c21, 40, 6, x18.fitems.length, x18.fitems.flatMap GItem.enc⟩) :: (1001, ⟨.slice A6 x1.fconns.length c7, 63, 3, x1.fconns.length, x1.fconns.flatMap Gnet_conn.enc⟩) :: R, φ⟩ (fun W h => (ok_front (t := 100135) (t' := 1000) (ok_frontR (t := 100130) (t' := 1000) (ok_frontR (t := 100131) (t' := 1001) h rfl) rfl) rfl)) Try.call17 rfl rfl (c_net_Net_Take 1 g9 (⟨x18.fitems, x1.fconns, x18.flast, x1.fopens⟩ : Gnet_Net) A20 c21 hc21 A6 c7 hc7 _ hx27) (fun ⟨A28, c29⟩ hc29 => ?_)
 refine g_sta _ (fun W h => (ok_frontR (t := 2000) (t' := 100130) (ok_frontR (t := 1001) (t' := 100131) (ok_front (t := 1000) (t' := 100135) h rfl) rfl) rfl)) <| g_v rfl r_move <| g_v rfl (r_extract rfl rfl) <| g_v rfl (r_extract rfl rfl) ?_
 refine g_e rfl (e_alloc 100020 Try.zeroValue40) (fun g32 _ => ?_)
 refine g_storeL (tag := 100020) rfl rfl rfl rfl Try.sizeOf40 rfl rfl <| g_v rfl r_assign <| g_nil <| d_then <| c_seq <| c_region <| g_v rfl r_move ?_
 replace hm := bnd hm
 obtain ⟨⟨x33, x34, x35⟩, hx36, hm⟩ := hm
 refine g_cn ⟨w0, M, (1000, g9, .cells #[.slice A28 x26.fitems.length c29, .slice A6 x1.fconns.length c7, .int .i64 x18.flast, .int .i64 x1.fopens] 61 (0, 0)) :: (100020, g32, .cells #[.int .i64 x24.fNumber, .int .i64 x24.fKind, .int .i64 x24.fFrom, .int .i64 x24.fTo, .int .i64 x24.fConn, .string x24.fBody] 40 (0, 0)) :: H, (1000, ⟨.slice A28 x26.fitems.length c29, 40, 6, x26.fitems.length, x26.fitems.flatMap GItem.enc⟩) :: (1001, ⟨.slice A6 x1.fconns.length c7, 63, 3, x1.fconns.length, x1.fconns.flatMap Gnet_conn.enc⟩) :: R, φ⟩ (fun W h => (ok_front (t := 100135) (t' := 1000) (ok_frontR (t := 100130) (t' := 1000) (ok_frontR (t := 100131) (t' := 1001) h rfl) rfl) rfl)) Try.call17 rfl rfl (c_net_Net_Take 0 g9 (⟨x26.fitems, x1.fconns, x18.flast, x1.fopens⟩ : Gnet_Net) A28 c29 hc29 A6 c7 hc7 _ hx36) (fun ⟨A37, c38⟩ hc38 => ?_)
 refine g_sta _ (fun W h => (ok_frontR (t := 2000) (t' := 100130) (ok_frontR (t := 1001) (t' := 100131) (ok_front (t := 1000) (t' := 100135) h rfl) rfl) rfl)) <| g_v rfl r_move <| g_v rfl (r_extract rfl rfl) <| g_v rfl (r_extract rfl rfl) ?_
 refine g_e rfl (e_alloc 100040 Try.zeroValue40) (fun g41 _ => ?_)
 refine g_storeL (tag := 100040) rfl rfl rfl rfl Try.sizeOf40 rfl rfl <| g_v rfl r_assign <| g_nil <| d_then ?_
 refine c_flat [(1, .pointer (some ⟨g9, 0, none⟩)), (2, .pointer (some ⟨g32, 0, none⟩)), (3, .bool x25), (4, .pointer (some ⟨g41, 0, none⟩)), (5, .bool x34)] ⟨rfl, rfl, rfl, rfl, rfl, trivial⟩ (fun u => ?_)
 refine c_sta ⟨w0, M, (100040, g41, .cells #[.int .i64 x33.fNumber, .int .i64 x33.fKind, .int .i64 x33.fFrom, .int .i64 x33.fTo, .int .i64 x33.fConn, .string x33.fBody] 40 (0, 0)) :: (100135, g9, .cells #[.slice A37 x35.fitems.length c38, .slice A6 x1.fconns.length c7, .int .i64 x18.flast, .int .i64 x1.fopens] 61 (0, 0)) :: (100020, g32, .cells #[.int .i64 x24.fNumber, .int .i64 x24.fKind, .int .i64 x24.fFrom, .int .i64 x24.fTo, .int .i64 x24.fConn, .string x24.fBody] 40 (0, 0)) :: H, (100130, ⟨.slice A37 x35.fitems.length c38, 40, 6, x35.fitems.length, x35.fitems.flatMap GItem.enc⟩) :: (100131, ⟨.slice A6 x1.fconns.length c7, 63, 3, x1.fconns.length, x1.fconns.flatMap Gnet_conn.enc⟩) :: R, φ⟩ (fun _ h => h) <| c_seq <| c_region <| g_v rfl r_move ?_
 replace hm := bnd hm
 obtain ⟨⟨x42, x43, x44⟩, hx45, hm⟩ := hm
 refine g_cn ⟨w0, M, (1000, g9, .cells #[.slice A37 x35.fitems.length c38, .slice A6 x1.fconns.length c7, .int .i64 x18.flast, .int .i64 x1.fopens] 61 (0, 0)) :: (100040, g41, .cells #[.int .i64 x33.fNumber, .int .i64 x33.fKind, .int .i64 x33.fFrom, .int .i64 x33.fTo, .int .i64 x33.fConn, .string x33.fBody] 40 (0, 0)) :: (100020, g32, .cells #[.int .i64 x24.fNumber, .int .i64 x24.fKind, .int .i64 x24.fFrom, .int .i64 x24.fTo, .int .i64 x24.fConn, .string x24.fBody] 40 (0, 0)) :: H, (1000, ⟨.slice A37 x35.fitems.length c38, 40, 6, x35.fitems.length, x35.fitems.flatMap GItem.enc⟩) :: (1001, ⟨.slice A6 x1.fconns.length c7, 63, 3, x1.fconns.length, x1.fconns.flatMap Gnet_conn.enc⟩) :: R, φ⟩ (fun W h => (ok_front (t := 100135) (t' := 1000) (ok_frontR (t := 100130) (t' := 1000) (ok_frontR (t := 100131) (t' := 1001) h rfl) rfl) rfl)) Try.call17 rfl rfl (c_net_Net_Take 0 g9 (⟨x35.fitems, x1.fconns, x18.flast, x1.fopens⟩ : Gnet_Net) A37 c38 hc38 A6 c7 hc7 _ hx45) (fun ⟨A46, c47⟩ hc47 => ?_)
 refine g_sta _ (fun W h => (ok_frontR (t := 2000) (t' := 100130) (ok_frontR (t := 1001) (t' := 100131) (ok_front (t := 1000) (t' := 100135) h rfl) rfl) rfl)) <| g_v rfl r_move <| g_v rfl (r_extract rfl rfl) <| g_v rfl (r_extract rfl rfl) ?_
 refine g_e rfl (e_alloc 100060 Try.zeroValue40) (fun g50 _ => ?_)
 refine g_storeL (tag := 100060) rfl rfl rfl rfl Try.sizeOf40 rfl rfl <| g_v rfl r_assign <| g_nil <| d_then <| c_seq <| c_region <| g_v rfl r_move ?_
 replace hm := bnd hm
 obtain ⟨⟨x51, x52, x53⟩, hx54, hm⟩ := hm
 refine g_cn ⟨w0, M, (1000, g9, .cells #[.slice A46 x44.fitems.length c47, .slice A6 x1.fconns.length c7, .int .i64 x18.flast, .int .i64 x1.fopens] 61 (0, 0)) :: (100060, g50, .cells #[.int .i64 x42.fNumber, .int .i64 x42.fKind, .int .i64 x42.fFrom, .int .i64 x42.fTo, .int .i64 x42.fConn, .string x42.fBody] 40 (0, 0)) :: (100040, g41, .cells #[.int .i64 x33.fNumber, .int .i64 x33.fKind, .int .i64 x33.fFrom, .int .i64 x33.fTo, .int .i64 x33.fConn, .string x33.fBody] 40 (0, 0)) :: (100020, g32, .cells #[.int .i64 x24.fNumber, .int .i64 x24.fKind, .int .i64 x24.fFrom, .int .i64 x24.fTo, .int .i64 x24.fConn, .string x24.fBody] 40 (0, 0)) :: H, (1000, ⟨.slice A46 x44.fitems.length c47, 40, 6, x44.fitems.length, x44.fitems.flatMap GItem.enc⟩) :: (1001, ⟨.slice A6 x1.fconns.length c7, 63, 3, x1.fconns.length, x1.fconns.flatMap Gnet_conn.enc⟩) :: R, φ⟩ (fun W h => (ok_front (t := 100135) (t' := 1000) (ok_frontR (t := 100130) (t' := 1000) (ok_frontR (t := 100131) (t' := 1001) h rfl) rfl) rfl)) Try.call12 rfl rfl (c_net_Net_Open 1 2 g9 (⟨x44.fitems, x1.fconns, x18.flast, x1.fopens⟩ : Gnet_Net) A46 c47 hc47 A6 c7 hc7 _ hx54) (fun ⟨A55, c56, A58, c59⟩ ⟨hc56, hc59⟩ => ?_)
 refine g_sta _ (fun W h => (ok_frontR (t := 2000) (t' := 100130) (ok_frontR (t := 2001) (t' := 100131) (ok_front (t := 1000) (t' := 100135) h rfl) rfl) rfl)) <| g_v rfl r_move <| g_v rfl (r_extract rfl rfl) <| g_v rfl (r_extract rfl rfl) <| g_v rfl r_assign <| g_v rfl r_assign <| g_nil <| d_then ?_
 refine c_flat [(1, .pointer (some ⟨g9, 0, none⟩)), (2, .pointer (some ⟨g32, 0, none⟩)), (3, .bool x25), (4, .pointer (some ⟨g41, 0, none⟩)), (5, .bool x34), (7, .bool x43), (8, .int .i64 x51), (9, .bool x52)] ⟨rfl, rfl, rfl, rfl, rfl, rfl, rfl, rfl, trivial⟩ (fun u => ?_)
 refine c_sta ⟨w0, M, (100135, g9, .cells #[.slice A55 x53.fitems.length c56, .slice A58 x53.fconns.length c59, .int .i64 x53.flast, .int .i64 x53.fopens] 61 (0, 0)) :: (100060, g50, .cells #[.int .i64 x42.fNumber, .int .i64 x42.fKind, .int .i64 x42.fFrom, .int .i64 x42.fTo, .int .i64 x42.fConn, .string x42.fBody] 40 (0, 0)) :: (100040, g41, .cells #[.int .i64 x33.fNumber, .int .i64 x33.fKind, .int .i64 x33.fFrom, .int .i64 x33.fTo, .int .i64 x33.fConn, .string x33.fBody] 40 (0, 0)) :: (100020, g32, .cells #[.int .i64 x24.fNumber, .int .i64 x24.fKind, .int .i64 x24.fFrom, .int .i64 x24.fTo, .int .i64 x24.fConn, .string x24.fBody] 40 (0, 0)) :: H, (100130, ⟨.slice A55 x53.fitems.length c56, 40, 6, x53.fitems.length, x53.fitems.flatMap GItem.enc⟩) :: (100131, ⟨.slice A58 x53.fconns.length c59, 63, 3, x53.fconns.length, x53.fconns.flatMap Gnet_conn.enc⟩) :: R, φ⟩ (fun _ h => h) <| c_seq <| c_region <| g_v rfl r_move <| g_v rfl r_move ?_
 replace hm := bnd hm
 obtain ⟨⟨x62, x63⟩, hx64, hm⟩ := hm
 refine g_cn ⟨w0, M, (1000, g9, .cells #[.slice A55 x53.fitems.length c56, .slice A58 x53.fconns.length c59, .int .i64 x53.flast, .int .i64 x53.fopens] 61 (0, 0)) :: (100060, g50, .cells #[.int .i64 x42.fNumber, .int .i64 x42.fKind, .int .i64 x42.fFrom, .int .i64 x42.fTo, .int .i64 x42.fConn, .string x42.fBody] 40 (0, 0)) :: (100040, g41, .cells #[.int .i64 x33.fNumber, .int .i64 x33.fKind, .int .i64 x33.fFrom, .int .i64 x33.fTo, .int .i64 x33.fConn, .string x33.fBody] 40 (0, 0)) :: (100020, g32, .cells #[.int .i64 x24.fNumber, .int .i64 x24.fKind, .int .i64 x24.fFrom, .int .i64 x24.fTo, .int .i64 x24.fConn, .string x24.fBody] 40 (0, 0)) :: H, (1000, ⟨.slice A55 x53.fitems.length c56, 40, 6, x53.fitems.length, x53.fitems.flatMap GItem.enc⟩) :: (1001, ⟨.slice A58 x53.fconns.length c59, 63, 3, x53.fconns.length, x53.fconns.flatMap Gnet_conn.enc⟩) :: R, φ⟩ (fun W h => (ok_front (t := 100135) (t' := 1000) (ok_frontR (t := 100130) (t' := 1000) (ok_frontR (t := 100131) (t' := 1001) h rfl) rfl) rfl)) Try.call13 rfl rfl (c_net_Net_Write x51 1 (⟨#[120]⟩ : ByteArray) g9 x53 A55 c56 hc56 A58 c59 hc59 _ hx64) (fun ⟨A65, c66⟩ hc66 => ?_)
 refine g_sta _ (fun W h => (ok_frontR (t := 2000) (t' := 100130) (ok_frontR (t := 1001) (t' := 100131) (ok_front (t := 1000) (t' := 100135) h rfl) rfl) rfl)) <| g_nil <| d_then <| c_seq <| c_region <| g_v rfl r_move <| g_v rfl r_move ?_
 replace hm := bnd hm
 obtain ⟨⟨x69, x70⟩, hx71, hm⟩ := hm
 refine g_cn ⟨w0, M, (1000, g9, .cells #[.slice A65 x63.fitems.length c66, .slice A58 x53.fconns.length c59, .int .i64 x63.flast, .int .i64 x53.fopens] 61 (0, 0)) :: (100060, g50, .cells #[.int .i64 x42.fNumber, .int .i64 x42.fKind, .int .i64 x42.fFrom, .int .i64 x42.fTo, .int .i64 x42.fConn, .string x42.fBody] 40 (0, 0)) :: (100040, g41, .cells #[.int .i64 x33.fNumber, .int .i64 x33.fKind, .int .i64 x33.fFrom, .int .i64 x33.fTo, .int .i64 x33.fConn, .string x33.fBody] 40 (0, 0)) :: (100020, g32, .cells #[.int .i64 x24.fNumber, .int .i64 x24.fKind, .int .i64 x24.fFrom, .int .i64 x24.fTo, .int .i64 x24.fConn, .string x24.fBody] 40 (0, 0)) :: H, (1000, ⟨.slice A65 x63.fitems.length c66, 40, 6, x63.fitems.length, x63.fitems.flatMap GItem.enc⟩) :: (1001, ⟨.slice A58 x53.fconns.length c59, 63, 3, x53.fconns.length, x53.fconns.flatMap Gnet_conn.enc⟩) :: R, φ⟩ (fun W h => (ok_front (t := 100135) (t' := 1000) (ok_frontR (t := 100130) (t' := 1000) (ok_frontR (t := 100131) (t' := 1001) h rfl) rfl) rfl)) Try.call13 rfl rfl (c_net_Net_Write x51 1 (⟨#[121]⟩ : ByteArray) g9 (⟨x63.fitems, x53.fconns, x63.flast, x53.fopens⟩ : Gnet_Net) A65 c66 hc66 A58 c59 hc59 _ hx71) (fun ⟨A72, c73⟩ hc73 => ?_)
 refine g_sta _ (fun W h => (ok_frontR (t := 2000) (t' := 100130) (ok_frontR (t := 1001) (t' := 100131) (ok_front (t := 1000) (t' := 100135) h rfl) rfl) rfl)) <| g_nil <| d_then <| c_seq <| c_region <| g_v rfl r_move ?_
 replace hm := bnd hm
 obtain ⟨x76, hx77, hm⟩ := hm
 refine g_cn ⟨w0, M, (1000, g9, .cells #[.slice A72 x70.fitems.length c73, .slice A58 x53.fconns.length c59, .int .i64 x70.flast, .int .i64 x53.fopens] 61 (0, 0)) :: (100060, g50, .cells #[.int .i64 x42.fNumber, .int .i64 x42.fKind, .int .i64 x42.fFrom, .int .i64 x42.fTo, .int .i64 x42.fConn, .string x42.fBody] 40 (0, 0)) :: (100040, g41, .cells #[.int .i64 x33.fNumber, .int .i64 x33.fKind, .int .i64 x33.fFrom, .int .i64 x33.fTo, .int .i64 x33.fConn, .string x33.fBody] 40 (0, 0)) :: (100020, g32, .cells #[.int .i64 x24.fNumber, .int .i64 x24.fKind, .int .i64 x24.fFrom, .int .i64 x24.fTo, .int .i64 x24.fConn, .string x24.fBody] 40 (0, 0)) :: H, (1000, ⟨.slice A72 x70.fitems.length c73, 40, 6, x70.fitems.length, x70.fitems.flatMap GItem.enc⟩) :: (1001, ⟨.slice A58 x53.fconns.length c59, 63, 3, x53.fconns.length, x53.fconns.flatMap Gnet_conn.enc⟩) :: R, φ⟩ (fun W h => (ok_front (t := 100135) (t' := 1000) (ok_frontR (t := 100130) (t' := 1000) (ok_frontR (t := 100131) (t' := 1001) h rfl) rfl) rfl)) Try.call25 rfl rfl (c_net_Net_Ready g9 (⟨x70.fitems, x53.fconns, x70.flast, x53.fopens⟩ : Gnet_Net) A72 c73 hc73 A58 c59 hc59 _ hx77) (fun ⟨A78, c79⟩ hc79 => ?_)
 refine g_sta _ (fun W h => (ok_frontR (t := 2000) (t' := 100470) (ok_frontR (t := 1000) (t' := 100130) (ok_frontR (t := 1001) (t' := 100131) (ok_front (t := 1000) (t' := 100135) h rfl) rfl) rfl) rfl)) <| g_v rfl r_assign <| g_nil <| d_then ?_
 refine c_flat [(1, .pointer (some ⟨g9, 0, none⟩)), (2, .pointer (some ⟨g32, 0, none⟩)), (3, .bool x25), (4, .pointer (some ⟨g41, 0, none⟩)), (5, .bool x34), (7, .bool x43), (8, .int .i64 x51), (9, .bool x52), (10, .slice A78 x76.length c79)] ⟨rfl, rfl, rfl, rfl, rfl, rfl, rfl, rfl, rfl, trivial⟩ (fun u => ?_)
 refine c_sta ⟨w0, M, (100135, g9, .cells #[.slice A72 x70.fitems.length c73, .slice A58 x53.fconns.length c59, .int .i64 x70.flast, .int .i64 x53.fopens] 61 (0, 0)) :: (100060, g50, .cells #[.int .i64 x42.fNumber, .int .i64 x42.fKind, .int .i64 x42.fFrom, .int .i64 x42.fTo, .int .i64 x42.fConn, .string x42.fBody] 40 (0, 0)) :: (100040, g41, .cells #[.int .i64 x33.fNumber, .int .i64 x33.fKind, .int .i64 x33.fFrom, .int .i64 x33.fTo, .int .i64 x33.fConn, .string x33.fBody] 40 (0, 0)) :: (100020, g32, .cells #[.int .i64 x24.fNumber, .int .i64 x24.fKind, .int .i64 x24.fFrom, .int .i64 x24.fTo, .int .i64 x24.fConn, .string x24.fBody] 40 (0, 0)) :: H, (100470, ⟨.slice A78 x76.length c79, 40, 6, x76.length, x76.flatMap GItem.enc⟩) :: (100130, ⟨.slice A72 x70.fitems.length c73, 40, 6, x70.fitems.length, x70.fitems.flatMap GItem.enc⟩) :: (100131, ⟨.slice A58 x53.fconns.length c59, 63, 3, x53.fconns.length, x53.fconns.flatMap Gnet_conn.enc⟩) :: R, φ⟩ (fun _ h => h) <| c_seq <| c_region <| g_v rfl r_move <| g_v rfl r_move ?_
 replace hm := bnd hm
 obtain ⟨⟨x81, x82⟩, hx83, hm⟩ := hm
 refine g_cn ⟨w0, M, (1000, g9, .cells #[.slice A72 x70.fitems.length c73, .slice A58 x53.fconns.length c59, .int .i64 x70.flast, .int .i64 x53.fopens] 61 (0, 0)) :: (100060, g50, .cells #[.int .i64 x42.fNumber, .int .i64 x42.fKind, .int .i64 x42.fFrom, .int .i64 x42.fTo, .int .i64 x42.fConn, .string x42.fBody] 40 (0, 0)) :: (100040, g41, .cells #[.int .i64 x33.fNumber, .int .i64 x33.fKind, .int .i64 x33.fFrom, .int .i64 x33.fTo, .int .i64 x33.fConn, .string x33.fBody] 40 (0, 0)) :: (100020, g32, .cells #[.int .i64 x24.fNumber, .int .i64 x24.fKind, .int .i64 x24.fFrom, .int .i64 x24.fTo, .int .i64 x24.fConn, .string x24.fBody] 40 (0, 0)) :: H, (1000, ⟨.slice A72 x70.fitems.length c73, 40, 6, x70.fitems.length, x70.fitems.flatMap GItem.enc⟩) :: (1001, ⟨.slice A58 x53.fconns.length c59, 63, 3, x53.fconns.length, x53.fconns.flatMap Gnet_conn.enc⟩) :: (100470, ⟨.slice A78 x76.length c79, 40, 6, x76.length, x76.flatMap GItem.enc⟩) :: R, φ⟩ (fun W h => (ok_front (t := 100135) (t' := 1000) (ok_frontR (t := 100130) (t' := 1000) (ok_frontR (t := 100131) (t' := 1001) h rfl) rfl) rfl)) Try.call14 rfl rfl (c_net_Net_Close x51 g9 (⟨x70.fitems, x53.fconns, x70.flast, x53.fopens⟩ : Gnet_Net) A72 c73 hc73 A58 c59 hc59 _ hx83) (fun ⟨A84, c85, A87, c88⟩ ⟨hc85, hc88⟩ => ?_)
 refine g_sta _ (fun W h => (ok_frontR (t := 2000) (t' := 100130) (ok_frontR (t := 2001) (t' := 100131) (ok_front (t := 1000) (t' := 100135) h rfl) rfl) rfl)) <| g_v rfl r_assign <| g_nil <| d_then <| c_seq <| c_region <| g_v rfl r_move ?_
 replace hm := bnd hm
 obtain ⟨x91, hx92, hm⟩ := hm
 refine g_cn ⟨w0, M, (1000, g9, .cells #[.slice A84 x82.fitems.length c85, .slice A87 x82.fconns.length c88, .int .i64 x82.flast, .int .i64 x53.fopens] 61 (0, 0)) :: (100060, g50, .cells #[.int .i64 x42.fNumber, .int .i64 x42.fKind, .int .i64 x42.fFrom, .int .i64 x42.fTo, .int .i64 x42.fConn, .string x42.fBody] 40 (0, 0)) :: (100040, g41, .cells #[.int .i64 x33.fNumber, .int .i64 x33.fKind, .int .i64 x33.fFrom, .int .i64 x33.fTo, .int .i64 x33.fConn, .string x33.fBody] 40 (0, 0)) :: (100020, g32, .cells #[.int .i64 x24.fNumber, .int .i64 x24.fKind, .int .i64 x24.fFrom, .int .i64 x24.fTo, .int .i64 x24.fConn, .string x24.fBody] 40 (0, 0)) :: H, (1000, ⟨.slice A84 x82.fitems.length c85, 40, 6, x82.fitems.length, x82.fitems.flatMap GItem.enc⟩) :: (1001, ⟨.slice A87 x82.fconns.length c88, 63, 3, x82.fconns.length, x82.fconns.flatMap Gnet_conn.enc⟩) :: (100470, ⟨.slice A78 x76.length c79, 40, 6, x76.length, x76.flatMap GItem.enc⟩) :: R, φ⟩ (fun W h => (ok_front (t := 100135) (t' := 1000) (ok_frontR (t := 100130) (t' := 1000) (ok_frontR (t := 100131) (t' := 1001) h rfl) rfl) rfl)) Try.call25 rfl rfl (c_net_Net_Ready g9 (⟨x82.fitems, x82.fconns, x82.flast, x53.fopens⟩ : Gnet_Net) A84 c85 hc85 A87 c88 hc88 _ hx92) (fun ⟨A93, c94⟩ hc94 => ?_)
 refine g_sta _ (fun W h => (ok_frontR (t := 2000) (t' := 100520) (ok_frontR (t := 1000) (t' := 100130) (ok_frontR (t := 1001) (t' := 100131) (ok_front (t := 1000) (t' := 100135) h rfl) rfl) rfl) rfl)) <| g_v rfl r_assign <| g_nil <| d_then <| c_seq <| c_region <| g_v rfl (r_field (n := 5) Try.underlying40 rfl Try.sizeOf9 rfl rfl) <| g_v rfl (r_load (tag := 100020) rfl rfl rfl Try.isAgg9) <| g_v rfl (r_eqlT rfl rfl) <| g_v rfl r_move ?_
 refine g_if rfl rfl rfl rfl rfl (fun h96 => ?_) (fun h96 => ?_)
 ·
  replace hm := ite_t hm (of_decide_eq_true h96)
  refine g_v rfl r_move <| g_v rfl (r_pick1 rfl h96) <| g_v rfl r_move ?_
  refine g_if rfl rfl rfl rfl rfl (fun h97 => ?_) (fun h97 => ?_)
  ·
   replace hm := ite_t hm h97
   refine g_v rfl (r_field (n := 5) Try.underlying40 rfl Try.sizeOf9 rfl rfl) <| g_do rfl rfl rfl rfl rfl h97 <| g_v rfl (r_load (tag := 100040) rfl rfl rfl Try.isAgg9) <| g_do rfl rfl rfl rfl rfl h97 <| g_v rfl (r_eqlT rfl rfl) <| g_v rfl (r_pick1 rfl h97) <| g_v rfl r_move ?_
   refine g_if rfl rfl rfl rfl rfl (fun h98 => ?_) (fun h98 => ?_)
   ·
    replace hm := ite_t hm (of_decide_eq_true h98)
    refine g_v rfl r_move <| g_v rfl (r_pick1 rfl h98) <| g_v rfl r_move ?_
    refine g_if rfl rfl rfl rfl rfl (fun h99 => ?_) (fun h99 => ?_)
    ·
     replace hm := ite_t hm h99
     refine g_v rfl r_move <| g_do rfl rfl rfl rfl rfl h99 <| g_v rfl (r_not rfl) <| g_v rfl (r_pick1 rfl h99) <| g_v rfl r_move ?_
     refine g_if rfl rfl rfl rfl rfl (fun h100 => ?_) (fun h100 => ?_)
     ·
      have h100' : x43 = false := by revert h100; cases x43 <;> simp
      replace hm := ite_f hm (bool_nt h100')
      refine g_v rfl r_move <| g_do rfl rfl rfl rfl rfl h100 <| g_v rfl (r_eql rfl rfl) <| g_v rfl (r_pick1 rfl h100) <| g_v rfl r_move ?_
      refine g_if rfl rfl rfl rfl rfl (fun h101 => ?_) (fun h101 => ?_)
      ·
       replace hm := ite_t hm (of_decide_eq_true h101)
       refine g_v rfl r_move <| g_v rfl (r_pick1 rfl h101) <| g_v rfl r_move ?_
       refine g_if rfl rfl rfl rfl rfl (fun h102 => ?_) (fun h102 => ?_)
       ·
        replace hm := ite_t hm h102
        refine g_v rfl r_move <| g_do rfl rfl rfl rfl rfl h102 <| g_v rfl (r_lenL Try.underlying52 rfl) <| g_do rfl rfl rfl rfl rfl h102 <| g_v rfl (r_eql rfl rfl) <| g_v rfl (r_pick1 rfl h102) <| g_v rfl r_move ?_
        refine g_if rfl rfl rfl rfl rfl (fun h103 => ?_) (fun h103 => ?_)
        ·
         replace hm := ite_t hm (of_decide_eq_true h103)
         refine g_v rfl r_move <| g_do rfl rfl rfl rfl rfl h103 ?_
         replace hm := bnd hm
         obtain ⟨x104, hx104, hm⟩ := hm
         refine g_know _ (fun W hS => cl_at (p := (Sta.ok ⟨w0, M, (100135, g9, .cells #[.slice A84 x82.fitems.length c85, .slice A87 x82.fconns.length c88, .int .i64 x82.flast, .int .i64 x53.fopens] 61 (0, 0)) :: (100060, g50, .cells #[.int .i64 x42.fNumber, .int .i64 x42.fKind, .int .i64 x42.fFrom, .int .i64 x42.fTo, .int .i64 x42.fConn, .string x42.fBody] 40 (0, 0)) :: (100040, g41, .cells #[.int .i64 x33.fNumber, .int .i64 x33.fKind, .int .i64 x33.fFrom, .int .i64 x33.fTo, .int .i64 x33.fConn, .string x33.fBody] 40 (0, 0)) :: (100020, g32, .cells #[.int .i64 x24.fNumber, .int .i64 x24.fKind, .int .i64 x24.fFrom, .int .i64 x24.fTo, .int .i64 x24.fConn, .string x24.fBody] 40 (0, 0)) :: H, (100520, ⟨.slice A93 x91.length c94, 40, 6, x91.length, x91.flatMap GItem.enc⟩) :: (100130, ⟨.slice A84 x82.fitems.length c85, 40, 6, x82.fitems.length, x82.fitems.flatMap GItem.enc⟩) :: (100131, ⟨.slice A87 x82.fconns.length c88, 63, 3, x82.fconns.length, x82.fconns.flatMap Gnet_conn.enc⟩) :: (100470, ⟨.slice A78 x76.length c79, 40, 6, x76.length, x76.flatMap GItem.enc⟩) :: R, φ⟩)) (sz := 6) (fun _ => rfl) (by decide) hS (fun W hS => rowCl (S := ⟨w0, M, (100135, g9, .cells #[.slice A84 x82.fitems.length c85, .slice A87 x82.fconns.length c88, .int .i64 x82.flast, .int .i64 x53.fopens] 61 (0, 0)) :: (100060, g50, .cells #[.int .i64 x42.fNumber, .int .i64 x42.fKind, .int .i64 x42.fFrom, .int .i64 x42.fTo, .int .i64 x42.fConn, .string x42.fBody] 40 (0, 0)) :: (100040, g41, .cells #[.int .i64 x33.fNumber, .int .i64 x33.fKind, .int .i64 x33.fFrom, .int .i64 x33.fTo, .int .i64 x33.fConn, .string x33.fBody] 40 (0, 0)) :: (100020, g32, .cells #[.int .i64 x24.fNumber, .int .i64 x24.fKind, .int .i64 x24.fFrom, .int .i64 x24.fTo, .int .i64 x24.fConn, .string x24.fBody] 40 (0, 0)) :: H, (100520, ⟨.slice A93 x91.length c94, 40, 6, x91.length, x91.flatMap GItem.enc⟩) :: (100130, ⟨.slice A84 x82.fitems.length c85, 40, 6, x82.fitems.length, x82.fitems.flatMap GItem.enc⟩) :: (100131, ⟨.slice A87 x82.fconns.length c88, 63, 3, x82.fconns.length, x82.fconns.flatMap Gnet_conn.enc⟩) :: (100470, ⟨.slice A78 x76.length c79, 40, 6, x76.length, x76.flatMap GItem.enc⟩) :: R, φ⟩) (tag := 100470) rfl W hS) hx104) ?_
         rintro ⟨ad105, hA107, f106⟩
         refine g_v rfl (r_ix Try.underlying52 Try.sizeOf40 rfl hA107 rfl hx104) <| g_do rfl rfl rfl rfl rfl h103 ?_
         have f108 := fun (W : World) (h : (Sta.ok ⟨w0, M, (100135, g9, .cells #[.slice A84 x82.fitems.length c85, .slice A87 x82.fconns.length c88, .int .i64 x82.flast, .int .i64 x53.fopens] 61 (0, 0)) :: (100060, g50, .cells #[.int .i64 x42.fNumber, .int .i64 x42.fKind, .int .i64 x42.fFrom, .int .i64 x42.fTo, .int .i64 x42.fConn, .string x42.fBody] 40 (0, 0)) :: (100040, g41, .cells #[.int .i64 x33.fNumber, .int .i64 x33.fKind, .int .i64 x33.fFrom, .int .i64 x33.fTo, .int .i64 x33.fConn, .string x33.fBody] 40 (0, 0)) :: (100020, g32, .cells #[.int .i64 x24.fNumber, .int .i64 x24.fKind, .int .i64 x24.fFrom, .int .i64 x24.fTo, .int .i64 x24.fConn, .string x24.fBody] 40 (0, 0)) :: H, (100520, ⟨.slice A93 x91.length c94, 40, 6, x91.length, x91.flatMap GItem.enc⟩) :: (100130, ⟨.slice A84 x82.fitems.length c85, 40, 6, x82.fitems.length, x82.fitems.flatMap GItem.enc⟩) :: (100131, ⟨.slice A87 x82.fconns.length c88, 63, 3, x82.fconns.length, x82.fconns.flatMap Gnet_conn.enc⟩) :: (100470, ⟨.slice A78 x76.length c79, 40, 6, x76.length, x76.flatMap GItem.enc⟩) :: R, φ⟩) W) => Cl.drop (f106 W h) 1
         refine g_v rfl (r_fieldF Try.underlying40 rfl Try.sizeOf3 rfl) <| g_do rfl rfl rfl rfl rfl h103 <| g_v rfl (r_ld rfl Try.isAgg3 (fun W hS => Cl.head (f108 W hS))) <| g_do rfl rfl rfl rfl rfl h103 <| g_v rfl (r_eql rfl rfl) <| g_v rfl (r_pick1 rfl h103) <| g_v rfl r_move ?_
         refine g_if rfl rfl rfl rfl rfl (fun h109 => ?_) (fun h109 => ?_)
         ·
          replace hm := ite_t hm (of_decide_eq_true h109)
          refine g_v rfl r_move <| g_v rfl (r_pick1 rfl h109) <| g_v rfl r_move ?_
          refine g_if rfl rfl rfl rfl rfl (fun h110 => ?_) (fun h110 => ?_)
          ·
           replace hm := ite_t hm h110
           refine g_v rfl r_move <| g_do rfl rfl rfl rfl rfl h110 <| g_v rfl (r_lenL Try.underlying52 rfl) <| g_do rfl rfl rfl rfl rfl h110 <| g_v rfl (r_eql rfl rfl) <| g_v rfl (r_pick1 rfl h110) <| g_v rfl r_move ?_
           refine g_if rfl rfl rfl rfl rfl (fun h111 => ?_) (fun h111 => ?_)
           ·
            replace hm := ite_t hm (of_decide_eq_true h111)
            refine g_v rfl r_move <| g_do rfl rfl rfl rfl rfl h111 ?_
            replace hm := bnd hm
            obtain ⟨x112, hx112, hm⟩ := hm
            refine g_know _ (fun W hS => cl_at (p := (Sta.ok ⟨w0, M, (100135, g9, .cells #[.slice A84 x82.fitems.length c85, .slice A87 x82.fconns.length c88, .int .i64 x82.flast, .int .i64 x53.fopens] 61 (0, 0)) :: (100060, g50, .cells #[.int .i64 x42.fNumber, .int .i64 x42.fKind, .int .i64 x42.fFrom, .int .i64 x42.fTo, .int .i64 x42.fConn, .string x42.fBody] 40 (0, 0)) :: (100040, g41, .cells #[.int .i64 x33.fNumber, .int .i64 x33.fKind, .int .i64 x33.fFrom, .int .i64 x33.fTo, .int .i64 x33.fConn, .string x33.fBody] 40 (0, 0)) :: (100020, g32, .cells #[.int .i64 x24.fNumber, .int .i64 x24.fKind, .int .i64 x24.fFrom, .int .i64 x24.fTo, .int .i64 x24.fConn, .string x24.fBody] 40 (0, 0)) :: H, (100520, ⟨.slice A93 x91.length c94, 40, 6, x91.length, x91.flatMap GItem.enc⟩) :: (100130, ⟨.slice A84 x82.fitems.length c85, 40, 6, x82.fitems.length, x82.fitems.flatMap GItem.enc⟩) :: (100131, ⟨.slice A87 x82.fconns.length c88, 63, 3, x82.fconns.length, x82.fconns.flatMap Gnet_conn.enc⟩) :: (100470, ⟨.slice A78 x76.length c79, 40, 6, x76.length, x76.flatMap GItem.enc⟩) :: R, φ⟩)) (sz := 6) (fun _ => rfl) (by decide) hS (fun W hS => rowCl (S := ⟨w0, M, (100135, g9, .cells #[.slice A84 x82.fitems.length c85, .slice A87 x82.fconns.length c88, .int .i64 x82.flast, .int .i64 x53.fopens] 61 (0, 0)) :: (100060, g50, .cells #[.int .i64 x42.fNumber, .int .i64 x42.fKind, .int .i64 x42.fFrom, .int .i64 x42.fTo, .int .i64 x42.fConn, .string x42.fBody] 40 (0, 0)) :: (100040, g41, .cells #[.int .i64 x33.fNumber, .int .i64 x33.fKind, .int .i64 x33.fFrom, .int .i64 x33.fTo, .int .i64 x33.fConn, .string x33.fBody] 40 (0, 0)) :: (100020, g32, .cells #[.int .i64 x24.fNumber, .int .i64 x24.fKind, .int .i64 x24.fFrom, .int .i64 x24.fTo, .int .i64 x24.fConn, .string x24.fBody] 40 (0, 0)) :: H, (100520, ⟨.slice A93 x91.length c94, 40, 6, x91.length, x91.flatMap GItem.enc⟩) :: (100130, ⟨.slice A84 x82.fitems.length c85, 40, 6, x82.fitems.length, x82.fitems.flatMap GItem.enc⟩) :: (100131, ⟨.slice A87 x82.fconns.length c88, 63, 3, x82.fconns.length, x82.fconns.flatMap Gnet_conn.enc⟩) :: (100470, ⟨.slice A78 x76.length c79, 40, 6, x76.length, x76.flatMap GItem.enc⟩) :: R, φ⟩) (tag := 100520) rfl W hS) hx112) ?_
            rintro ⟨ad113, hA115, f114⟩
            refine g_v rfl (r_ix Try.underlying52 Try.sizeOf40 rfl hA115 rfl hx112) <| g_do rfl rfl rfl rfl rfl h111 ?_
            have f116 := fun (W : World) (h : (Sta.ok ⟨w0, M, (100135, g9, .cells #[.slice A84 x82.fitems.length c85, .slice A87 x82.fconns.length c88, .int .i64 x82.flast, .int .i64 x53.fopens] 61 (0, 0)) :: (100060, g50, .cells #[.int .i64 x42.fNumber, .int .i64 x42.fKind, .int .i64 x42.fFrom, .int .i64 x42.fTo, .int .i64 x42.fConn, .string x42.fBody] 40 (0, 0)) :: (100040, g41, .cells #[.int .i64 x33.fNumber, .int .i64 x33.fKind, .int .i64 x33.fFrom, .int .i64 x33.fTo, .int .i64 x33.fConn, .string x33.fBody] 40 (0, 0)) :: (100020, g32, .cells #[.int .i64 x24.fNumber, .int .i64 x24.fKind, .int .i64 x24.fFrom, .int .i64 x24.fTo, .int .i64 x24.fConn, .string x24.fBody] 40 (0, 0)) :: H, (100520, ⟨.slice A93 x91.length c94, 40, 6, x91.length, x91.flatMap GItem.enc⟩) :: (100130, ⟨.slice A84 x82.fitems.length c85, 40, 6, x82.fitems.length, x82.fitems.flatMap GItem.enc⟩) :: (100131, ⟨.slice A87 x82.fconns.length c88, 63, 3, x82.fconns.length, x82.fconns.flatMap Gnet_conn.enc⟩) :: (100470, ⟨.slice A78 x76.length c79, 40, 6, x76.length, x76.flatMap GItem.enc⟩) :: R, φ⟩) W) => Cl.drop (f114 W h) 3
            refine g_v rfl (r_fieldF Try.underlying40 rfl Try.sizeOf3 rfl) <| g_do rfl rfl rfl rfl rfl h111 <| g_v rfl (r_ld rfl Try.isAgg3 (fun W hS => Cl.head (f116 W hS))) <| g_do rfl rfl rfl rfl rfl h111 <| g_v rfl (r_eql rfl rfl) <| g_v rfl (r_pick1 rfl h111) <| g_v rfl r_move ?_
            refine g_if rfl rfl rfl rfl rfl (fun h117 => ?_) (fun h117 => ?_)
            ·
             replace hm := ite_t hm (of_decide_eq_true h117)
             refine g_v rfl r_move <| g_do rfl rfl rfl rfl rfl h117 ?_
             replace hm := bnd hm
             obtain ⟨x118, hx118, hm⟩ := hm
             refine g_know _ (fun W hS => cl_at (p := (Sta.ok ⟨w0, M, (100135, g9, .cells #[.slice A84 x82.fitems.length c85, .slice A87 x82.fconns.length c88, .int .i64 x82.flast, .int .i64 x53.fopens] 61 (0, 0)) :: (100060, g50, .cells #[.int .i64 x42.fNumber, .int .i64 x42.fKind, .int .i64 x42.fFrom, .int .i64 x42.fTo, .int .i64 x42.fConn, .string x42.fBody] 40 (0, 0)) :: (100040, g41, .cells #[.int .i64 x33.fNumber, .int .i64 x33.fKind, .int .i64 x33.fFrom, .int .i64 x33.fTo, .int .i64 x33.fConn, .string x33.fBody] 40 (0, 0)) :: (100020, g32, .cells #[.int .i64 x24.fNumber, .int .i64 x24.fKind, .int .i64 x24.fFrom, .int .i64 x24.fTo, .int .i64 x24.fConn, .string x24.fBody] 40 (0, 0)) :: H, (100520, ⟨.slice A93 x91.length c94, 40, 6, x91.length, x91.flatMap GItem.enc⟩) :: (100130, ⟨.slice A84 x82.fitems.length c85, 40, 6, x82.fitems.length, x82.fitems.flatMap GItem.enc⟩) :: (100131, ⟨.slice A87 x82.fconns.length c88, 63, 3, x82.fconns.length, x82.fconns.flatMap Gnet_conn.enc⟩) :: (100470, ⟨.slice A78 x76.length c79, 40, 6, x76.length, x76.flatMap GItem.enc⟩) :: R, φ⟩)) (sz := 6) (fun _ => rfl) (by decide) hS (fun W hS => rowCl (S := ⟨w0, M, (100135, g9, .cells #[.slice A84 x82.fitems.length c85, .slice A87 x82.fconns.length c88, .int .i64 x82.flast, .int .i64 x53.fopens] 61 (0, 0)) :: (100060, g50, .cells #[.int .i64 x42.fNumber, .int .i64 x42.fKind, .int .i64 x42.fFrom, .int .i64 x42.fTo, .int .i64 x42.fConn, .string x42.fBody] 40 (0, 0)) :: (100040, g41, .cells #[.int .i64 x33.fNumber, .int .i64 x33.fKind, .int .i64 x33.fFrom, .int .i64 x33.fTo, .int .i64 x33.fConn, .string x33.fBody] 40 (0, 0)) :: (100020, g32, .cells #[.int .i64 x24.fNumber, .int .i64 x24.fKind, .int .i64 x24.fFrom, .int .i64 x24.fTo, .int .i64 x24.fConn, .string x24.fBody] 40 (0, 0)) :: H, (100520, ⟨.slice A93 x91.length c94, 40, 6, x91.length, x91.flatMap GItem.enc⟩) :: (100130, ⟨.slice A84 x82.fitems.length c85, 40, 6, x82.fitems.length, x82.fitems.flatMap GItem.enc⟩) :: (100131, ⟨.slice A87 x82.fconns.length c88, 63, 3, x82.fconns.length, x82.fconns.flatMap Gnet_conn.enc⟩) :: (100470, ⟨.slice A78 x76.length c79, 40, 6, x76.length, x76.flatMap GItem.enc⟩) :: R, φ⟩) (tag := 100520) rfl W hS) hx118) ?_
             rintro ⟨ad119, hA121, f120⟩
             refine g_v rfl (r_ix Try.underlying52 Try.sizeOf40 rfl hA121 rfl hx118) <| g_do rfl rfl rfl rfl rfl h117 ?_
             have f122 := fun (W : World) (h : (Sta.ok ⟨w0, M, (100135, g9, .cells #[.slice A84 x82.fitems.length c85, .slice A87 x82.fconns.length c88, .int .i64 x82.flast, .int .i64 x53.fopens] 61 (0, 0)) :: (100060, g50, .cells #[.int .i64 x42.fNumber, .int .i64 x42.fKind, .int .i64 x42.fFrom, .int .i64 x42.fTo, .int .i64 x42.fConn, .string x42.fBody] 40 (0, 0)) :: (100040, g41, .cells #[.int .i64 x33.fNumber, .int .i64 x33.fKind, .int .i64 x33.fFrom, .int .i64 x33.fTo, .int .i64 x33.fConn, .string x33.fBody] 40 (0, 0)) :: (100020, g32, .cells #[.int .i64 x24.fNumber, .int .i64 x24.fKind, .int .i64 x24.fFrom, .int .i64 x24.fTo, .int .i64 x24.fConn, .string x24.fBody] 40 (0, 0)) :: H, (100520, ⟨.slice A93 x91.length c94, 40, 6, x91.length, x91.flatMap GItem.enc⟩) :: (100130, ⟨.slice A84 x82.fitems.length c85, 40, 6, x82.fitems.length, x82.fitems.flatMap GItem.enc⟩) :: (100131, ⟨.slice A87 x82.fconns.length c88, 63, 3, x82.fconns.length, x82.fconns.flatMap Gnet_conn.enc⟩) :: (100470, ⟨.slice A78 x76.length c79, 40, 6, x76.length, x76.flatMap GItem.enc⟩) :: R, φ⟩) W) => Cl.drop (f120 W h) 3
             refine g_v rfl (r_fieldF Try.underlying40 rfl Try.sizeOf3 rfl) <| g_do rfl rfl rfl rfl rfl h117 <| g_v rfl (r_ld rfl Try.isAgg3 (fun W hS => Cl.head (f122 W hS))) <| g_do rfl rfl rfl rfl rfl h117 <| g_v rfl (r_eql rfl rfl) <| g_v rfl (r_pick1 rfl h117) <| g_v rfl r_move ?_
             refine g_if rfl rfl rfl rfl rfl (fun h123 => ?_) (fun h123 => ?_)
             ·
              replace hm := ite_t hm (of_decide_eq_true h123)
              refine g_v rfl r_move <| g_do rfl rfl rfl rfl rfl h123 ?_
              replace hm := bnd hm
              obtain ⟨x124, hx124, hm⟩ := hm
              refine g_know _ (fun W hS => cl_at (p := (Sta.ok ⟨w0, M, (100135, g9, .cells #[.slice A84 x82.fitems.length c85, .slice A87 x82.fconns.length c88, .int .i64 x82.flast, .int .i64 x53.fopens] 61 (0, 0)) :: (100060, g50, .cells #[.int .i64 x42.fNumber, .int .i64 x42.fKind, .int .i64 x42.fFrom, .int .i64 x42.fTo, .int .i64 x42.fConn, .string x42.fBody] 40 (0, 0)) :: (100040, g41, .cells #[.int .i64 x33.fNumber, .int .i64 x33.fKind, .int .i64 x33.fFrom, .int .i64 x33.fTo, .int .i64 x33.fConn, .string x33.fBody] 40 (0, 0)) :: (100020, g32, .cells #[.int .i64 x24.fNumber, .int .i64 x24.fKind, .int .i64 x24.fFrom, .int .i64 x24.fTo, .int .i64 x24.fConn, .string x24.fBody] 40 (0, 0)) :: H, (100520, ⟨.slice A93 x91.length c94, 40, 6, x91.length, x91.flatMap GItem.enc⟩) :: (100130, ⟨.slice A84 x82.fitems.length c85, 40, 6, x82.fitems.length, x82.fitems.flatMap GItem.enc⟩) :: (100131, ⟨.slice A87 x82.fconns.length c88, 63, 3, x82.fconns.length, x82.fconns.flatMap Gnet_conn.enc⟩) :: (100470, ⟨.slice A78 x76.length c79, 40, 6, x76.length, x76.flatMap GItem.enc⟩) :: R, φ⟩)) (sz := 6) (fun _ => rfl) (by decide) hS (fun W hS => rowCl (S := ⟨w0, M, (100135, g9, .cells #[.slice A84 x82.fitems.length c85, .slice A87 x82.fconns.length c88, .int .i64 x82.flast, .int .i64 x53.fopens] 61 (0, 0)) :: (100060, g50, .cells #[.int .i64 x42.fNumber, .int .i64 x42.fKind, .int .i64 x42.fFrom, .int .i64 x42.fTo, .int .i64 x42.fConn, .string x42.fBody] 40 (0, 0)) :: (100040, g41, .cells #[.int .i64 x33.fNumber, .int .i64 x33.fKind, .int .i64 x33.fFrom, .int .i64 x33.fTo, .int .i64 x33.fConn, .string x33.fBody] 40 (0, 0)) :: (100020, g32, .cells #[.int .i64 x24.fNumber, .int .i64 x24.fKind, .int .i64 x24.fFrom, .int .i64 x24.fTo, .int .i64 x24.fConn, .string x24.fBody] 40 (0, 0)) :: H, (100520, ⟨.slice A93 x91.length c94, 40, 6, x91.length, x91.flatMap GItem.enc⟩) :: (100130, ⟨.slice A84 x82.fitems.length c85, 40, 6, x82.fitems.length, x82.fitems.flatMap GItem.enc⟩) :: (100131, ⟨.slice A87 x82.fconns.length c88, 63, 3, x82.fconns.length, x82.fconns.flatMap Gnet_conn.enc⟩) :: (100470, ⟨.slice A78 x76.length c79, 40, 6, x76.length, x76.flatMap GItem.enc⟩) :: R, φ⟩) (tag := 100520) rfl W hS) hx124) ?_
              rintro ⟨ad125, hA127, f126⟩
              refine g_v rfl (r_ix Try.underlying52 Try.sizeOf40 rfl hA127 rfl hx124) <| g_do rfl rfl rfl rfl rfl h123 ?_
              have f128 := fun (W : World) (h : (Sta.ok ⟨w0, M, (100135, g9, .cells #[.slice A84 x82.fitems.length c85, .slice A87 x82.fconns.length c88, .int .i64 x82.flast, .int .i64 x53.fopens] 61 (0, 0)) :: (100060, g50, .cells #[.int .i64 x42.fNumber, .int .i64 x42.fKind, .int .i64 x42.fFrom, .int .i64 x42.fTo, .int .i64 x42.fConn, .string x42.fBody] 40 (0, 0)) :: (100040, g41, .cells #[.int .i64 x33.fNumber, .int .i64 x33.fKind, .int .i64 x33.fFrom, .int .i64 x33.fTo, .int .i64 x33.fConn, .string x33.fBody] 40 (0, 0)) :: (100020, g32, .cells #[.int .i64 x24.fNumber, .int .i64 x24.fKind, .int .i64 x24.fFrom, .int .i64 x24.fTo, .int .i64 x24.fConn, .string x24.fBody] 40 (0, 0)) :: H, (100520, ⟨.slice A93 x91.length c94, 40, 6, x91.length, x91.flatMap GItem.enc⟩) :: (100130, ⟨.slice A84 x82.fitems.length c85, 40, 6, x82.fitems.length, x82.fitems.flatMap GItem.enc⟩) :: (100131, ⟨.slice A87 x82.fconns.length c88, 63, 3, x82.fconns.length, x82.fconns.flatMap Gnet_conn.enc⟩) :: (100470, ⟨.slice A78 x76.length c79, 40, 6, x76.length, x76.flatMap GItem.enc⟩) :: R, φ⟩) W) => Cl.drop (f126 W h) 1
              refine g_v rfl (r_fieldF Try.underlying40 rfl Try.sizeOf3 rfl) <| g_do rfl rfl rfl rfl rfl h123 <| g_v rfl (r_ld rfl Try.isAgg3 (fun W hS => Cl.head (f128 W hS))) <| g_do rfl rfl rfl rfl rfl h123 <| g_v rfl (r_eql rfl rfl) <| g_v rfl (r_pick1 rfl h123) <| g_v rfl r_assign <| g_nil <| d_then ?_
              refine c_flat [(0, .bool (decide (x124.fKind = 4)))] ⟨rfl, trivial⟩ (fun u => ?_)
              refine c_sta ⟨w0, M, (100135, g9, .cells #[.slice A84 x82.fitems.length c85, .slice A87 x82.fconns.length c88, .int .i64 x82.flast, .int .i64 x53.fopens] 61 (0, 0)) :: (100060, g50, .cells #[.int .i64 x42.fNumber, .int .i64 x42.fKind, .int .i64 x42.fFrom, .int .i64 x42.fTo, .int .i64 x42.fConn, .string x42.fBody] 40 (0, 0)) :: (100040, g41, .cells #[.int .i64 x33.fNumber, .int .i64 x33.fKind, .int .i64 x33.fFrom, .int .i64 x33.fTo, .int .i64 x33.fConn, .string x33.fBody] 40 (0, 0)) :: (100020, g32, .cells #[.int .i64 x24.fNumber, .int .i64 x24.fKind, .int .i64 x24.fFrom, .int .i64 x24.fTo, .int .i64 x24.fConn, .string x24.fBody] 40 (0, 0)) :: H, (100520, ⟨.slice A93 x91.length c94, 40, 6, x91.length, x91.flatMap GItem.enc⟩) :: (100130, ⟨.slice A84 x82.fitems.length c85, 40, 6, x82.fitems.length, x82.fitems.flatMap GItem.enc⟩) :: (100131, ⟨.slice A87 x82.fconns.length c88, 63, 3, x82.fconns.length, x82.fconns.flatMap Gnet_conn.enc⟩) :: (100470, ⟨.slice A78 x76.length c79, 40, 6, x76.length, x76.flatMap GItem.enc⟩) :: R, φ⟩ (fun _ h => h) <| c_ret ?_
              replace hm := Option.some.inj hm
              subst hm
              refine d_retC () Try.results9 ?_ trivial (fun W h => ok_pre (H1 := [_, _, _, _]) (R1 := [_, _, _, _]) h (fun W hφ => hφ)) (.inr rfl)
              refine res_tmp <| res_nil ?_
              exact rfl
             ·
              replace hm := ite_f hm (of_decide_eq_false h123)
              refine g_no rfl rfl rfl rfl rfl h123 <| g_no rfl rfl rfl rfl rfl h123 <| g_no rfl rfl rfl rfl rfl h123 <| g_no rfl rfl rfl rfl rfl h123 <| g_v rfl (r_pick0 rfl h123) <| g_v rfl r_assign <| g_nil <| d_then ?_
              refine c_flat [(0, .bool false)] ⟨rfl, trivial⟩ (fun u => ?_)
              refine c_sta ⟨w0, M, (100135, g9, .cells #[.slice A84 x82.fitems.length c85, .slice A87 x82.fconns.length c88, .int .i64 x82.flast, .int .i64 x53.fopens] 61 (0, 0)) :: (100060, g50, .cells #[.int .i64 x42.fNumber, .int .i64 x42.fKind, .int .i64 x42.fFrom, .int .i64 x42.fTo, .int .i64 x42.fConn, .string x42.fBody] 40 (0, 0)) :: (100040, g41, .cells #[.int .i64 x33.fNumber, .int .i64 x33.fKind, .int .i64 x33.fFrom, .int .i64 x33.fTo, .int .i64 x33.fConn, .string x33.fBody] 40 (0, 0)) :: (100020, g32, .cells #[.int .i64 x24.fNumber, .int .i64 x24.fKind, .int .i64 x24.fFrom, .int .i64 x24.fTo, .int .i64 x24.fConn, .string x24.fBody] 40 (0, 0)) :: H, (100520, ⟨.slice A93 x91.length c94, 40, 6, x91.length, x91.flatMap GItem.enc⟩) :: (100130, ⟨.slice A84 x82.fitems.length c85, 40, 6, x82.fitems.length, x82.fitems.flatMap GItem.enc⟩) :: (100131, ⟨.slice A87 x82.fconns.length c88, 63, 3, x82.fconns.length, x82.fconns.flatMap Gnet_conn.enc⟩) :: (100470, ⟨.slice A78 x76.length c79, 40, 6, x76.length, x76.flatMap GItem.enc⟩) :: R, φ⟩ (fun _ h => h) <| c_ret ?_
              replace hm := Option.some.inj hm
              subst hm
              refine d_retC () Try.results9 ?_ trivial (fun W h => ok_pre (H1 := [_, _, _, _]) (R1 := [_, _, _, _]) h (fun W hφ => hφ)) (.inr rfl)
              refine res_tmp <| res_nil ?_
              exact rfl
            ·
             replace hm := ite_f hm (of_decide_eq_false h117)
             refine g_no rfl rfl rfl rfl rfl h117 <| g_no rfl rfl rfl rfl rfl h117 <| g_no rfl rfl rfl rfl rfl h117 <| g_no rfl rfl rfl rfl rfl h117 <| g_v rfl (r_pick0 rfl h117) <| g_v rfl r_move <| g_no rfl rfl rfl rfl rfl rfl <| g_no rfl rfl rfl rfl rfl rfl <| g_no rfl rfl rfl rfl rfl rfl <| g_no rfl rfl rfl rfl rfl rfl ?_
             refine g_no rfl rfl rfl rfl rfl rfl <| g_v rfl (r_pick0 rfl rfl) <| g_v rfl r_assign <| g_nil <| d_then ?_
             refine c_flat [(0, .bool false)] ⟨rfl, trivial⟩ (fun u => ?_)
             refine c_sta ⟨w0, M, (100135, g9, .cells #[.slice A84 x82.fitems.length c85, .slice A87 x82.fconns.length c88, .int .i64 x82.flast, .int .i64 x53.fopens] 61 (0, 0)) :: (100060, g50, .cells #[.int .i64 x42.fNumber, .int .i64 x42.fKind, .int .i64 x42.fFrom, .int .i64 x42.fTo, .int .i64 x42.fConn, .string x42.fBody] 40 (0, 0)) :: (100040, g41, .cells #[.int .i64 x33.fNumber, .int .i64 x33.fKind, .int .i64 x33.fFrom, .int .i64 x33.fTo, .int .i64 x33.fConn, .string x33.fBody] 40 (0, 0)) :: (100020, g32, .cells #[.int .i64 x24.fNumber, .int .i64 x24.fKind, .int .i64 x24.fFrom, .int .i64 x24.fTo, .int .i64 x24.fConn, .string x24.fBody] 40 (0, 0)) :: H, (100520, ⟨.slice A93 x91.length c94, 40, 6, x91.length, x91.flatMap GItem.enc⟩) :: (100130, ⟨.slice A84 x82.fitems.length c85, 40, 6, x82.fitems.length, x82.fitems.flatMap GItem.enc⟩) :: (100131, ⟨.slice A87 x82.fconns.length c88, 63, 3, x82.fconns.length, x82.fconns.flatMap Gnet_conn.enc⟩) :: (100470, ⟨.slice A78 x76.length c79, 40, 6, x76.length, x76.flatMap GItem.enc⟩) :: R, φ⟩ (fun _ h => h) <| c_ret ?_
             replace hm := Option.some.inj hm
             subst hm
             refine d_retC () Try.results9 ?_ trivial (fun W h => ok_pre (H1 := [_, _, _, _]) (R1 := [_, _, _, _]) h (fun W hφ => hφ)) (.inr rfl)
             refine res_tmp <| res_nil ?_
             exact rfl
           ·
            replace hm := ite_f hm (of_decide_eq_false h111)
            refine g_no rfl rfl rfl rfl rfl h111 <| g_no rfl rfl rfl rfl rfl h111 <| g_no rfl rfl rfl rfl rfl h111 <| g_no rfl rfl rfl rfl rfl h111 <| g_v rfl (r_pick0 rfl h111) <| g_v rfl r_move <| g_no rfl rfl rfl rfl rfl rfl <| g_no rfl rfl rfl rfl rfl rfl <| g_no rfl rfl rfl rfl rfl rfl <| g_no rfl rfl rfl rfl rfl rfl ?_
            refine g_no rfl rfl rfl rfl rfl rfl <| g_v rfl (r_pick0 rfl rfl) <| g_v rfl r_move <| g_no rfl rfl rfl rfl rfl rfl <| g_no rfl rfl rfl rfl rfl rfl <| g_no rfl rfl rfl rfl rfl rfl <| g_no rfl rfl rfl rfl rfl rfl <| g_no rfl rfl rfl rfl rfl rfl <| g_v rfl (r_pick0 rfl rfl) <| g_v rfl r_assign ?_
            refine g_nil <| d_then ?_
            refine c_flat [(0, .bool false)] ⟨rfl, trivial⟩ (fun u => ?_)
            refine c_sta ⟨w0, M, (100135, g9, .cells #[.slice A84 x82.fitems.length c85, .slice A87 x82.fconns.length c88, .int .i64 x82.flast, .int .i64 x53.fopens] 61 (0, 0)) :: (100060, g50, .cells #[.int .i64 x42.fNumber, .int .i64 x42.fKind, .int .i64 x42.fFrom, .int .i64 x42.fTo, .int .i64 x42.fConn, .string x42.fBody] 40 (0, 0)) :: (100040, g41, .cells #[.int .i64 x33.fNumber, .int .i64 x33.fKind, .int .i64 x33.fFrom, .int .i64 x33.fTo, .int .i64 x33.fConn, .string x33.fBody] 40 (0, 0)) :: (100020, g32, .cells #[.int .i64 x24.fNumber, .int .i64 x24.fKind, .int .i64 x24.fFrom, .int .i64 x24.fTo, .int .i64 x24.fConn, .string x24.fBody] 40 (0, 0)) :: H, (100520, ⟨.slice A93 x91.length c94, 40, 6, x91.length, x91.flatMap GItem.enc⟩) :: (100130, ⟨.slice A84 x82.fitems.length c85, 40, 6, x82.fitems.length, x82.fitems.flatMap GItem.enc⟩) :: (100131, ⟨.slice A87 x82.fconns.length c88, 63, 3, x82.fconns.length, x82.fconns.flatMap Gnet_conn.enc⟩) :: (100470, ⟨.slice A78 x76.length c79, 40, 6, x76.length, x76.flatMap GItem.enc⟩) :: R, φ⟩ (fun _ h => h) <| c_ret ?_
            replace hm := Option.some.inj hm
            subst hm
            refine d_retC () Try.results9 ?_ trivial (fun W h => ok_pre (H1 := [_, _, _, _]) (R1 := [_, _, _, _]) h (fun W hφ => hφ)) (.inr rfl)
            refine res_tmp <| res_nil ?_
            exact rfl
          ·
           replace hm := ite_f hm (bool_nt h110)
           refine g_no rfl rfl rfl rfl rfl h110 <| g_no rfl rfl rfl rfl rfl h110 <| g_v rfl (r_pick0 rfl h110) <| g_v rfl r_move <| g_no rfl rfl rfl rfl rfl rfl <| g_no rfl rfl rfl rfl rfl rfl <| g_no rfl rfl rfl rfl rfl rfl <| g_no rfl rfl rfl rfl rfl rfl <| g_no rfl rfl rfl rfl rfl rfl <| g_v rfl (r_pick0 rfl rfl) ?_
           refine g_v rfl r_move <| g_no rfl rfl rfl rfl rfl rfl <| g_no rfl rfl rfl rfl rfl rfl <| g_no rfl rfl rfl rfl rfl rfl <| g_no rfl rfl rfl rfl rfl rfl <| g_no rfl rfl rfl rfl rfl rfl <| g_v rfl (r_pick0 rfl rfl) <| g_v rfl r_move <| g_no rfl rfl rfl rfl rfl rfl <| g_no rfl rfl rfl rfl rfl rfl ?_
           refine g_no rfl rfl rfl rfl rfl rfl <| g_no rfl rfl rfl rfl rfl rfl <| g_no rfl rfl rfl rfl rfl rfl <| g_v rfl (r_pick0 rfl rfl) <| g_v rfl r_assign <| g_nil <| d_then ?_
           refine c_flat [(0, .bool false)] ⟨rfl, trivial⟩ (fun u => ?_)
           refine c_sta ⟨w0, M, (100135, g9, .cells #[.slice A84 x82.fitems.length c85, .slice A87 x82.fconns.length c88, .int .i64 x82.flast, .int .i64 x53.fopens] 61 (0, 0)) :: (100060, g50, .cells #[.int .i64 x42.fNumber, .int .i64 x42.fKind, .int .i64 x42.fFrom, .int .i64 x42.fTo, .int .i64 x42.fConn, .string x42.fBody] 40 (0, 0)) :: (100040, g41, .cells #[.int .i64 x33.fNumber, .int .i64 x33.fKind, .int .i64 x33.fFrom, .int .i64 x33.fTo, .int .i64 x33.fConn, .string x33.fBody] 40 (0, 0)) :: (100020, g32, .cells #[.int .i64 x24.fNumber, .int .i64 x24.fKind, .int .i64 x24.fFrom, .int .i64 x24.fTo, .int .i64 x24.fConn, .string x24.fBody] 40 (0, 0)) :: H, (100520, ⟨.slice A93 x91.length c94, 40, 6, x91.length, x91.flatMap GItem.enc⟩) :: (100130, ⟨.slice A84 x82.fitems.length c85, 40, 6, x82.fitems.length, x82.fitems.flatMap GItem.enc⟩) :: (100131, ⟨.slice A87 x82.fconns.length c88, 63, 3, x82.fconns.length, x82.fconns.flatMap Gnet_conn.enc⟩) :: (100470, ⟨.slice A78 x76.length c79, 40, 6, x76.length, x76.flatMap GItem.enc⟩) :: R, φ⟩ (fun _ h => h) <| c_ret ?_
           replace hm := Option.some.inj hm
           subst hm
           refine d_retC () Try.results9 ?_ trivial (fun W h => ok_pre (H1 := [_, _, _, _]) (R1 := [_, _, _, _]) h (fun W hφ => hφ)) (.inr rfl)
           refine res_tmp <| res_nil ?_
           exact rfl
         ·
          replace hm := ite_f hm (of_decide_eq_false h109)
          refine g_v rfl (r_pick0 rfl h109) <| g_v rfl r_move <| g_no rfl rfl rfl rfl rfl rfl <| g_no rfl rfl rfl rfl rfl rfl <| g_no rfl rfl rfl rfl rfl rfl <| g_v rfl (r_pick0 rfl rfl) <| g_v rfl r_move <| g_no rfl rfl rfl rfl rfl rfl <| g_no rfl rfl rfl rfl rfl rfl <| g_no rfl rfl rfl rfl rfl rfl ?_
          refine g_no rfl rfl rfl rfl rfl rfl <| g_no rfl rfl rfl rfl rfl rfl <| g_v rfl (r_pick0 rfl rfl) <| g_v rfl r_move <| g_no rfl rfl rfl rfl rfl rfl <| g_no rfl rfl rfl rfl rfl rfl <| g_no rfl rfl rfl rfl rfl rfl <| g_no rfl rfl rfl rfl rfl rfl <| g_no rfl rfl rfl rfl rfl rfl <| g_v rfl (r_pick0 rfl rfl) ?_
          refine g_v rfl r_move <| g_no rfl rfl rfl rfl rfl rfl <| g_no rfl rfl rfl rfl rfl rfl <| g_no rfl rfl rfl rfl rfl rfl <| g_no rfl rfl rfl rfl rfl rfl <| g_no rfl rfl rfl rfl rfl rfl <| g_v rfl (r_pick0 rfl rfl) <| g_v rfl r_assign <| g_nil <| d_then ?_
          refine c_flat [(0, .bool false)] ⟨rfl, trivial⟩ (fun u => ?_)
          refine c_sta ⟨w0, M, (100135, g9, .cells #[.slice A84 x82.fitems.length c85, .slice A87 x82.fconns.length c88, .int .i64 x82.flast, .int .i64 x53.fopens] 61 (0, 0)) :: (100060, g50, .cells #[.int .i64 x42.fNumber, .int .i64 x42.fKind, .int .i64 x42.fFrom, .int .i64 x42.fTo, .int .i64 x42.fConn, .string x42.fBody] 40 (0, 0)) :: (100040, g41, .cells #[.int .i64 x33.fNumber, .int .i64 x33.fKind, .int .i64 x33.fFrom, .int .i64 x33.fTo, .int .i64 x33.fConn, .string x33.fBody] 40 (0, 0)) :: (100020, g32, .cells #[.int .i64 x24.fNumber, .int .i64 x24.fKind, .int .i64 x24.fFrom, .int .i64 x24.fTo, .int .i64 x24.fConn, .string x24.fBody] 40 (0, 0)) :: H, (100520, ⟨.slice A93 x91.length c94, 40, 6, x91.length, x91.flatMap GItem.enc⟩) :: (100130, ⟨.slice A84 x82.fitems.length c85, 40, 6, x82.fitems.length, x82.fitems.flatMap GItem.enc⟩) :: (100131, ⟨.slice A87 x82.fconns.length c88, 63, 3, x82.fconns.length, x82.fconns.flatMap Gnet_conn.enc⟩) :: (100470, ⟨.slice A78 x76.length c79, 40, 6, x76.length, x76.flatMap GItem.enc⟩) :: R, φ⟩ (fun _ h => h) <| c_ret ?_
          replace hm := Option.some.inj hm
          subst hm
          refine d_retC () Try.results9 ?_ trivial (fun W h => ok_pre (H1 := [_, _, _, _]) (R1 := [_, _, _, _]) h (fun W hφ => hφ)) (.inr rfl)
          refine res_tmp <| res_nil ?_
          exact rfl
        ·
         replace hm := ite_f hm (of_decide_eq_false h103)
         refine g_no rfl rfl rfl rfl rfl h103 <| g_no rfl rfl rfl rfl rfl h103 <| g_no rfl rfl rfl rfl rfl h103 <| g_no rfl rfl rfl rfl rfl h103 <| g_v rfl (r_pick0 rfl h103) <| g_v rfl r_move <| g_no rfl rfl rfl rfl rfl rfl <| g_v rfl (r_pick0 rfl rfl) <| g_v rfl r_move <| g_no rfl rfl rfl rfl rfl rfl ?_
         refine g_no rfl rfl rfl rfl rfl rfl <| g_no rfl rfl rfl rfl rfl rfl <| g_v rfl (r_pick0 rfl rfl) <| g_v rfl r_move <| g_no rfl rfl rfl rfl rfl rfl <| g_no rfl rfl rfl rfl rfl rfl <| g_no rfl rfl rfl rfl rfl rfl <| g_no rfl rfl rfl rfl rfl rfl <| g_no rfl rfl rfl rfl rfl rfl <| g_v rfl (r_pick0 rfl rfl) ?_
         refine g_v rfl r_move <| g_no rfl rfl rfl rfl rfl rfl <| g_no rfl rfl rfl rfl rfl rfl <| g_no rfl rfl rfl rfl rfl rfl <| g_no rfl rfl rfl rfl rfl rfl <| g_no rfl rfl rfl rfl rfl rfl <| g_v rfl (r_pick0 rfl rfl) <| g_v rfl r_move <| g_no rfl rfl rfl rfl rfl rfl <| g_no rfl rfl rfl rfl rfl rfl ?_
         refine g_no rfl rfl rfl rfl rfl rfl <| g_no rfl rfl rfl rfl rfl rfl <| g_no rfl rfl rfl rfl rfl rfl <| g_v rfl (r_pick0 rfl rfl) <| g_v rfl r_assign <| g_nil <| d_then ?_
         refine c_flat [(0, .bool false)] ⟨rfl, trivial⟩ (fun u => ?_)
         refine c_sta ⟨w0, M, (100135, g9, .cells #[.slice A84 x82.fitems.length c85, .slice A87 x82.fconns.length c88, .int .i64 x82.flast, .int .i64 x53.fopens] 61 (0, 0)) :: (100060, g50, .cells #[.int .i64 x42.fNumber, .int .i64 x42.fKind, .int .i64 x42.fFrom, .int .i64 x42.fTo, .int .i64 x42.fConn, .string x42.fBody] 40 (0, 0)) :: (100040, g41, .cells #[.int .i64 x33.fNumber, .int .i64 x33.fKind, .int .i64 x33.fFrom, .int .i64 x33.fTo, .int .i64 x33.fConn, .string x33.fBody] 40 (0, 0)) :: (100020, g32, .cells #[.int .i64 x24.fNumber, .int .i64 x24.fKind, .int .i64 x24.fFrom, .int .i64 x24.fTo, .int .i64 x24.fConn, .string x24.fBody] 40 (0, 0)) :: H, (100520, ⟨.slice A93 x91.length c94, 40, 6, x91.length, x91.flatMap GItem.enc⟩) :: (100130, ⟨.slice A84 x82.fitems.length c85, 40, 6, x82.fitems.length, x82.fitems.flatMap GItem.enc⟩) :: (100131, ⟨.slice A87 x82.fconns.length c88, 63, 3, x82.fconns.length, x82.fconns.flatMap Gnet_conn.enc⟩) :: (100470, ⟨.slice A78 x76.length c79, 40, 6, x76.length, x76.flatMap GItem.enc⟩) :: R, φ⟩ (fun _ h => h) <| c_ret ?_
         replace hm := Option.some.inj hm
         subst hm
         refine d_retC () Try.results9 ?_ trivial (fun W h => ok_pre (H1 := [_, _, _, _]) (R1 := [_, _, _, _]) h (fun W hφ => hφ)) (.inr rfl)
         refine res_tmp <| res_nil ?_
         exact rfl
       ·
        replace hm := ite_f hm (bool_nt h102)
        refine g_no rfl rfl rfl rfl rfl h102 <| g_no rfl rfl rfl rfl rfl h102 <| g_v rfl (r_pick0 rfl h102) <| g_v rfl r_move <| g_no rfl rfl rfl rfl rfl rfl <| g_no rfl rfl rfl rfl rfl rfl <| g_no rfl rfl rfl rfl rfl rfl <| g_no rfl rfl rfl rfl rfl rfl <| g_no rfl rfl rfl rfl rfl rfl <| g_v rfl (r_pick0 rfl rfl) ?_
        refine g_v rfl r_move <| g_no rfl rfl rfl rfl rfl rfl <| g_v rfl (r_pick0 rfl rfl) <| g_v rfl r_move <| g_no rfl rfl rfl rfl rfl rfl <| g_no rfl rfl rfl rfl rfl rfl <| g_no rfl rfl rfl rfl rfl rfl <| g_v rfl (r_pick0 rfl rfl) <| g_v rfl r_move <| g_no rfl rfl rfl rfl rfl rfl ?_
        refine g_no rfl rfl rfl rfl rfl rfl <| g_no rfl rfl rfl rfl rfl rfl <| g_no rfl rfl rfl rfl rfl rfl <| g_no rfl rfl rfl rfl rfl rfl <| g_v rfl (r_pick0 rfl rfl) <| g_v rfl r_move <| g_no rfl rfl rfl rfl rfl rfl <| g_no rfl rfl rfl rfl rfl rfl <| g_no rfl rfl rfl rfl rfl rfl <| g_no rfl rfl rfl rfl rfl rfl ?_
        refine g_no rfl rfl rfl rfl rfl rfl <| g_v rfl (r_pick0 rfl rfl) <| g_v rfl r_move <| g_no rfl rfl rfl rfl rfl rfl <| g_no rfl rfl rfl rfl rfl rfl <| g_no rfl rfl rfl rfl rfl rfl <| g_no rfl rfl rfl rfl rfl rfl <| g_no rfl rfl rfl rfl rfl rfl <| g_v rfl (r_pick0 rfl rfl) <| g_v rfl r_assign ?_
        refine g_nil <| d_then ?_
        refine c_flat [(0, .bool false)] ⟨rfl, trivial⟩ (fun u => ?_)
        refine c_sta ⟨w0, M, (100135, g9, .cells #[.slice A84 x82.fitems.length c85, .slice A87 x82.fconns.length c88, .int .i64 x82.flast, .int .i64 x53.fopens] 61 (0, 0)) :: (100060, g50, .cells #[.int .i64 x42.fNumber, .int .i64 x42.fKind, .int .i64 x42.fFrom, .int .i64 x42.fTo, .int .i64 x42.fConn, .string x42.fBody] 40 (0, 0)) :: (100040, g41, .cells #[.int .i64 x33.fNumber, .int .i64 x33.fKind, .int .i64 x33.fFrom, .int .i64 x33.fTo, .int .i64 x33.fConn, .string x33.fBody] 40 (0, 0)) :: (100020, g32, .cells #[.int .i64 x24.fNumber, .int .i64 x24.fKind, .int .i64 x24.fFrom, .int .i64 x24.fTo, .int .i64 x24.fConn, .string x24.fBody] 40 (0, 0)) :: H, (100520, ⟨.slice A93 x91.length c94, 40, 6, x91.length, x91.flatMap GItem.enc⟩) :: (100130, ⟨.slice A84 x82.fitems.length c85, 40, 6, x82.fitems.length, x82.fitems.flatMap GItem.enc⟩) :: (100131, ⟨.slice A87 x82.fconns.length c88, 63, 3, x82.fconns.length, x82.fconns.flatMap Gnet_conn.enc⟩) :: (100470, ⟨.slice A78 x76.length c79, 40, 6, x76.length, x76.flatMap GItem.enc⟩) :: R, φ⟩ (fun _ h => h) <| c_ret ?_
        replace hm := Option.some.inj hm
        subst hm
        refine d_retC () Try.results9 ?_ trivial (fun W h => ok_pre (H1 := [_, _, _, _]) (R1 := [_, _, _, _]) h (fun W hφ => hφ)) (.inr rfl)
        refine res_tmp <| res_nil ?_
        exact rfl
      ·
       replace hm := ite_f hm (of_decide_eq_false h101)
       refine g_v rfl (r_pick0 rfl h101) <| g_v rfl r_move <| g_no rfl rfl rfl rfl rfl rfl <| g_no rfl rfl rfl rfl rfl rfl <| g_no rfl rfl rfl rfl rfl rfl <| g_v rfl (r_pick0 rfl rfl) <| g_v rfl r_move <| g_no rfl rfl rfl rfl rfl rfl <| g_no rfl rfl rfl rfl rfl rfl <| g_no rfl rfl rfl rfl rfl rfl ?_
       refine g_no rfl rfl rfl rfl rfl rfl <| g_no rfl rfl rfl rfl rfl rfl <| g_v rfl (r_pick0 rfl rfl) <| g_v rfl r_move <| g_no rfl rfl rfl rfl rfl rfl <| g_v rfl (r_pick0 rfl rfl) <| g_v rfl r_move <| g_no rfl rfl rfl rfl rfl rfl <| g_no rfl rfl rfl rfl rfl rfl <| g_no rfl rfl rfl rfl rfl rfl ?_
       refine g_v rfl (r_pick0 rfl rfl) <| g_v rfl r_move <| g_no rfl rfl rfl rfl rfl rfl <| g_no rfl rfl rfl rfl rfl rfl <| g_no rfl rfl rfl rfl rfl rfl <| g_no rfl rfl rfl rfl rfl rfl <| g_no rfl rfl rfl rfl rfl rfl <| g_v rfl (r_pick0 rfl rfl) <| g_v rfl r_move <| g_no rfl rfl rfl rfl rfl rfl ?_
       refine g_no rfl rfl rfl rfl rfl rfl <| g_no rfl rfl rfl rfl rfl rfl <| g_no rfl rfl rfl rfl rfl rfl <| g_no rfl rfl rfl rfl rfl rfl <| g_v rfl (r_pick0 rfl rfl) <| g_v rfl r_move <| g_no rfl rfl rfl rfl rfl rfl <| g_no rfl rfl rfl rfl rfl rfl <| g_no rfl rfl rfl rfl rfl rfl <| g_no rfl rfl rfl rfl rfl rfl ?_
       refine g_no rfl rfl rfl rfl rfl rfl <| g_v rfl (r_pick0 rfl rfl) <| g_v rfl r_assign <| g_nil <| d_then ?_
       refine c_flat [(0, .bool false)] ⟨rfl, trivial⟩ (fun u => ?_)
       refine c_sta ⟨w0, M, (100135, g9, .cells #[.slice A84 x82.fitems.length c85, .slice A87 x82.fconns.length c88, .int .i64 x82.flast, .int .i64 x53.fopens] 61 (0, 0)) :: (100060, g50, .cells #[.int .i64 x42.fNumber, .int .i64 x42.fKind, .int .i64 x42.fFrom, .int .i64 x42.fTo, .int .i64 x42.fConn, .string x42.fBody] 40 (0, 0)) :: (100040, g41, .cells #[.int .i64 x33.fNumber, .int .i64 x33.fKind, .int .i64 x33.fFrom, .int .i64 x33.fTo, .int .i64 x33.fConn, .string x33.fBody] 40 (0, 0)) :: (100020, g32, .cells #[.int .i64 x24.fNumber, .int .i64 x24.fKind, .int .i64 x24.fFrom, .int .i64 x24.fTo, .int .i64 x24.fConn, .string x24.fBody] 40 (0, 0)) :: H, (100520, ⟨.slice A93 x91.length c94, 40, 6, x91.length, x91.flatMap GItem.enc⟩) :: (100130, ⟨.slice A84 x82.fitems.length c85, 40, 6, x82.fitems.length, x82.fitems.flatMap GItem.enc⟩) :: (100131, ⟨.slice A87 x82.fconns.length c88, 63, 3, x82.fconns.length, x82.fconns.flatMap Gnet_conn.enc⟩) :: (100470, ⟨.slice A78 x76.length c79, 40, 6, x76.length, x76.flatMap GItem.enc⟩) :: R, φ⟩ (fun _ h => h) <| c_ret ?_
       replace hm := Option.some.inj hm
       subst hm
       refine d_retC () Try.results9 ?_ trivial (fun W h => ok_pre (H1 := [_, _, _, _]) (R1 := [_, _, _, _]) h (fun W hφ => hφ)) (.inr rfl)
       refine res_tmp <| res_nil ?_
       exact rfl
     ·
      have h100' : x43 = true := by revert h100; cases x43 <;> simp
      replace hm := ite_t hm h100'
      refine g_no rfl rfl rfl rfl rfl h100 <| g_v rfl (r_pick0 rfl h100) <| g_v rfl r_move <| g_no rfl rfl rfl rfl rfl rfl <| g_v rfl (r_pick0 rfl rfl) <| g_v rfl r_move <| g_no rfl rfl rfl rfl rfl rfl <| g_no rfl rfl rfl rfl rfl rfl <| g_no rfl rfl rfl rfl rfl rfl <| g_v rfl (r_pick0 rfl rfl) ?_
      refine g_v rfl r_move <| g_no rfl rfl rfl rfl rfl rfl <| g_no rfl rfl rfl rfl rfl rfl <| g_no rfl rfl rfl rfl rfl rfl <| g_no rfl rfl rfl rfl rfl rfl <| g_no rfl rfl rfl rfl rfl rfl <| g_v rfl (r_pick0 rfl rfl) <| g_v rfl r_move <| g_no rfl rfl rfl rfl rfl rfl <| g_v rfl (r_pick0 rfl rfl) ?_
      refine g_v rfl r_move <| g_no rfl rfl rfl rfl rfl rfl <| g_no rfl rfl rfl rfl rfl rfl <| g_no rfl rfl rfl rfl rfl rfl <| g_v rfl (r_pick0 rfl rfl) <| g_v rfl r_move <| g_no rfl rfl rfl rfl rfl rfl <| g_no rfl rfl rfl rfl rfl rfl <| g_no rfl rfl rfl rfl rfl rfl <| g_no rfl rfl rfl rfl rfl rfl ?_
      refine g_no rfl rfl rfl rfl rfl rfl <| g_v rfl (r_pick0 rfl rfl) <| g_v rfl r_move <| g_no rfl rfl rfl rfl rfl rfl <| g_no rfl rfl rfl rfl rfl rfl <| g_no rfl rfl rfl rfl rfl rfl <| g_no rfl rfl rfl rfl rfl rfl <| g_no rfl rfl rfl rfl rfl rfl <| g_v rfl (r_pick0 rfl rfl) <| g_v rfl r_move ?_
      refine g_no rfl rfl rfl rfl rfl rfl <| g_no rfl rfl rfl rfl rfl rfl <| g_no rfl rfl rfl rfl rfl rfl <| g_no rfl rfl rfl rfl rfl rfl <| g_no rfl rfl rfl rfl rfl rfl <| g_v rfl (r_pick0 rfl rfl) <| g_v rfl r_assign <| g_nil <| d_then ?_
      refine c_flat [(0, .bool false)] ⟨rfl, trivial⟩ (fun u => ?_)
      refine c_sta ⟨w0, M, (100135, g9, .cells #[.slice A84 x82.fitems.length c85, .slice A87 x82.fconns.length c88, .int .i64 x82.flast, .int .i64 x53.fopens] 61 (0, 0)) :: (100060, g50, .cells #[.int .i64 x42.fNumber, .int .i64 x42.fKind, .int .i64 x42.fFrom, .int .i64 x42.fTo, .int .i64 x42.fConn, .string x42.fBody] 40 (0, 0)) :: (100040, g41, .cells #[.int .i64 x33.fNumber, .int .i64 x33.fKind, .int .i64 x33.fFrom, .int .i64 x33.fTo, .int .i64 x33.fConn, .string x33.fBody] 40 (0, 0)) :: (100020, g32, .cells #[.int .i64 x24.fNumber, .int .i64 x24.fKind, .int .i64 x24.fFrom, .int .i64 x24.fTo, .int .i64 x24.fConn, .string x24.fBody] 40 (0, 0)) :: H, (100520, ⟨.slice A93 x91.length c94, 40, 6, x91.length, x91.flatMap GItem.enc⟩) :: (100130, ⟨.slice A84 x82.fitems.length c85, 40, 6, x82.fitems.length, x82.fitems.flatMap GItem.enc⟩) :: (100131, ⟨.slice A87 x82.fconns.length c88, 63, 3, x82.fconns.length, x82.fconns.flatMap Gnet_conn.enc⟩) :: (100470, ⟨.slice A78 x76.length c79, 40, 6, x76.length, x76.flatMap GItem.enc⟩) :: R, φ⟩ (fun _ h => h) <| c_ret ?_
      replace hm := Option.some.inj hm
      subst hm
      refine d_retC () Try.results9 ?_ trivial (fun W h => ok_pre (H1 := [_, _, _, _]) (R1 := [_, _, _, _]) h (fun W hφ => hφ)) (.inr rfl)
      refine res_tmp <| res_nil ?_
      exact rfl
    ·
     replace hm := ite_f hm (bool_nt h99)
     refine g_no rfl rfl rfl rfl rfl h99 <| g_v rfl (r_pick0 rfl h99) <| g_v rfl r_move <| g_no rfl rfl rfl rfl rfl rfl <| g_no rfl rfl rfl rfl rfl rfl <| g_v rfl (r_pick0 rfl rfl) <| g_v rfl r_move <| g_no rfl rfl rfl rfl rfl rfl <| g_v rfl (r_pick0 rfl rfl) <| g_v rfl r_move ?_
     refine g_no rfl rfl rfl rfl rfl rfl <| g_no rfl rfl rfl rfl rfl rfl <| g_no rfl rfl rfl rfl rfl rfl <| g_v rfl (r_pick0 rfl rfl) <| g_v rfl r_move <| g_no rfl rfl rfl rfl rfl rfl <| g_no rfl rfl rfl rfl rfl rfl <| g_no rfl rfl rfl rfl rfl rfl <| g_no rfl rfl rfl rfl rfl rfl <| g_no rfl rfl rfl rfl rfl rfl ?_
     refine g_v rfl (r_pick0 rfl rfl) <| g_v rfl r_move <| g_no rfl rfl rfl rfl rfl rfl <| g_v rfl (r_pick0 rfl rfl) <| g_v rfl r_move <| g_no rfl rfl rfl rfl rfl rfl <| g_no rfl rfl rfl rfl rfl rfl <| g_no rfl rfl rfl rfl rfl rfl <| g_v rfl (r_pick0 rfl rfl) <| g_v rfl r_move ?_
     refine g_no rfl rfl rfl rfl rfl rfl <| g_no rfl rfl rfl rfl rfl rfl <| g_no rfl rfl rfl rfl rfl rfl <| g_no rfl rfl rfl rfl rfl rfl <| g_no rfl rfl rfl rfl rfl rfl <| g_v rfl (r_pick0 rfl rfl) <| g_v rfl r_move <| g_no rfl rfl rfl rfl rfl rfl <| g_no rfl rfl rfl rfl rfl rfl <| g_no rfl rfl rfl rfl rfl rfl ?_
     refine g_no rfl rfl rfl rfl rfl rfl <| g_no rfl rfl rfl rfl rfl rfl <| g_v rfl (r_pick0 rfl rfl) <| g_v rfl r_move <| g_no rfl rfl rfl rfl rfl rfl <| g_no rfl rfl rfl rfl rfl rfl <| g_no rfl rfl rfl rfl rfl rfl <| g_no rfl rfl rfl rfl rfl rfl <| g_no rfl rfl rfl rfl rfl rfl <| g_v rfl (r_pick0 rfl rfl) ?_
     refine g_v rfl r_assign <| g_nil <| d_then ?_
     refine c_flat [(0, .bool false)] ⟨rfl, trivial⟩ (fun u => ?_)
     refine c_sta ⟨w0, M, (100135, g9, .cells #[.slice A84 x82.fitems.length c85, .slice A87 x82.fconns.length c88, .int .i64 x82.flast, .int .i64 x53.fopens] 61 (0, 0)) :: (100060, g50, .cells #[.int .i64 x42.fNumber, .int .i64 x42.fKind, .int .i64 x42.fFrom, .int .i64 x42.fTo, .int .i64 x42.fConn, .string x42.fBody] 40 (0, 0)) :: (100040, g41, .cells #[.int .i64 x33.fNumber, .int .i64 x33.fKind, .int .i64 x33.fFrom, .int .i64 x33.fTo, .int .i64 x33.fConn, .string x33.fBody] 40 (0, 0)) :: (100020, g32, .cells #[.int .i64 x24.fNumber, .int .i64 x24.fKind, .int .i64 x24.fFrom, .int .i64 x24.fTo, .int .i64 x24.fConn, .string x24.fBody] 40 (0, 0)) :: H, (100520, ⟨.slice A93 x91.length c94, 40, 6, x91.length, x91.flatMap GItem.enc⟩) :: (100130, ⟨.slice A84 x82.fitems.length c85, 40, 6, x82.fitems.length, x82.fitems.flatMap GItem.enc⟩) :: (100131, ⟨.slice A87 x82.fconns.length c88, 63, 3, x82.fconns.length, x82.fconns.flatMap Gnet_conn.enc⟩) :: (100470, ⟨.slice A78 x76.length c79, 40, 6, x76.length, x76.flatMap GItem.enc⟩) :: R, φ⟩ (fun _ h => h) <| c_ret ?_
     replace hm := Option.some.inj hm
     subst hm
     refine d_retC () Try.results9 ?_ trivial (fun W h => ok_pre (H1 := [_, _, _, _]) (R1 := [_, _, _, _]) h (fun W hφ => hφ)) (.inr rfl)
     refine res_tmp <| res_nil ?_
     exact rfl
   ·
    replace hm := ite_f hm (of_decide_eq_false h98)
    refine g_v rfl (r_pick0 rfl h98) <| g_v rfl r_move <| g_no rfl rfl rfl rfl rfl rfl <| g_no rfl rfl rfl rfl rfl rfl <| g_v rfl (r_pick0 rfl rfl) <| g_v rfl r_move <| g_no rfl rfl rfl rfl rfl rfl <| g_no rfl rfl rfl rfl rfl rfl <| g_v rfl (r_pick0 rfl rfl) <| g_v rfl r_move ?_
    refine g_no rfl rfl rfl rfl rfl rfl <| g_v rfl (r_pick0 rfl rfl) <| g_v rfl r_move <| g_no rfl rfl rfl rfl rfl rfl <| g_no rfl rfl rfl rfl rfl rfl <| g_no rfl rfl rfl rfl rfl rfl <| g_v rfl (r_pick0 rfl rfl) <| g_v rfl r_move <| g_no rfl rfl rfl rfl rfl rfl <| g_no rfl rfl rfl rfl rfl rfl ?_
    refine g_no rfl rfl rfl rfl rfl rfl <| g_no rfl rfl rfl rfl rfl rfl <| g_no rfl rfl rfl rfl rfl rfl <| g_v rfl (r_pick0 rfl rfl) <| g_v rfl r_move <| g_no rfl rfl rfl rfl rfl rfl <| g_v rfl (r_pick0 rfl rfl) <| g_v rfl r_move <| g_no rfl rfl rfl rfl rfl rfl <| g_no rfl rfl rfl rfl rfl rfl ?_
    refine g_no rfl rfl rfl rfl rfl rfl <| g_v rfl (r_pick0 rfl rfl) <| g_v rfl r_move <| g_no rfl rfl rfl rfl rfl rfl <| g_no rfl rfl rfl rfl rfl rfl <| g_no rfl rfl rfl rfl rfl rfl <| g_no rfl rfl rfl rfl rfl rfl <| g_no rfl rfl rfl rfl rfl rfl <| g_v rfl (r_pick0 rfl rfl) <| g_v rfl r_move ?_
    refine g_no rfl rfl rfl rfl rfl rfl <| g_no rfl rfl rfl rfl rfl rfl <| g_no rfl rfl rfl rfl rfl rfl <| g_no rfl rfl rfl rfl rfl rfl <| g_no rfl rfl rfl rfl rfl rfl <| g_v rfl (r_pick0 rfl rfl) <| g_v rfl r_move <| g_no rfl rfl rfl rfl rfl rfl <| g_no rfl rfl rfl rfl rfl rfl <| g_no rfl rfl rfl rfl rfl rfl ?_
    refine g_no rfl rfl rfl rfl rfl rfl <| g_no rfl rfl rfl rfl rfl rfl <| g_v rfl (r_pick0 rfl rfl) <| g_v rfl r_assign <| g_nil <| d_then ?_
    refine c_flat [(0, .bool false)] ⟨rfl, trivial⟩ (fun u => ?_)
    refine c_sta ⟨w0, M, (100135, g9, .cells #[.slice A84 x82.fitems.length c85, .slice A87 x82.fconns.length c88, .int .i64 x82.flast, .int .i64 x53.fopens] 61 (0, 0)) :: (100060, g50, .cells #[.int .i64 x42.fNumber, .int .i64 x42.fKind, .int .i64 x42.fFrom, .int .i64 x42.fTo, .int .i64 x42.fConn, .string x42.fBody] 40 (0, 0)) :: (100040, g41, .cells #[.int .i64 x33.fNumber, .int .i64 x33.fKind, .int .i64 x33.fFrom, .int .i64 x33.fTo, .int .i64 x33.fConn, .string x33.fBody] 40 (0, 0)) :: (100020, g32, .cells #[.int .i64 x24.fNumber, .int .i64 x24.fKind, .int .i64 x24.fFrom, .int .i64 x24.fTo, .int .i64 x24.fConn, .string x24.fBody] 40 (0, 0)) :: H, (100520, ⟨.slice A93 x91.length c94, 40, 6, x91.length, x91.flatMap GItem.enc⟩) :: (100130, ⟨.slice A84 x82.fitems.length c85, 40, 6, x82.fitems.length, x82.fitems.flatMap GItem.enc⟩) :: (100131, ⟨.slice A87 x82.fconns.length c88, 63, 3, x82.fconns.length, x82.fconns.flatMap Gnet_conn.enc⟩) :: (100470, ⟨.slice A78 x76.length c79, 40, 6, x76.length, x76.flatMap GItem.enc⟩) :: R, φ⟩ (fun _ h => h) <| c_ret ?_
    replace hm := Option.some.inj hm
    subst hm
    refine d_retC () Try.results9 ?_ trivial (fun W h => ok_pre (H1 := [_, _, _, _]) (R1 := [_, _, _, _]) h (fun W hφ => hφ)) (.inr rfl)
    refine res_tmp <| res_nil ?_
    exact rfl
  ·
   replace hm := ite_f hm (bool_nt h97)
   refine g_no rfl rfl rfl rfl rfl h97 <| g_no rfl rfl rfl rfl rfl h97 <| g_v rfl (r_pick0 rfl h97) <| g_v rfl r_move <| g_no rfl rfl rfl rfl rfl rfl <| g_v rfl (r_pick0 rfl rfl) <| g_v rfl r_move <| g_no rfl rfl rfl rfl rfl rfl <| g_no rfl rfl rfl rfl rfl rfl <| g_v rfl (r_pick0 rfl rfl) ?_
   refine g_v rfl r_move <| g_no rfl rfl rfl rfl rfl rfl <| g_no rfl rfl rfl rfl rfl rfl <| g_v rfl (r_pick0 rfl rfl) <| g_v rfl r_move <| g_no rfl rfl rfl rfl rfl rfl <| g_v rfl (r_pick0 rfl rfl) <| g_v rfl r_move <| g_no rfl rfl rfl rfl rfl rfl <| g_no rfl rfl rfl rfl rfl rfl ?_
   refine g_no rfl rfl rfl rfl rfl rfl <| g_v rfl (r_pick0 rfl rfl) <| g_v rfl r_move <| g_no rfl rfl rfl rfl rfl rfl <| g_no rfl rfl rfl rfl rfl rfl <| g_no rfl rfl rfl rfl rfl rfl <| g_no rfl rfl rfl rfl rfl rfl <| g_no rfl rfl rfl rfl rfl rfl <| g_v rfl (r_pick0 rfl rfl) <| g_v rfl r_move ?_
   refine g_no rfl rfl rfl rfl rfl rfl <| g_v rfl (r_pick0 rfl rfl) <| g_v rfl r_move <| g_no rfl rfl rfl rfl rfl rfl <| g_no rfl rfl rfl rfl rfl rfl <| g_no rfl rfl rfl rfl rfl rfl <| g_v rfl (r_pick0 rfl rfl) <| g_v rfl r_move <| g_no rfl rfl rfl rfl rfl rfl <| g_no rfl rfl rfl rfl rfl rfl ?_
   refine g_no rfl rfl rfl rfl rfl rfl <| g_no rfl rfl rfl rfl rfl rfl <| g_no rfl rfl rfl rfl rfl rfl <| g_v rfl (r_pick0 rfl rfl) <| g_v rfl r_move <| g_no rfl rfl rfl rfl rfl rfl <| g_no rfl rfl rfl rfl rfl rfl <| g_no rfl rfl rfl rfl rfl rfl <| g_no rfl rfl rfl rfl rfl rfl <| g_no rfl rfl rfl rfl rfl rfl ?_
   refine g_v rfl (r_pick0 rfl rfl) <| g_v rfl r_move <| g_no rfl rfl rfl rfl rfl rfl <| g_no rfl rfl rfl rfl rfl rfl <| g_no rfl rfl rfl rfl rfl rfl <| g_no rfl rfl rfl rfl rfl rfl <| g_no rfl rfl rfl rfl rfl rfl <| g_v rfl (r_pick0 rfl rfl) <| g_v rfl r_assign <| g_nil ?_
   refine d_then ?_
   refine c_flat [(0, .bool false)] ⟨rfl, trivial⟩ (fun u => ?_)
   refine c_sta ⟨w0, M, (100135, g9, .cells #[.slice A84 x82.fitems.length c85, .slice A87 x82.fconns.length c88, .int .i64 x82.flast, .int .i64 x53.fopens] 61 (0, 0)) :: (100060, g50, .cells #[.int .i64 x42.fNumber, .int .i64 x42.fKind, .int .i64 x42.fFrom, .int .i64 x42.fTo, .int .i64 x42.fConn, .string x42.fBody] 40 (0, 0)) :: (100040, g41, .cells #[.int .i64 x33.fNumber, .int .i64 x33.fKind, .int .i64 x33.fFrom, .int .i64 x33.fTo, .int .i64 x33.fConn, .string x33.fBody] 40 (0, 0)) :: (100020, g32, .cells #[.int .i64 x24.fNumber, .int .i64 x24.fKind, .int .i64 x24.fFrom, .int .i64 x24.fTo, .int .i64 x24.fConn, .string x24.fBody] 40 (0, 0)) :: H, (100520, ⟨.slice A93 x91.length c94, 40, 6, x91.length, x91.flatMap GItem.enc⟩) :: (100130, ⟨.slice A84 x82.fitems.length c85, 40, 6, x82.fitems.length, x82.fitems.flatMap GItem.enc⟩) :: (100131, ⟨.slice A87 x82.fconns.length c88, 63, 3, x82.fconns.length, x82.fconns.flatMap Gnet_conn.enc⟩) :: (100470, ⟨.slice A78 x76.length c79, 40, 6, x76.length, x76.flatMap GItem.enc⟩) :: R, φ⟩ (fun _ h => h) <| c_ret ?_
   replace hm := Option.some.inj hm
   subst hm
   refine d_retC () Try.results9 ?_ trivial (fun W h => ok_pre (H1 := [_, _, _, _]) (R1 := [_, _, _, _]) h (fun W hφ => hφ)) (.inr rfl)
   refine res_tmp <| res_nil ?_
   exact rfl
 ·
  replace hm := ite_f hm (of_decide_eq_false h96)
  refine g_v rfl (r_pick0 rfl h96) <| g_v rfl r_move <| g_no rfl rfl rfl rfl rfl rfl <| g_no rfl rfl rfl rfl rfl rfl <| g_no rfl rfl rfl rfl rfl rfl <| g_v rfl (r_pick0 rfl rfl) <| g_v rfl r_move <| g_no rfl rfl rfl rfl rfl rfl <| g_v rfl (r_pick0 rfl rfl) <| g_v rfl r_move ?_
  refine g_no rfl rfl rfl rfl rfl rfl <| g_no rfl rfl rfl rfl rfl rfl <| g_v rfl (r_pick0 rfl rfl) <| g_v rfl r_move <| g_no rfl rfl rfl rfl rfl rfl <| g_no rfl rfl rfl rfl rfl rfl <| g_v rfl (r_pick0 rfl rfl) <| g_v rfl r_move <| g_no rfl rfl rfl rfl rfl rfl <| g_v rfl (r_pick0 rfl rfl) ?_
  refine g_v rfl r_move <| g_no rfl rfl rfl rfl rfl rfl <| g_no rfl rfl rfl rfl rfl rfl <| g_no rfl rfl rfl rfl rfl rfl <| g_v rfl (r_pick0 rfl rfl) <| g_v rfl r_move <| g_no rfl rfl rfl rfl rfl rfl <| g_no rfl rfl rfl rfl rfl rfl <| g_no rfl rfl rfl rfl rfl rfl <| g_no rfl rfl rfl rfl rfl rfl ?_
  refine g_no rfl rfl rfl rfl rfl rfl <| g_v rfl (r_pick0 rfl rfl) <| g_v rfl r_move <| g_no rfl rfl rfl rfl rfl rfl <| g_v rfl (r_pick0 rfl rfl) <| g_v rfl r_move <| g_no rfl rfl rfl rfl rfl rfl <| g_no rfl rfl rfl rfl rfl rfl <| g_no rfl rfl rfl rfl rfl rfl <| g_v rfl (r_pick0 rfl rfl) ?_
  refine g_v rfl r_move <| g_no rfl rfl rfl rfl rfl rfl <| g_no rfl rfl rfl rfl rfl rfl <| g_no rfl rfl rfl rfl rfl rfl <| g_no rfl rfl rfl rfl rfl rfl <| g_no rfl rfl rfl rfl rfl rfl <| g_v rfl (r_pick0 rfl rfl) <| g_v rfl r_move <| g_no rfl rfl rfl rfl rfl rfl <| g_no rfl rfl rfl rfl rfl rfl ?_
  refine g_no rfl rfl rfl rfl rfl rfl <| g_no rfl rfl rfl rfl rfl rfl <| g_no rfl rfl rfl rfl rfl rfl <| g_v rfl (r_pick0 rfl rfl) <| g_v rfl r_move <| g_no rfl rfl rfl rfl rfl rfl <| g_no rfl rfl rfl rfl rfl rfl <| g_no rfl rfl rfl rfl rfl rfl <| g_no rfl rfl rfl rfl rfl rfl <| g_no rfl rfl rfl rfl rfl rfl ?_
  refine g_v rfl (r_pick0 rfl rfl) <| g_v rfl r_assign <| g_nil <| d_then ?_
  refine c_flat [(0, .bool false)] ⟨rfl, trivial⟩ (fun u => ?_)
  refine c_sta ⟨w0, M, (100135, g9, .cells #[.slice A84 x82.fitems.length c85, .slice A87 x82.fconns.length c88, .int .i64 x82.flast, .int .i64 x53.fopens] 61 (0, 0)) :: (100060, g50, .cells #[.int .i64 x42.fNumber, .int .i64 x42.fKind, .int .i64 x42.fFrom, .int .i64 x42.fTo, .int .i64 x42.fConn, .string x42.fBody] 40 (0, 0)) :: (100040, g41, .cells #[.int .i64 x33.fNumber, .int .i64 x33.fKind, .int .i64 x33.fFrom, .int .i64 x33.fTo, .int .i64 x33.fConn, .string x33.fBody] 40 (0, 0)) :: (100020, g32, .cells #[.int .i64 x24.fNumber, .int .i64 x24.fKind, .int .i64 x24.fFrom, .int .i64 x24.fTo, .int .i64 x24.fConn, .string x24.fBody] 40 (0, 0)) :: H, (100520, ⟨.slice A93 x91.length c94, 40, 6, x91.length, x91.flatMap GItem.enc⟩) :: (100130, ⟨.slice A84 x82.fitems.length c85, 40, 6, x82.fitems.length, x82.fitems.flatMap GItem.enc⟩) :: (100131, ⟨.slice A87 x82.fconns.length c88, 63, 3, x82.fconns.length, x82.fconns.flatMap Gnet_conn.enc⟩) :: (100470, ⟨.slice A78 x76.length c79, 40, 6, x76.length, x76.flatMap GItem.enc⟩) :: R, φ⟩ (fun _ h => h) <| c_ret ?_
  replace hm := Option.some.inj hm
  subst hm
  refine d_retC () Try.results9 ?_ trivial (fun W h => ok_pre (H1 := [_, _, _, _]) (R1 := [_, _, _, _]) h (fun W hφ => hφ)) (.inr rfl)
  refine res_tmp <| res_nil ?_
  exact rfl
noncomputable def m_ref08_Pick_j1 (p1 : Int) (i2 : Int) : Option Int :=
  (dvd p1).bind fun u3 =>
  some (i2.tmod p1)
noncomputable def m_ref08_Pick (p0 : Int) (p1 : Int) : Option Int :=
  if p0 < 0 then
    m_ref08_Pick_j1 p1 (w64 (0 - w64 (p0 + 1)))
  else
    m_ref08_Pick_j1 p1 p0
theorem c_ref08_Pick {w0 : World} {M : Nat → Prop} {H : List (Nat × Nat × Obj)} {R : List (Nat × Row)} {φ : World → Prop} (p0 : Int) (p1 : Int) (r : Int) (hm : m_ref08_Pick p0 p1 = some r) :
    Cn Try.prog 11 #[.int .i64 p0, .int .i64 p1] ⟨w0, M, H, R, φ⟩ (fun x : Unit => .int .i64 r) (fun x => True) (fun x => ⟨w0, M, H, R, φ⟩) := by
 unfold m_ref08_Pick at hm
 refine cn_intro (fn := Try.f11) (N := 13) Try.func11 rfl Try.ntmps11 rfl <| c_seq <| c_region <| g_v rfl r_assign <| g_nil <| d_then <| c_seq ?_
 refine c_cut (ι := Int) [0, 1] (fun i2 => [(0, .int .i64 i2)]) (fun i2 => ⟨w0, M, H, R, φ⟩) (fun i2 => m_ref08_Pick_j1 p1 i2 = some r) ?_ (fun i2 u hm => ?_)
 ·
  refine c_seq <| c_region <| g_v rfl r_move <| g_v rfl (r_lss rfl rfl) <| g_nil <| d_then ?_
  refine c_cond rfl (fun h4 => ?_) (fun h4 => ?_)
  ·
   replace hm := ite_t hm (of_decide_eq_true h4)
   refine c_region <| g_v rfl r_move <| g_v rfl (r_add rfl rfl rfl) <| g_v rfl (r_neg rfl rfl) <| g_v rfl r_assign <| g_nil ?_
   exact d_round (w64 (0 - w64 (p0 + 1))) hm Nat.zero_lt_one ⟨rfl, rfl, trivial⟩ (fun W h => h.phi (fun W hφ => hφ))
  ·
   replace hm := ite_f hm (of_decide_eq_false h4)
   refine c_skip ?_
   exact d_round p0 hm Nat.zero_lt_one ⟨rfl, rfl, trivial⟩ (fun W h => h.phi (fun W hφ => hφ))
 ·
  unfold m_ref08_Pick_j1 at hm
  refine d_flat [(0, .int .i64 i2), (1, .int .i64 p1)] ⟨rfl, rfl, trivial⟩ (fun u => ?_)
  refine d_sta ⟨w0, M, H, R, φ⟩ (fun _ h => h) <| d_then <| c_seq <| c_region <| g_v rfl r_move <| g_v rfl r_move ?_
  replace hm := bnd hm
  obtain ⟨u3, hu3, hm⟩ := hm
  refine g_v rfl (r_rem rfl rfl (dvd_some hu3) rfl) <| g_v rfl r_assign <| g_nil <| d_then <| c_ret ?_
  replace hm := Option.some.inj hm
  subst hm
  refine d_retC () Try.results11 ?_ trivial (fun W h => ok_pre (H1 := []) (R1 := []) h (fun W hφ => hφ)) (.inr rfl)
  refine res_tmp <| res_nil ?_
  exact rfl
theorem bld30_16  : ∀ W, (Instr.build 30 #[]).run Try.prog W = .ok (.agg #[.int .i64 0, .int .i64 0]) W := fun _ => by kernel_rfl
theorem eqq30 (a b : Garray30) : ∀ d W, (Op.equalIn (d + 5) 30 (.agg #[.int .i64 a.a0, .int .i64 a.a1]) (.agg #[.int .i64 b.a0, .int .i64 b.a1])).run Try.prog W = .ok (decide (a = b)) W := by
  intro d W
  have h := eqa_of (d := d + 4) (n := 2) (xs := #[.int .i64 a.a0, .int .i64 a.a1]) (ys := #[.int .i64 b.a0, .int .i64 b.a1]) (w := W) Try.underlying30 (by kernel_rfl) (eqi_cons (a := .int .i64 a.a0) (b := .int .i64 b.a0) (by kernel_rfl) (by kernel_rfl) (eqs_int Try.underlying3) (eqi_cons (a := .int .i64 a.a1) (b := .int .i64 b.a1) (by kernel_rfl) (by kernel_rfl) (eqs_int Try.underlying3) eqi_nil))
  refine h.trans ?_
  congr 1
  cases a; cases b
  simp only [Garray30.mk.injEq, Bool.and_true]
  simp only [Bool.decide_and]
theorem eqg30 : Try.prog.eqGuardType Try.prog.depth 30 = false := by kernel_rfl
end Go.Proofs.Ythajfodilodhaaa
