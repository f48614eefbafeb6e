import Derived.Test.YtpdhdpefdgndeaaQL
import Derived.Test.YtpdhdpefdgndeaaSH
import Derived.Test.YtpdhdpefdgndeaaRG
set_option maxRecDepth 100000
set_option maxHeartbeats 4000000
set_option linter.unusedVariables false
set_option linter.unusedSimpArgs false
namespace Go.Proofs.Ytpdhdpefdgndeaa
open Go.RowKit Go.Proofs.YtpdhdpefdgndeaaW.PrintLast
structure GQuestion where
  fName : ByteArray
  fType : Int
  fClass : Int
  deriving DecidableEq
def GQuestion.enc (e : GQuestion) : List Value := [.string e.fName, .int .u16 e.fType, .int .u16 e.fClass]
structure GRR where
  fName : ByteArray
  fType : Int
  fClass : Int
  fTTL : Int
  fData : ByteArray
  deriving DecidableEq
def GRR.enc (e : GRR) : List Value := [.string e.fName, .int .u16 e.fType, .int .u16 e.fClass, .int .u32 e.fTTL, .string e.fData]
structure GMessage where
  fID : Int
  fResponse : Bool
  fAuthoritative : Bool
  fTruncated : Bool
  fDesired : Bool
  fAvailable : Bool
  fOpcode : Int
  fCode : Int
  fQuestions : List GQuestion
  fAnswers : List GRR
  fAuthorities : List GRR
  fExtras : List GRR
theorem bld74_0 (z0 : ByteArray) (z1 : Int) (z2 : Int) : ∀ W, (Instr.build 74 #[(0, .string z0), (1, .int .u16 z1), (2, .int .u16 z2)]).run Try.prog W = .ok (.agg #[.string z0, .int .u16 z1, .int .u16 z2]) W := fun _ => by kernel_rfl
theorem lit74_1 (z0 : ByteArray) (z1 : Int) (z2 : Int) : Try.prog.builtSlice 74 1 [(0, .agg #[.string z0, .int .u16 z1, .int .u16 z2])] = some #[.string z0, .int .u16 z1, .int .u16 z2] := by kernel_rfl
theorem bld62_2 (z0 : Int) (zA1 : Option Addr) (zn1 : Nat) (zc1 : Nat) : ∀ W, (Instr.build 62 #[(0, .int .u16 z0), (8, .slice zA1 zn1 zc1)]).run Try.prog W = .ok (.agg #[.int .u16 z0, .bool false, .bool false, .bool false, .bool false, .bool false, .int .i64 0, .int .i64 0, .slice zA1 zn1 zc1, .slice none 0 0, .slice none 0 0, .slice none 0 0]) W := fun _ => by kernel_rfl
noncomputable def m_message_Query (p0 : Int) (p1 : GQuestion) : Option GMessage :=
  some (⟨p0, false, false, false, false, false, 0, 0, [p1], ([] : List GRR), ([] : List GRR), ([] : List GRR)⟩ : GMessage)
theorem c_message_Query {w0 : World} {M : Nat → Prop} {H : List (Nat × Nat × Obj)} {R : List (Nat × Row)} {φ : World → Prop} (p0 : Int) (p1 : GQuestion) (r : GMessage) (hm : m_message_Query p0 p1 = some r) :
    Cn Try.prog 51 #[.int .u16 p0, .agg #[.string p1.fName, .int .u16 p1.fType, .int .u16 p1.fClass]] ⟨w0, M, H, R, φ⟩ (fun x : Option Addr × Nat × Option Addr × Nat × Option Addr × Nat × Option Addr × Nat => .agg #[.int .u16 r.fID, .bool r.fResponse, .bool r.fAuthoritative, .bool r.fTruncated, .bool r.fDesired, .bool r.fAvailable, .int .i64 r.fOpcode, .int .i64 r.fCode, .slice x.1 r.fQuestions.length x.2.1, .slice x.2.2.1 r.fAnswers.length x.2.2.2.1, .slice x.2.2.2.2.1 r.fAuthorities.length x.2.2.2.2.2.1, .slice x.2.2.2.2.2.2.1 r.fExtras.length x.2.2.2.2.2.2.2]) (fun x => r.fQuestions.length ≤ x.2.1 ∧ r.fAnswers.length ≤ x.2.2.2.1 ∧ r.fAuthorities.length ≤ x.2.2.2.2.2.1 ∧ r.fExtras.length ≤ x.2.2.2.2.2.2.2) (fun x => ⟨w0, M, H, R, fun W => φ W ∧ Cl W x.1 (r.fQuestions.flatMap GQuestion.enc) ∧ Cl W x.2.2.1 (r.fAnswers.flatMap GRR.enc) ∧ Cl W x.2.2.2.2.1 (r.fAuthorities.flatMap GRR.enc) ∧ Cl W x.2.2.2.2.2.2.1 (r.fExtras.flatMap GRR.enc)⟩) := by
 unfold m_message_Query at hm
 refine cn_intro (fn := Try.f51) (N := 9) Try.func51 rfl Try.ntmps51 rfl <| c_seq <| c_region ?_
 refine g_e rfl (e_box 100030 rfl) (fun g1 _ => ?_)
 refine g_e rfl (e_alloc 100040 Try.zeroValue62) (fun g2 _ => ?_)
 refine g_nil <| d_then <| c_seq <| c_region <| g_v rfl r_move <| g_v rfl (r_loadA (tag := 100030) rfl rfl Try.isAgg74 Try.sizeOf74 rfl rfl) ?_
 refine g_e rfl (e_lit (tag := 100070) (l := [p1]) (enc := GQuestion.enc) (sz := 3) rfl Try.underlying60 (lit74_1 _ _ _) rfl rfl (fun _ => rfl)) (fun g3 _ => ?_)
 refine g_v rfl (r_build _ rfl (bld62_2 _ _ _ _)) <| g_storeL (tag := 100040) rfl rfl rfl rfl Try.sizeOf62 rfl rfl <| g_nil <| d_then <| c_ret ?_
 replace hm := Option.some.inj hm
 subst hm
 refine d_shut (tag := 100070) rfl (fun φ4 q4' => ?_)
 have q4 : ∀ W, φ4 W → φ W := fun W h => (q4' W h).1
 have f5 := fun (W : World) (h : φ4 W) => (q4' W h).2
 refine d_retC (some ⟨g3, 0, none⟩, 1, none, 0, none, 0, none, 0) Try.results51 ?_ ⟨(Nat.le_refl _), (Nat.le_refl 0), (Nat.le_refl 0), (Nat.le_refl 0)⟩ (fun W h => ok_pre (H1 := [_, _]) (R1 := []) h (fun W hφ => ⟨(q4 _ hφ), (fun W h => f5 W h) W hφ, (fun W _ => Cl.nil _ _) W hφ, (fun W _ => Cl.nil _ _) W hφ, (fun W _ => Cl.nil _ _) W hφ⟩)) (.inr rfl)
 refine res_agg (tag := 100040) rfl rfl Try.isAgg62 Try.sizeOf62 <| res_nil ?_
 exact rfl
structure Gpack_Packer where
  fb : List Int
  fplaces : List (ByteArray × Int)
theorem bld100_3  : ∀ W, (Instr.build 100 #[]).run Try.prog W = .ok (.agg #[.slice none 0 0, .map none]) W := fun _ => by kernel_rfl
noncomputable def m_pack_New  : Option Gpack_Packer :=
  some (⟨([] : List Int), ([] : List (ByteArray × Int))⟩ : Gpack_Packer)
theorem c_pack_New {w0 : World} {M : Nat → Prop} {H : List (Nat × Nat × Obj)} {R : List (Nat × Row)} {φ : World → Prop}  (r : Gpack_Packer) (hm : m_pack_New = some r) :
    Cn Try.prog 20 #[] ⟨w0, M, H, R, φ⟩ (fun x : Option Addr × Nat × Option Addr × Nat × Nat => .pointer (some ⟨x.2.2.2.2, 0, none⟩)) (fun x => r.fb.length ≤ x.2.1 ∧ True) (fun x => ⟨w0, M, (3000, x.2.2.2.2, .cells #[.slice x.1 r.fb.length x.2.1, mapV x.2.2.1] 100 (0, 0)) :: H, (2000, ⟨.slice x.1 r.fb.length x.2.1, 5, 1, r.fb.length, r.fb.flatMap (fun x : Int => [Value.int .u8 x])⟩) :: (2001, ⟨mapV x.2.2.1, 98, 2, r.fplaces.length, r.fplaces.flatMap (mcell (fun x : ByteArray => Value.string x) (fun x : Int => Value.int .i64 x))⟩) :: R, φ⟩) := by
 unfold m_pack_New at hm
 refine cn_intro (fn := Try.f20) (N := 3) Try.func20 rfl Try.ntmps20 rfl <| c_seq <| c_region <| g_v rfl r_assign <| g_nil <| d_then <| c_seq <| c_region <| g_v rfl (r_build _ rfl (bld100_3)) ?_
 refine g_e rfl (e_box 100020 rfl) (fun g1 _ => ?_)
 refine g_v rfl r_assign <| g_nil <| d_then <| c_ret ?_
 replace hm := Option.some.inj hm
 subst hm
 refine d_sta _ (fun W h => nilR h 11 5 1) <| d_sta _ (fun W h => nilM h 12 98) <| d_sta _ (fun W h => ok_frontR (t := 12) (t' := 2001) h rfl) <| d_sta _ (fun W h => ok_frontR (t := 11) (t' := 2000) h rfl) <| d_sta _ (fun W h => ok_front (t := 100020) (t' := 3000) h rfl) ?_
 refine d_retC (none, 0, none, 0, g1) Try.results20 ?_ ⟨(Nat.le_refl 0), trivial⟩ (fun W h => h.phi (fun W hφ => hφ)) (.inr rfl)
 refine res_tmp <| res_nil ?_
 exact rfl
theorem lit5_4 (z0 : Int) (z1 : Int) : Try.prog.builtSlice 5 2 [(0, .int .u8 z0), (1, .int .u8 z1)] = some #[.int .u8 z0, .int .u8 z1] := by kernel_rfl
theorem inf5_5  : (Try.prog.info? 5).map (fun i => (i.zero, i.size, i.bytes)) = some (some (.int .u8 0), 1, 1) := by kernel_rfl
noncomputable def m_pack_Packer_put (p1 : List Int) (o0 : Gpack_Packer) : Option Gpack_Packer :=
  (app 1 o0.fb p1).bind fun l1 =>
  some (⟨l1, o0.fplaces⟩ : Gpack_Packer)
theorem c_pack_Packer_put {w0 : World} {M : Nat → Prop} {H : List (Nat × Nat × Obj)} {R : List (Nat × Row)} {φ : World → Prop} (p1 : List Int) (Ap1_0 : Option Addr) (cp1_0 : Nat) (hcp1_0 : p1.length ≤ cp1_0) (fp1_0 : ∀ W, (Sta.mk w0 M H R φ).ok W → Cl W Ap1_0 (p1.flatMap (fun x : Int => [Value.int .u8 x]))) (go0 : Nat) (o0 : Gpack_Packer) (Ao0_0 : Option Addr) (co0_0 : Nat) (hco0_0 : o0.fb.length ≤ co0_0) (Ao0_1 : Option Addr) (co0_1 : Nat) (hco0_1 : True) (r : Gpack_Packer) (hm : m_pack_Packer_put p1 o0 = some r) :
    Cn Try.prog 67 #[.pointer (some ⟨go0, 0, none⟩), .slice Ap1_0 p1.length cp1_0] ⟨w0, M, (1000, go0, .cells #[.slice Ao0_0 o0.fb.length co0_0, mapV Ao0_1] 100 (0, 0)) :: H, (1000, ⟨.slice Ao0_0 o0.fb.length co0_0, 5, 1, o0.fb.length, o0.fb.flatMap (fun x : Int => [Value.int .u8 x])⟩) :: (1001, ⟨mapV Ao0_1, 98, 2, o0.fplaces.length, o0.fplaces.flatMap (mcell (fun x : ByteArray => Value.string x) (fun x : Int => Value.int .i64 x))⟩) :: R, φ⟩ (fun x : Option Addr × Nat × Option Addr × Nat => .tuple #[]) (fun x => r.fb.length ≤ x.2.1 ∧ True) (fun x => ⟨w0, M, (1000, go0, .cells #[.slice x.1 r.fb.length x.2.1, mapV x.2.2.1] 100 (0, 0)) :: H, (2000, ⟨.slice x.1 r.fb.length x.2.1, 5, 1, r.fb.length, r.fb.flatMap (fun x : Int => [Value.int .u8 x])⟩) :: (2001, ⟨mapV x.2.2.1, 98, 2, r.fplaces.length, r.fplaces.flatMap (mcell (fun x : ByteArray => Value.string x) (fun x : Int => Value.int .i64 x))⟩) :: R, φ⟩) := by
 unfold m_pack_Packer_put at hm
 refine cn_intro (fn := Try.f67) (N := 15) Try.func67 rfl Try.ntmps67 rfl <| c_seq <| c_region <| g_v rfl r_move <| g_v rfl (r_neqP1 Try.underlying33 rfl rfl) <| g_nil <| d_then <| c_cond1 rfl rfl <| c_region <| g_v rfl r_move ?_
 refine g_v rfl r_move <| g_v rfl (r_nilck rfl) <| g_v rfl (r_field (n := 0) Try.underlying100 rfl Try.sizeOf77 rfl rfl) <| g_v rfl (r_load (tag := 1000) rfl rfl rfl Try.isAgg77) <| g_v rfl r_move ?_
 replace hm := bnd hm
 obtain ⟨l1, hl1, hm⟩ := hm
 refine g_e rfl (e_appR (enc := (fun x : Int => [Value.int .u8 x])) (l := o0.fb) (l1 := p1) (l2 := l1) (tag := 1000) Try.underlying77 inf5_5 rfl (by decide) (by decide) (fun _ => rfl) (fun _ => rfl) rfl hco0_0 rfl rfl (fun W hS => fp1_0 W (ok_pre (H1 := [_]) (R1 := [_, _]) hS (fun W h => h))) hl1) (fun ⟨A2, c3⟩ hc3 => ?_)
 refine g_v rfl (r_nilck rfl) <| g_v rfl (r_field (n := 0) Try.underlying100 rfl Try.sizeOf77 rfl rfl) <| g_storeL (tag := 1000) rfl rfl rfl rfl Try.sizeOf77 rfl rfl <| g_nil ?_
 replace hm := Option.some.inj hm
 subst hm
 refine d_sta _ (fun W h => ok_frontR (t := 1001) (t' := 2001) h rfl) <| d_sta _ (fun W h => ok_frontR (t := 1000) (t' := 2000) h rfl) ?_
 refine d_retC (A2, c3, Ao0_1, co0_1) Try.results67 ?_ ⟨hc3, hco0_1⟩ (fun W h => h.phi (fun W hφ => hφ)) (.inl rfl)
 refine res_nil ?_
 exact rfl
noncomputable def m_pack_Packer_Word (p1 : Int) (o0 : Gpack_Packer) : Option Gpack_Packer :=
  (m_pack_Packer_put [IntKind.u8.wrap (p1 / 256), IntKind.u8.wrap p1] o0).bind fun x2 =>
  some x2
theorem c_pack_Packer_Word {w0 : World} {M : Nat → Prop} {H : List (Nat × Nat × Obj)} {R : List (Nat × Row)} {φ : World → Prop} (p1 : Int) (go0 : Nat) (o0 : Gpack_Packer) (Ao0_0 : Option Addr) (co0_0 : Nat) (hco0_0 : o0.fb.length ≤ co0_0) (Ao0_1 : Option Addr) (co0_1 : Nat) (hco0_1 : True) (r : Gpack_Packer) (hm : m_pack_Packer_Word p1 o0 = some r) :
    Cn Try.prog 69 #[.pointer (some ⟨go0, 0, none⟩), .int .u16 p1] ⟨w0, M, (1000, go0, .cells #[.slice Ao0_0 o0.fb.length co0_0, mapV Ao0_1] 100 (0, 0)) :: H, (1000, ⟨.slice Ao0_0 o0.fb.length co0_0, 5, 1, o0.fb.length, o0.fb.flatMap (fun x : Int => [Value.int .u8 x])⟩) :: (1001, ⟨mapV Ao0_1, 98, 2, o0.fplaces.length, o0.fplaces.flatMap (mcell (fun x : ByteArray => Value.string x) (fun x : Int => Value.int .i64 x))⟩) :: R, φ⟩ (fun x : Option Addr × Nat × Option Addr × Nat => .tuple #[]) (fun x => r.fb.length ≤ x.2.1 ∧ True) (fun x => ⟨w0, M, (1000, go0, .cells #[.slice x.1 r.fb.length x.2.1, mapV x.2.2.1] 100 (0, 0)) :: H, (2000, ⟨.slice x.1 r.fb.length x.2.1, 5, 1, r.fb.length, r.fb.flatMap (fun x : Int => [Value.int .u8 x])⟩) :: (2001, ⟨mapV x.2.2.1, 98, 2, r.fplaces.length, r.fplaces.flatMap (mcell (fun x : ByteArray => Value.string x) (fun x : Int => Value.int .i64 x))⟩) :: R, φ⟩) := by
 unfold m_pack_Packer_Word at hm
 refine cn_intro (fn := Try.f69) (N := 12) Try.func69 rfl Try.ntmps69 rfl <| c_region <| g_v rfl r_move <| g_v rfl r_move <| g_v rfl (r_shr (n := 256) rfl rfl (by decide) (by decide) (by decide)) <| g_v rfl (r_conv Try.underlying24 Try.underlying5 rfl rfl) <| g_v rfl r_move <| g_v rfl (r_conv Try.underlying24 Try.underlying5 rfl rfl) ?_
 refine g_e rfl (e_lit (tag := 100100) (l := [IntKind.u8.wrap (p1 / 256), IntKind.u8.wrap p1]) (enc := (fun x : Int => [Value.int .u8 x])) (sz := 1) rfl Try.underlying77 (lit5_4 _ _) rfl rfl (fun _ => rfl)) (fun g1 _ => ?_)
 replace hm := bnd hm
 obtain ⟨x2, hx3, hm⟩ := hm
 refine g_cn ⟨w0, M, (1000, go0, .cells #[.slice Ao0_0 o0.fb.length co0_0, mapV Ao0_1] 100 (0, 0)) :: H, (1000, ⟨.slice Ao0_0 o0.fb.length co0_0, 5, 1, o0.fb.length, o0.fb.flatMap (fun x : Int => [Value.int .u8 x])⟩) :: (1001, ⟨mapV Ao0_1, 98, 2, o0.fplaces.length, o0.fplaces.flatMap (mcell (fun x : ByteArray => Value.string x) (fun x : Int => Value.int .i64 x))⟩) :: (100100, ⟨.slice (some ⟨g1, 0, none⟩) [IntKind.u8.wrap (p1 / 256), IntKind.u8.wrap p1].length 2, 5, 1, [IntKind.u8.wrap (p1 / 256), IntKind.u8.wrap p1].length, [IntKind.u8.wrap (p1 / 256), IntKind.u8.wrap p1].flatMap (fun x : Int => [Value.int .u8 x])⟩) :: R, φ⟩ (fun W h => (ok_front (t := 1000) (t' := 1000) (ok_frontR (t := 1000) (t' := 1000) (ok_frontR (t := 1001) (t' := 1001) h rfl) rfl) rfl)) Try.call67 rfl rfl (c_pack_Packer_put [IntKind.u8.wrap (p1 / 256), IntKind.u8.wrap p1] (some ⟨g1, 0, none⟩) 2 (Nat.le_refl _) (fun W hS => rowCl (tag := 100100) rfl W hS) go0 o0 Ao0_0 co0_0 hco0_0 Ao0_1 co0_1 trivial _ hx3) (fun ⟨A4, c5, A7, c8⟩ ⟨hc5, hc8⟩ => ?_)
 refine g_sta _ (fun W h => (ok_frontR (t := 2000) (t' := 1000) (ok_frontR (t := 2001) (t' := 1001) (ok_front (t := 1000) (t' := 1000) h rfl) rfl) rfl)) <| g_nil ?_
 replace hm := Option.some.inj hm
 subst hm
 refine d_sta _ (fun W h => ok_frontR (t := 1001) (t' := 2001) h rfl) <| d_sta _ (fun W h => ok_frontR (t := 1000) (t' := 2000) h rfl) ?_
 refine d_retC (A4, c5, A7, c8) Try.results69 ?_ ⟨hc5, hc8⟩ (fun W h => (h.dropR (t := 100100) rfl).phi (fun W hφ => hφ)) (.inl rfl)
 refine res_nil ?_
 exact rfl
noncomputable def m_message_flags_put (p0 : Int) (p1 : Int) (p2 : Bool) : Option Int :=
  if p2 = true then
    some (orI .u16 p0 p1)
  else
    some p0
theorem c_message_flags_put {w0 : World} {M : Nat → Prop} {H : List (Nat × Nat × Obj)} {R : List (Nat × Row)} {φ : World → Prop} (p0 : Int) (p1 : Int) (p2 : Bool) (r : Int) (hm : m_message_flags_put p0 p1 p2 = some r) :
    Cn Try.prog 110 #[.int .u16 p0, .int .u16 p1, .bool p2] ⟨w0, M, H, R, φ⟩ (fun x : Unit => .int .u16 r) (fun x => True) (fun x => ⟨w0, M, H, R, φ⟩) := by
 unfold m_message_flags_put at hm
 refine cn_intro (fn := Try.f110) (N := 12) Try.func110 rfl Try.ntmps110 rfl <| c_seq <| c_region <| g_v rfl r_assign <| g_nil <| d_then <| c_seq <| c_seq <| c_region <| g_v rfl r_move ?_
 refine g_nil <| d_then ?_
 refine c_cond rfl (fun h1 => ?_) (fun h1 => ?_)
 ·
  replace hm := ite_t hm h1
  refine c_seq <| c_region <| g_v rfl r_move <| g_v rfl r_move <| g_v rfl (r_bits_or rfl rfl) <| g_v rfl r_assign <| g_nil <| d_then <| c_ret <| d_ret_then ?_
  replace hm := Option.some.inj hm
  subst hm
  refine d_retC () Try.results110 ?_ trivial (fun W h => ok_pre (H1 := []) (R1 := []) h (fun W hφ => hφ)) (.inr rfl)
  refine res_tmp <| res_nil ?_
  exact rfl
 ·
  replace hm := ite_f hm (bool_nt h1)
  refine c_skip <| d_then <| c_seq <| c_region <| g_v rfl r_move <| g_v rfl r_assign <| g_nil <| d_then <| c_ret ?_
  replace hm := Option.some.inj hm
  subst hm
  refine d_retC () Try.results110 ?_ trivial (fun W h => ok_pre (H1 := []) (R1 := []) h (fun W hφ => hφ)) (.inr rfl)
  refine res_tmp <| res_nil ?_
  exact rfl
structure Garray153 where
  a0 : List GRR
  a1 : List GRR
  a2 : List GRR
theorem bld153_6 (zA0 : Option Addr) (zn0 : Nat) (zc0 : Nat) (zA1 : Option Addr) (zn1 : Nat) (zc1 : Nat) (zA2 : Option Addr) (zn2 : Nat) (zc2 : Nat) : ∀ W, (Instr.build 153 #[(0, .slice zA0 zn0 zc0), (1, .slice zA1 zn1 zc1), (2, .slice zA2 zn2 zc2)]).run Try.prog W = .ok (.agg #[.slice zA0 zn0 zc0, .slice zA1 zn1 zc1, .slice zA2 zn2 zc2]) W := fun _ => by kernel_rfl
noncomputable def m_message_sections (p0 : GMessage) : Option Garray153 :=
  some (⟨p0.fAnswers, p0.fAuthorities, p0.fExtras⟩ : Garray153)
theorem c_message_sections {w0 : World} {M : Nat → Prop} {H : List (Nat × Nat × Obj)} {R : List (Nat × Row)} {φ : World → Prop} (p0 : GMessage) (Ap0_0 : Option Addr) (cp0_0 : Nat) (hcp0_0 : p0.fQuestions.length ≤ cp0_0) (fp0_0 : ∀ W, (Sta.mk w0 M H R φ).ok W → Cl W Ap0_0 (p0.fQuestions.flatMap GQuestion.enc)) (Ap0_1 : Option Addr) (cp0_1 : Nat) (hcp0_1 : p0.fAnswers.length ≤ cp0_1) (fp0_1 : ∀ W, φ W → Cl W Ap0_1 (p0.fAnswers.flatMap GRR.enc)) (Ap0_2 : Option Addr) (cp0_2 : Nat) (hcp0_2 : p0.fAuthorities.length ≤ cp0_2) (fp0_2 : ∀ W, φ W → Cl W Ap0_2 (p0.fAuthorities.flatMap GRR.enc)) (Ap0_3 : Option Addr) (cp0_3 : Nat) (hcp0_3 : p0.fExtras.length ≤ cp0_3) (fp0_3 : ∀ W, φ W → Cl W Ap0_3 (p0.fExtras.flatMap GRR.enc)) (r : Garray153) (hm : m_message_sections p0 = some r) :
    Cn Try.prog 111 #[.agg #[.int .u16 p0.fID, .bool p0.fResponse, .bool p0.fAuthoritative, .bool p0.fTruncated, .bool p0.fDesired, .bool p0.fAvailable, .int .i64 p0.fOpcode, .int .i64 p0.fCode, .slice Ap0_0 p0.fQuestions.length cp0_0, .slice Ap0_1 p0.fAnswers.length cp0_1, .slice Ap0_2 p0.fAuthorities.length cp0_2, .slice Ap0_3 p0.fExtras.length cp0_3]] ⟨w0, M, H, R, φ⟩ (fun x : Option Addr × Nat × Option Addr × Nat × Option Addr × Nat => .agg #[.slice x.1 r.a0.length x.2.1, .slice x.2.2.1 r.a1.length x.2.2.2.1, .slice x.2.2.2.2.1 r.a2.length x.2.2.2.2.2]) (fun x => r.a0.length ≤ x.2.1 ∧ r.a1.length ≤ x.2.2.2.1 ∧ r.a2.length ≤ x.2.2.2.2.2) (fun x => ⟨w0, M, H, R, fun W => φ W ∧ Cl W x.1 (r.a0.flatMap GRR.enc) ∧ Cl W x.2.2.1 (r.a1.flatMap GRR.enc) ∧ Cl W x.2.2.2.2.1 (r.a2.flatMap GRR.enc)⟩) := by
 unfold m_message_sections at hm
 refine cn_intro (fn := Try.f111) (N := 10) Try.func111 rfl Try.ntmps111 rfl <| c_seq <| c_region ?_
 refine g_e rfl (e_box 100010 rfl) (fun g1 _ => ?_)
 refine g_e rfl (e_alloc 100020 Try.zeroValue153) (fun g2 _ => ?_)
 refine g_nil <| d_then <| c_seq <| c_region <| g_v rfl (r_field (n := 9) Try.underlying62 rfl Try.sizeOf32 rfl rfl) <| g_v rfl (r_load (tag := 100010) rfl rfl rfl Try.isAgg32) <| g_v rfl (r_field (n := 10) Try.underlying62 rfl Try.sizeOf32 rfl rfl) <| g_v rfl (r_load (tag := 100010) rfl rfl rfl Try.isAgg32) <| g_v rfl (r_field (n := 11) Try.underlying62 rfl Try.sizeOf32 rfl rfl) <| g_v rfl (r_load (tag := 100010) rfl rfl rfl Try.isAgg32) ?_
 refine g_v rfl (r_build _ rfl (bld153_6 _ _ _ _ _ _ _ _ _)) <| g_storeL (tag := 100020) rfl rfl rfl rfl Try.sizeOf153 rfl rfl <| g_nil <| d_then ?_
 refine c_flat [(2, .pointer (some ⟨g2, 0, none⟩))] ⟨rfl, trivial⟩ (fun u => ?_)
 refine c_sta ⟨w0, M, (100020, g2, .cells #[.slice Ap0_1 p0.fAnswers.length cp0_1, .slice Ap0_2 p0.fAuthorities.length cp0_2, .slice Ap0_3 p0.fExtras.length cp0_3] 153 (0, 0)) :: (100010, g1, .cells #[.int .u16 p0.fID, .bool p0.fResponse, .bool p0.fAuthoritative, .bool p0.fTruncated, .bool p0.fDesired, .bool p0.fAvailable, .int .i64 p0.fOpcode, .int .i64 p0.fCode, .slice Ap0_0 p0.fQuestions.length cp0_0, .slice Ap0_1 p0.fAnswers.length cp0_1, .slice Ap0_2 p0.fAuthorities.length cp0_2, .slice Ap0_3 p0.fExtras.length cp0_3] 62 (0, 0)) :: H, R, φ⟩ (fun _ h => h) <| c_ret ?_
 replace hm := Option.some.inj hm
 subst hm
 refine d_retC (Ap0_1, cp0_1, Ap0_2, cp0_2, Ap0_3, cp0_3) Try.results111 ?_ ⟨hcp0_1, hcp0_2, hcp0_3⟩ (fun W h => ok_pre (H1 := [_, _]) (R1 := []) h (fun W hφ => ⟨hφ, (fun W h => fp0_1 W h) W hφ, (fun W h => fp0_2 W h) W hφ, (fun W h => fp0_3 W h) W hφ⟩)) (.inr rfl)
 refine res_agg (tag := 100020) rfl rfl Try.isAgg153 Try.sizeOf153 <| res_nil ?_
 exact rfl
theorem lit9_7 (z0 : ByteArray) : Try.prog.builtSlice 9 1 [(0, .string z0)] = some #[.string z0] := by kernel_rfl
theorem inf9_8  : (Try.prog.info? 9).map (fun i => (i.zero, i.size, i.bytes)) = some (some (.string (⟨#[]⟩ : ByteArray)), 1, 16) := by kernel_rfl
noncomputable def m_name_Labels (p0 : ByteArray) : Option ((List ByteArray) × Int) :=
  (eachM p0).bind fun _ =>
  if (eachP p0).2 ≠ w64 ((p0.size : Int) - 1) then
    some (([] : List ByteArray), 10)
  else
    if (eachP p0).2 < 0 then
      some (([] : List ByteArray), 10)
    else
      if 255 < (p0.size : Int) then
        some (([] : List ByteArray), 11)
      else
        some (((eachP p0).1.map Prod.snd), 0)
theorem c_name_Labels {w0 : World} {M : Nat → Prop} {H : List (Nat × Nat × Obj)} {R : List (Nat × Row)} {φ : World → Prop} (p0 : ByteArray) (r : (List ByteArray) × Int) (hm : m_name_Labels p0 = some r) :
    Cn Try.prog 105 #[.string p0] ⟨w0, M, H, R, φ⟩ (fun x : Option Addr × Nat => .tuple #[.slice x.1 r.1.length x.2, .int .i64 r.2]) (fun x => r.1.length ≤ x.2) (fun x => ⟨w0, M, H, (2000, ⟨.slice x.1 r.1.length x.2, 9, 1, r.1.length, r.1.flatMap (fun x : ByteArray => [Value.string x])⟩) :: R, φ⟩) := by
 unfold m_name_Labels at hm
 refine cn_introM (fn := Try.f105) (N := 31) Try.func105 rfl Try.ntmps105 rfl <| c_seq <| c_region <| g_v rfl r_assign <| g_v rfl r_assign <| g_nil <| d_then <| c_seq <| c_region ?_
 refine g_e rfl (e_alloc 100040 Try.zeroValue105) (fun g1 _ => ?_)
 refine g_nil <| d_then <| c_seq <| c_region ?_
 refine g_e rfl (e_alloc 100050 Try.zeroValue3) (fun g2 _ => ?_)
 refine g_storeL (tag := 100050) rfl rfl rfl rfl Try.sizeOf3 rfl rfl <| g_nil <| d_then <| c_seq <| c_seq <| c_region <| g_v rfl r_move ?_
 refine g_cn ⟨w0, M, _, _, φ⟩ (fun _ h => h) Try.call117 rfl rfl (c_each p0 g2) (fun ⟨g3, g4⟩ _ => ?_)
 refine g_sta _ (fun W h => ok_front (t := 3000) (t' := 100095) (ok_front (t := 3001) (t' := 100096) h rfl) rfl) <| g_nil <| d_then <| c_block <| c_sta _ (fun W h => nilR (ok_front (t := 100050) (t' := 0) (ok_front (t := 100095) (t' := 1) (ok_front (t := 100096) (t' := 2) (ok_front (t := 100040) (t' := 3) h rfl) rfl) rfl) rfl) 4 9 1) ?_
 replace hm := bnd hm
 obtain ⟨_, hz8, hm⟩ := hm
 replace hz8 := (eachM_some hz8).1
 refine c_collect Prod.snd (fun x : ByteArray => Value.string x) rfl rfl hz8 (.inl rfl) (.inl ⟨rfl, fun _ => rfl⟩) Try.underlying105 inf9_8 rfl (by decide) (by decide) (fun _ => lit9_7 _) (fun _ => rfl) Try.sizeOf105 Try.isAgg105 rfl rfl rfl (fun A6 c7 g5 hc7 => ?_)
 refine d_sta _ (fun W h => (ok_front (t := 0) (t' := 100050) (ok_front (t := 1) (t' := 100095) (ok_front (t := 2) (t' := 100096) (ok_front (t := 3) (t' := 100040) h rfl) rfl) rfl) rfl)) <| d_normal_block <| d_then <| c_seq <| c_block <| c_seq <| c_region <| g_v rfl (r_load (tag := 100050) rfl rfl rfl Try.isAgg3) <| g_v rfl r_move <| g_v rfl (r_len Try.underlying9 rfl) ?_
 refine g_v rfl (r_sub rfl rfl rfl) <| g_v rfl (r_neq rfl rfl) <| g_v rfl r_move ?_
 refine g_if rfl rfl rfl rfl rfl (fun h9 => ?_) (fun h9 => ?_)
 ·
  replace hm := ite_f hm (of_decide_eq_false h9)
  refine g_v rfl (r_load (tag := 100050) rfl rfl rfl Try.isAgg3) <| g_do rfl rfl rfl rfl rfl h9 <| g_v rfl (r_lss rfl rfl) <| g_v rfl (r_pick0 rfl h9) <| g_v rfl r_assign <| g_nil <| d_then ?_
  refine c_flat [(0, .string p0), (4, .pointer (some ⟨g1, 0, none⟩)), (16, .bool (decide ((eachP p0).2 < 0)))] ⟨rfl, rfl, rfl, trivial⟩ (fun u => ?_)
  refine c_sta ⟨w0, M, (100050, g2, .cells #[.int .i64 ((eachP p0).2)] 3 (0, 0)) :: (100095, g3, .cells #[.pointer (some ⟨g2, 0, none⟩)] 162 (0, 0)) :: (100096, g4, .cells #[.string p0] 9 (0, 0)) :: (100040, g1, .cells #[.slice A6 ((eachP p0).1.map Prod.snd).length c7] 105 (0, 0)) :: (5, g5, .deferred (some [])) :: H, (4, ⟨.slice A6 ((eachP p0).1.map Prod.snd).length c7, 9, 1, ((eachP p0).1.map Prod.snd).length, ((eachP p0).1.map Prod.snd).flatMap (fun x : ByteArray => [Value.string x])⟩) :: R, φ⟩ (fun _ h => h) ?_
  refine c_cond rfl (fun h10 => ?_) (fun h10 => ?_)
  ·
   replace hm := ite_t hm (of_decide_eq_true h10)
   refine c_seq <| c_region <| g_v rfl r_assign <| g_v rfl r_assign <| g_nil <| d_then <| c_ret <| d_ret_block <| d_ret_then ?_
   replace hm := Option.some.inj hm
   subst hm
   refine d_sta _ (fun W h => nilR h 11 9 1) <| d_sta _ (fun W h => ok_frontR (t := 11) (t' := 2000) h rfl) ?_
   refine d_retM (tD := 5) (none, 0) Try.results105 ?_ (Nat.le_refl 0) rfl (by simp) (fun W h => (((((h.dropR (t := 4) rfl).dropH (t := 100050) rfl).dropH (t := 100095) rfl).dropH (t := 100096) rfl).dropH (t := 100040) rfl).phi (fun W hφ => hφ)) (.inr rfl)
   refine res_tmp <| res_tmp <| res_nil ?_
   exact rfl
  ·
   replace hm := ite_f hm (of_decide_eq_false h10)
   refine c_seq <| c_region <| g_v rfl r_move <| g_v rfl (r_len Try.underlying9 rfl) <| g_v rfl (r_gtr rfl rfl) <| g_v rfl r_assign <| g_nil <| d_then ?_
   refine c_cond rfl (fun h11 => ?_) (fun h11 => ?_)
   ·
    replace hm := ite_t hm (of_decide_eq_true h11)
    refine c_seq <| c_region <| g_v rfl r_assign <| g_v rfl r_assign <| g_nil <| d_then <| c_ret <| d_ret_block <| d_ret_then ?_
    replace hm := Option.some.inj hm
    subst hm
    refine d_sta _ (fun W h => nilR h 12 9 1) <| d_sta _ (fun W h => ok_frontR (t := 12) (t' := 2000) h rfl) ?_
    refine d_retM (tD := 5) (none, 0) Try.results105 ?_ (Nat.le_refl 0) rfl (by simp) (fun W h => (((((h.dropR (t := 4) rfl).dropH (t := 100050) rfl).dropH (t := 100095) rfl).dropH (t := 100096) rfl).dropH (t := 100040) rfl).phi (fun W hφ => hφ)) (.inr rfl)
    refine res_tmp <| res_tmp <| res_nil ?_
    exact rfl
   ·
    replace hm := ite_f hm (of_decide_eq_false h11)
    refine c_skip <| d_normal_block <| d_then <| c_seq <| c_region <| g_v rfl (r_load (tag := 100040) rfl rfl rfl Try.isAgg105) <| g_v rfl r_assign <| g_v rfl r_assign <| g_nil <| d_then ?_
    refine c_ret ?_
    replace hm := Option.some.inj hm
    subst hm
    refine d_sta _ (fun W h => ok_frontR (t := 4) (t' := 2000) h rfl) ?_
    refine d_retM (tD := 5) (A6, c7) Try.results105 ?_ hc7 rfl (by simp) (fun W h => ((((h.dropH (t := 100050) rfl).dropH (t := 100095) rfl).dropH (t := 100096) rfl).dropH (t := 100040) rfl).phi (fun W hφ => hφ)) (.inr rfl)
    refine res_tmp <| res_tmp <| res_nil ?_
    exact rfl
 ·
  replace hm := ite_t hm (of_decide_eq_true h9)
  refine g_no rfl rfl rfl rfl rfl h9 <| g_v rfl (r_pick1 rfl h9) <| g_v rfl r_assign <| g_nil <| d_then ?_
  refine c_flat [(0, .string p0), (4, .pointer (some ⟨g1, 0, none⟩)), (16, .bool true)] ⟨rfl, rfl, rfl, trivial⟩ (fun u => ?_)
  refine c_sta ⟨w0, M, (100050, g2, .cells #[.int .i64 ((eachP p0).2)] 3 (0, 0)) :: (100095, g3, .cells #[.pointer (some ⟨g2, 0, none⟩)] 162 (0, 0)) :: (100096, g4, .cells #[.string p0] 9 (0, 0)) :: (100040, g1, .cells #[.slice A6 ((eachP p0).1.map Prod.snd).length c7] 105 (0, 0)) :: (5, g5, .deferred (some [])) :: H, (4, ⟨.slice A6 ((eachP p0).1.map Prod.snd).length c7, 9, 1, ((eachP p0).1.map Prod.snd).length, ((eachP p0).1.map Prod.snd).flatMap (fun x : ByteArray => [Value.string x])⟩) :: R, φ⟩ (fun _ h => h) <| c_cond1 rfl rfl <| c_seq <| c_region <| g_v rfl r_assign <| g_v rfl r_assign <| g_nil <| d_then <| c_ret <| d_ret_block ?_
  refine d_ret_then ?_
  replace hm := Option.some.inj hm
  subst hm
  refine d_sta _ (fun W h => nilR h 13 9 1) <| d_sta _ (fun W h => ok_frontR (t := 13) (t' := 2000) h rfl) ?_
  refine d_retM (tD := 5) (none, 0) Try.results105 ?_ (Nat.le_refl 0) rfl (by simp) (fun W h => (((((h.dropR (t := 4) rfl).dropH (t := 100050) rfl).dropH (t := 100095) rfl).dropH (t := 100096) rfl).dropH (t := 100040) rfl).phi (fun W hφ => hφ)) (.inr rfl)
  refine res_tmp <| res_tmp <| res_nil ?_
  exact rfl
noncomputable def m_name_Check (p0 : ByteArray) : Option Int :=
  (m_name_Labels p0).bind fun (z7 : (List ByteArray) × Int) =>
  some z7.2
theorem c_name_Check {w0 : World} {M : Nat → Prop} {H : List (Nat × Nat × Obj)} {R : List (Nat × Row)} {φ : World → Prop} (p0 : ByteArray) (r : Int) (hm : m_name_Check p0 = some r) :
    Cn Try.prog 79 #[.string p0] ⟨w0, M, H, R, φ⟩ (fun x : Unit => .int .i64 r) (fun x => True) (fun x => ⟨w0, M, H, R, φ⟩) := by
 unfold m_name_Check at hm
 refine cn_intro (fn := Try.f79) (N := 11) Try.func79 rfl Try.ntmps79 rfl <| c_seq <| c_region <| g_v rfl r_assign <| g_nil <| d_then <| c_seq <| c_region <| g_v rfl r_move ?_
 replace hm := bnd hm
 obtain ⟨⟨x1, x2⟩, hx3, hm⟩ := hm
 refine g_cn ⟨w0, M, _, _, φ⟩ (fun _ h => h) Try.call105 rfl rfl (c_name_Labels p0 _ hx3) (fun ⟨A4, c5⟩ hc5 => ?_)
 refine g_sta _ (fun W h => (ok_frontR (t := 2000) (t' := 100070) h rfl)) <| g_v rfl r_move <| g_v rfl (r_extract rfl rfl) <| g_v rfl (r_extract rfl rfl) <| g_v rfl r_assign <| g_v rfl r_assign <| g_nil <| d_then <| c_seq <| c_region ?_
 refine g_v rfl r_move <| g_v rfl r_assign <| g_nil <| d_then ?_
 refine c_flat [(2, .int .i64 x2)] ⟨rfl, trivial⟩ (fun u => ?_)
 refine c_sta ⟨w0, M, H, (100070, ⟨.slice A4 x1.length c5, 9, 1, x1.length, x1.flatMap (fun x : ByteArray => [Value.string x])⟩) :: R, φ⟩ (fun _ h => h) <| c_ret ?_
 replace hm := Option.some.inj hm
 subst hm
 refine d_retC () Try.results79 ?_ trivial (fun W h => ok_pre (H1 := []) (R1 := [_]) h (fun W hφ => hφ)) (.inr rfl)
 refine res_tmp <| res_nil ?_
 exact rfl
theorem mapT98_9  : MapTy Try.prog 98 9 3 (fun x : ByteArray => Value.string x) (fun x : Int => Value.int .i64 x) (fun x : ByteArray => decide (x.size ≤ 9223372036854775807)) 0 := ⟨Try.underlying98, Go.Maps.string_keyed Try.underlying9, fun k hk => ⟨_, Go.WideMaps.keyOf_string_mk Try.underlying9 (of_decide_eq_true hk)⟩, fun a b h => Value.string.inj h, fun _ => Try.zeroValue3 _⟩
noncomputable def m_pack_Packer_Raw (p1 : ByteArray) (o0 : Gpack_Packer) : Option Gpack_Packer :=
  (m_pack_Packer_put (bytesI p1) o0).bind fun x5 =>
  some x5
theorem c_pack_Packer_Raw {w0 : World} {M : Nat → Prop} {H : List (Nat × Nat × Obj)} {R : List (Nat × Row)} {φ : World → Prop} (p1 : ByteArray) (go0 : Nat) (o0 : Gpack_Packer) (Ao0_0 : Option Addr) (co0_0 : Nat) (hco0_0 : o0.fb.length ≤ co0_0) (Ao0_1 : Option Addr) (co0_1 : Nat) (hco0_1 : True) (r : Gpack_Packer) (hm : m_pack_Packer_Raw p1 o0 = some r) :
    Cn Try.prog 21 #[.pointer (some ⟨go0, 0, none⟩), .string p1] ⟨w0, M, (1000, go0, .cells #[.slice Ao0_0 o0.fb.length co0_0, mapV Ao0_1] 100 (0, 0)) :: H, (1000, ⟨.slice Ao0_0 o0.fb.length co0_0, 5, 1, o0.fb.length, o0.fb.flatMap (fun x : Int => [Value.int .u8 x])⟩) :: (1001, ⟨mapV Ao0_1, 98, 2, o0.fplaces.length, o0.fplaces.flatMap (mcell (fun x : ByteArray => Value.string x) (fun x : Int => Value.int .i64 x))⟩) :: R, φ⟩ (fun x : Option Addr × Nat × Option Addr × Nat => .tuple #[]) (fun x => r.fb.length ≤ x.2.1 ∧ True) (fun x => ⟨w0, M, (1000, go0, .cells #[.slice x.1 r.fb.length x.2.1, mapV x.2.2.1] 100 (0, 0)) :: H, (2000, ⟨.slice x.1 r.fb.length x.2.1, 5, 1, r.fb.length, r.fb.flatMap (fun x : Int => [Value.int .u8 x])⟩) :: (2001, ⟨mapV x.2.2.1, 98, 2, r.fplaces.length, r.fplaces.flatMap (mcell (fun x : ByteArray => Value.string x) (fun x : Int => Value.int .i64 x))⟩) :: R, φ⟩) := by
 unfold m_pack_Packer_Raw at hm
 refine cn_intro (fn := Try.f21) (N := 8) Try.func21 rfl Try.ntmps21 rfl <| c_region <| g_v rfl r_move <| g_v rfl r_move ?_
 refine g_bytes rfl Try.underlying9 Try.underlying77 Try.underlying5 rfl (fun A1 c2 hc2 φ3 q3' => ?_)
 have q3 : ∀ W, φ3 W → φ W := fun W h => (q3' W h).1
 have f4 := fun (W : World) (h : φ3 W) => (q3' W h).2
 replace hm := bnd hm
 obtain ⟨x5, hx6, hm⟩ := hm
 refine g_cn ⟨w0, M, (1000, go0, .cells #[.slice Ao0_0 o0.fb.length co0_0, mapV Ao0_1] 100 (0, 0)) :: H, (1000, ⟨.slice Ao0_0 o0.fb.length co0_0, 5, 1, o0.fb.length, o0.fb.flatMap (fun x : Int => [Value.int .u8 x])⟩) :: (1001, ⟨mapV Ao0_1, 98, 2, o0.fplaces.length, o0.fplaces.flatMap (mcell (fun x : ByteArray => Value.string x) (fun x : Int => Value.int .i64 x))⟩) :: R, φ3⟩ (fun W h => (ok_front (t := 1000) (t' := 1000) (ok_frontR (t := 1000) (t' := 1000) (ok_frontR (t := 1001) (t' := 1001) h rfl) rfl) rfl)) Try.call67 rfl rfl (c_pack_Packer_put (bytesI p1) A1 c2 hc2 (fun W hS => f4 W hS.now) go0 o0 Ao0_0 co0_0 hco0_0 Ao0_1 co0_1 trivial _ hx6) (fun ⟨A7, c8, A10, c11⟩ ⟨hc8, hc11⟩ => ?_)
 refine g_sta _ (fun W h => (ok_frontR (t := 2000) (t' := 1000) (ok_frontR (t := 2001) (t' := 1001) (ok_front (t := 1000) (t' := 1000) h rfl) rfl) rfl)) <| g_nil ?_
 replace hm := Option.some.inj hm
 subst hm
 refine d_sta _ (fun W h => ok_frontR (t := 1001) (t' := 2001) h rfl) <| d_sta _ (fun W h => ok_frontR (t := 1000) (t' := 2000) h rfl) ?_
 refine d_retC (A7, c8, A10, c11) Try.results21 ?_ ⟨hc8, hc11⟩ (fun W h => h.phi (fun W hφ => (q3 _ hφ))) (.inl rfl)
 refine res_nil ?_
 exact rfl
theorem lit5_10 (z0 : Int) : Try.prog.builtSlice 5 1 [(0, .int .u8 z0)] = some #[.int .u8 z0] := by kernel_rfl
noncomputable def m_pack_Packer_Byte (p1 : Int) (o0 : Gpack_Packer) : Option Gpack_Packer :=
  (m_pack_Packer_put [p1] o0).bind fun x2 =>
  some x2
theorem c_pack_Packer_Byte {w0 : World} {M : Nat → Prop} {H : List (Nat × Nat × Obj)} {R : List (Nat × Row)} {φ : World → Prop} (p1 : Int) (go0 : Nat) (o0 : Gpack_Packer) (Ao0_0 : Option Addr) (co0_0 : Nat) (hco0_0 : o0.fb.length ≤ co0_0) (Ao0_1 : Option Addr) (co0_1 : Nat) (hco0_1 : True) (r : Gpack_Packer) (hm : m_pack_Packer_Byte p1 o0 = some r) :
    Cn Try.prog 100 #[.pointer (some ⟨go0, 0, none⟩), .int .u8 p1] ⟨w0, M, (1000, go0, .cells #[.slice Ao0_0 o0.fb.length co0_0, mapV Ao0_1] 100 (0, 0)) :: H, (1000, ⟨.slice Ao0_0 o0.fb.length co0_0, 5, 1, o0.fb.length, o0.fb.flatMap (fun x : Int => [Value.int .u8 x])⟩) :: (1001, ⟨mapV Ao0_1, 98, 2, o0.fplaces.length, o0.fplaces.flatMap (mcell (fun x : ByteArray => Value.string x) (fun x : Int => Value.int .i64 x))⟩) :: R, φ⟩ (fun x : Option Addr × Nat × Option Addr × Nat => .tuple #[]) (fun x => r.fb.length ≤ x.2.1 ∧ True) (fun x => ⟨w0, M, (1000, go0, .cells #[.slice x.1 r.fb.length x.2.1, mapV x.2.2.1] 100 (0, 0)) :: H, (2000, ⟨.slice x.1 r.fb.length x.2.1, 5, 1, r.fb.length, r.fb.flatMap (fun x : Int => [Value.int .u8 x])⟩) :: (2001, ⟨mapV x.2.2.1, 98, 2, r.fplaces.length, r.fplaces.flatMap (mcell (fun x : ByteArray => Value.string x) (fun x : Int => Value.int .i64 x))⟩) :: R, φ⟩) := by
 unfold m_pack_Packer_Byte at hm
 refine cn_intro (fn := Try.f100) (N := 8) Try.func100 rfl Try.ntmps100 rfl <| c_region <| g_v rfl r_move <| g_v rfl r_move ?_
 refine g_e rfl (e_lit (tag := 100060) (l := [p1]) (enc := (fun x : Int => [Value.int .u8 x])) (sz := 1) rfl Try.underlying77 (lit5_10 _) rfl rfl (fun _ => rfl)) (fun g1 _ => ?_)
 replace hm := bnd hm
 obtain ⟨x2, hx3, hm⟩ := hm
 refine g_cn ⟨w0, M, (1000, go0, .cells #[.slice Ao0_0 o0.fb.length co0_0, mapV Ao0_1] 100 (0, 0)) :: H, (1000, ⟨.slice Ao0_0 o0.fb.length co0_0, 5, 1, o0.fb.length, o0.fb.flatMap (fun x : Int => [Value.int .u8 x])⟩) :: (1001, ⟨mapV Ao0_1, 98, 2, o0.fplaces.length, o0.fplaces.flatMap (mcell (fun x : ByteArray => Value.string x) (fun x : Int => Value.int .i64 x))⟩) :: (100060, ⟨.slice (some ⟨g1, 0, none⟩) [p1].length 1, 5, 1, [p1].length, [p1].flatMap (fun x : Int => [Value.int .u8 x])⟩) :: R, φ⟩ (fun W h => (ok_front (t := 1000) (t' := 1000) (ok_frontR (t := 1000) (t' := 1000) (ok_frontR (t := 1001) (t' := 1001) h rfl) rfl) rfl)) Try.call67 rfl rfl (c_pack_Packer_put [p1] (some ⟨g1, 0, none⟩) 1 (Nat.le_refl _) (fun W hS => rowCl (tag := 100060) rfl W hS) go0 o0 Ao0_0 co0_0 hco0_0 Ao0_1 co0_1 trivial _ hx3) (fun ⟨A4, c5, A7, c8⟩ ⟨hc5, hc8⟩ => ?_)
 refine g_sta _ (fun W h => (ok_frontR (t := 2000) (t' := 1000) (ok_frontR (t := 2001) (t' := 1001) (ok_front (t := 1000) (t' := 1000) h rfl) rfl) rfl)) <| g_nil ?_
 replace hm := Option.some.inj hm
 subst hm
 refine d_sta _ (fun W h => ok_frontR (t := 1001) (t' := 2001) h rfl) <| d_sta _ (fun W h => ok_frontR (t := 1000) (t' := 2000) h rfl) ?_
 refine d_retC (A4, c5, A7, c8) Try.results100 ?_ ⟨hc5, hc8⟩ (fun W h => (h.dropR (t := 100060) rfl).phi (fun W hφ => hφ)) (.inl rfl)
 refine res_nil ?_
 exact rfl
noncomputable def m_pack_Packer_Name_j1  (l100 : List Int) (l103 : List (ByteArray × Int)) : Option (Int × Gpack_Packer) :=
  (m_pack_Packer_Byte 0 (⟨l100, l103⟩ : Gpack_Packer)).bind fun x106 =>
  some (0, x106)
noncomputable def m_pack_Packer_Name_j4 (s164 : ByteArray) (l158 : List Int) (l233 : List (ByteArray × Int)) : Option (((List Int) × (List (ByteArray × Int)) × ByteArray) ⊕ (((List Int) × (List (ByteArray × Int))) ⊕ (Int × Gpack_Packer))) :=
  (sat_ s164 0).bind fun b236 =>
  (scutHi s164 (w64 (1 + (w64 b236)))).bind fun s237 =>
  (m_pack_Packer_Raw s237 (⟨l158, l233⟩ : Gpack_Packer)).bind fun x238 =>
  (scutLo s164 (w64 (1 + (w64 b236)))).bind fun s246 =>
  some (.inl (x238.fb, x238.fplaces, s246))
noncomputable def m_pack_Packer_Name_j5 (s164 : ByteArray) (l158 : List Int) (l253 : List (ByteArray × Int)) : Option (((List Int) × (List (ByteArray × Int)) × ByteArray) ⊕ (((List Int) × (List (ByteArray × Int))) ⊕ (Int × Gpack_Packer))) :=
  (mput (fun x : ByteArray => decide (x.size ≤ 9223372036854775807)) l253 s164 (l158.length : Int)).bind fun l258 =>
  m_pack_Packer_Name_j4 s164 l158 l258
noncomputable def m_pack_Packer_Name_j3 (x211 : Int × Bool) (s164 : ByteArray) (l158 : List Int) (l161 : List (ByteArray × Int)) : Option (((List Int) × (List (ByteArray × Int)) × ByteArray) ⊕ (((List Int) × (List (ByteArray × Int))) ⊕ (Int × Gpack_Packer))) :=
  if x211.2 = true then
    m_pack_Packer_Name_j4 s164 l158 l161
  else
    if (l158.length : Int) < 16384 then
      m_pack_Packer_Name_j5 s164 l158 l161
    else
      m_pack_Packer_Name_j4 s164 l158 l161
noncomputable def m_pack_Packer_Name_s2 (p2 : Bool) (l158 : List Int) (l161 : List (ByteArray × Int)) (s164 : ByteArray) : Option (((List Int) × (List (ByteArray × Int)) × ByteArray) ⊕ (((List Int) × (List (ByteArray × Int))) ⊕ (Int × Gpack_Packer))) :=
  if 1 < (s164.size : Int) then
    (mget (fun x : ByteArray => decide (x.size ≤ 9223372036854775807)) 0 l161 s164).bind fun x211 =>
    if x211.2 = true then
      if p2 = true then
        (m_pack_Packer_Word (orI .u16 49152 (IntKind.u16.wrap x211.1)) (⟨l158, l161⟩ : Gpack_Packer)).bind fun x264 =>
        some (.inr (.inr (0, x264)))
      else
        m_pack_Packer_Name_j3 x211 s164 l158 l161
    else
      m_pack_Packer_Name_j3 x211 s164 l158 l161
  else
    some (.inr (.inl (l158, l161)))
noncomputable def m_pack_Packer_Name (p1 : ByteArray) (p2 : Bool) (o0 : Gpack_Packer) : Option (Int × Gpack_Packer) :=
  (m_name_Check p1).bind fun x1 =>
  if x1 ≠ 0 then
    some (x1, o0)
  else
    (loop (fun s => m_pack_Packer_Name_s2 p2 s.1 s.2.1 s.2.2) (o0.fb, o0.fplaces, p1)).bind fun e => Sum.elim (fun e => m_pack_Packer_Name_j1 e.1 e.2) (fun x => some x) e
theorem c_pack_Packer_Name {w0 : World} {M : Nat → Prop} {H : List (Nat × Nat × Obj)} {R : List (Nat × Row)} {φ : World → Prop} (p1 : ByteArray) (p2 : Bool) (go0 : Nat) (o0 : Gpack_Packer) (Ao0_0 : Option Addr) (co0_0 : Nat) (hco0_0 : o0.fb.length ≤ co0_0) (Ao0_1 : Option Addr) (co0_1 : Nat) (hco0_1 : True) (r : Int × Gpack_Packer) (hm : m_pack_Packer_Name p1 p2 o0 = some r) :
    Cn Try.prog 68 #[.pointer (some ⟨go0, 0, none⟩), .string p1, .bool p2] ⟨w0, M, (1000, go0, .cells #[.slice Ao0_0 o0.fb.length co0_0, mapV Ao0_1] 100 (0, 0)) :: H, (1000, ⟨.slice Ao0_0 o0.fb.length co0_0, 5, 1, o0.fb.length, o0.fb.flatMap (fun x : Int => [Value.int .u8 x])⟩) :: (1001, ⟨mapV Ao0_1, 98, 2, o0.fplaces.length, o0.fplaces.flatMap (mcell (fun x : ByteArray => Value.string x) (fun x : Int => Value.int .i64 x))⟩) :: R, φ⟩ (fun x : Option Addr × Nat × Option Addr × Nat => .int .i64 r.1) (fun x => r.2.fb.length ≤ x.2.1 ∧ True) (fun x => ⟨w0, M, (1000, go0, .cells #[.slice x.1 r.2.fb.length x.2.1, mapV x.2.2.1] 100 (0, 0)) :: H, (2000, ⟨.slice x.1 r.2.fb.length x.2.1, 5, 1, r.2.fb.length, r.2.fb.flatMap (fun x : Int => [Value.int .u8 x])⟩) :: (2001, ⟨mapV x.2.2.1, 98, 2, r.2.fplaces.length, r.2.fplaces.flatMap (mcell (fun x : ByteArray => Value.string x) (fun x : Int => Value.int .i64 x))⟩) :: R, φ⟩) := by
 unfold m_pack_Packer_Name at hm
 refine cn_intro (fn := Try.f68) (N := 82) Try.func68 rfl Try.ntmps68 rfl <| c_seq <| c_region <| g_v rfl r_assign <| g_nil <| d_then <| c_seq <| c_seq <| c_region <| g_v rfl r_move ?_
 refine g_v rfl (r_eqlP1 Try.underlying33 rfl rfl) <| g_nil <| d_then <| c_cond0 rfl rfl <| c_skip <| d_then <| c_seq <| c_region <| g_v rfl r_move ?_
 replace hm := bnd hm
 obtain ⟨x1, hx2, hm⟩ := hm
 refine g_cn ⟨w0, M, _, _, φ⟩ (fun _ h => h) Try.call79 rfl rfl (c_name_Check p1 _ hx2) (fun _ _ => ?_)
 refine g_v rfl r_assign <| g_nil <| d_then <| c_seq <| c_seq <| c_region <| g_v rfl r_move <| g_v rfl (r_neq rfl rfl) <| g_nil <| d_then ?_
 refine c_cond rfl (fun h3 => ?_) (fun h3 => ?_)
 ·
  replace hm := ite_t hm (of_decide_eq_true h3)
  refine c_seq <| c_region <| g_v rfl r_move <| g_v rfl r_assign <| g_nil <| d_then ?_
  refine c_flat [(6, .int .i64 x1)] ⟨rfl, trivial⟩ (fun u => ?_)
  refine c_sta ⟨w0, M, (1000, go0, .cells #[.slice Ao0_0 o0.fb.length co0_0, mapV Ao0_1] 100 (0, 0)) :: H, (1000, ⟨.slice Ao0_0 o0.fb.length co0_0, 5, 1, o0.fb.length, o0.fb.flatMap (fun x : Int => [Value.int .u8 x])⟩) :: (1001, ⟨mapV Ao0_1, 98, 2, o0.fplaces.length, o0.fplaces.flatMap (mcell (fun x : ByteArray => Value.string x) (fun x : Int => Value.int .i64 x))⟩) :: R, φ⟩ (fun _ h => h) <| c_ret <| d_ret_then ?_
  replace hm := Option.some.inj hm
  subst hm
  refine d_sta _ (fun W h => ok_frontR (t := 1001) (t' := 2001) h rfl) <| d_sta _ (fun W h => ok_frontR (t := 1000) (t' := 2000) h rfl) ?_
  refine d_retC (Ao0_0, co0_0, Ao0_1, co0_1) Try.results68 ?_ ⟨hco0_0, hco0_1⟩ (fun W h => h.phi (fun W hφ => hφ)) (.inr rfl)
  refine res_tmp <| res_nil ?_
  exact rfl
 ·
  replace hm := ite_f hm (of_decide_eq_false h3)
  refine c_skip <| d_then <| c_seq ?_
  refine c_cut (ι := (List Int) × (List (ByteArray × Int)) × Option Addr × Nat × Option Addr × Nat) [0] (fun ⟨l100, l103, A101, c102, A104, c105⟩ => []) (fun ⟨l100, l103, A101, c102, A104, c105⟩ => ⟨w0, M, (1000, go0, .cells #[.slice A101 l100.length c102, mapV A104] 100 (0, 0)) :: H, (1000, ⟨.slice A101 l100.length c102, 5, 1, l100.length, l100.flatMap (fun x : Int => [Value.int .u8 x])⟩) :: (1001, ⟨mapV A104, 98, 2, l103.length, l103.flatMap (mcell (fun x : ByteArray => Value.string x) (fun x : Int => Value.int .i64 x))⟩) :: R, φ⟩) (fun ⟨l100, l103, A101, c102, A104, c105⟩ => m_pack_Packer_Name_j1 l100 l103 = some r ∧ l100.length ≤ c102 ∧ True) ?_ (fun ⟨l100, l103, A101, c102, A104, c105⟩ u ⟨hm, hc102, hc105⟩ => ?_)
  ·
   refine c_block ?_
   replace hm := bnd hm
   obtain ⟨out2, hl2, hr2⟩ := hm
   obtain ⟨n209', hl2⟩ := loop_lp hl2
   refine c_loopU (ι := Nat × (List Int) × (List (ByteArray × Int)) × ByteArray × Option Addr × Nat × Option Addr × Nat) [0, 1, 2] (fun ⟨n209, l158, l161, s164, A159, c160, A162, c163⟩ => [(1, .string s164)]) (fun ⟨n209, l158, l161, s164, A159, c160, A162, c163⟩ => ⟨w0, M, (1000, go0, .cells #[.slice A159 l158.length c160, mapV A162] 100 (0, 0)) :: H, (1000, ⟨.slice A159 l158.length c160, 5, 1, l158.length, l158.flatMap (fun x : Int => [Value.int .u8 x])⟩) :: (1001, ⟨mapV A162, 98, 2, l161.length, l161.flatMap (mcell (fun x : ByteArray => Value.string x) (fun x : Int => Value.int .i64 x))⟩) :: R, φ⟩) (fun ⟨n209, l158, l161, s164, A159, c160, A162, c163⟩ => Lp (fun s => m_pack_Packer_Name_s2 p2 s.1 s.2.1 s.2.2) n209 (l158, l161, s164) out2 ∧ l158.length ≤ c160 ∧ True) (fun ⟨n209, l158, l161, s164, A159, c160, A162, c163⟩ => n209) (n209', o0.fb, o0.fplaces, p1, Ao0_0, co0_0, Ao0_1, co0_1) ⟨hl2, hco0_0, trivial⟩ ⟨rfl, rfl, rfl, trivial⟩ (fun W h => h.phi (fun W hφ => hφ)) (fun ⟨n209, l158, l161, s164, A159, c160, A162, c163⟩ u ⟨hlp, hc160, hc163⟩ => ?_)
   obtain ⟨o2, hm, hnx2⟩ := lp_step hlp
   clear hlp
   replace hm : m_pack_Packer_Name_s2 p2 l158 l161 s164 = some o2 := hm
   unfold m_pack_Packer_Name_s2 at hm
   refine c_flat [(0, .pointer (some ⟨go0, 0, none⟩)), (1, .string s164), (2, .bool p2)] ⟨rfl, rfl, rfl, trivial⟩ (fun u => ?_)
   refine c_sta ⟨w0, M, (1000, go0, .cells #[.slice A159 l158.length c160, mapV A162] 100 (0, 0)) :: H, (1000, ⟨.slice A159 l158.length c160, 5, 1, l158.length, l158.flatMap (fun x : Int => [Value.int .u8 x])⟩) :: (1001, ⟨mapV A162, 98, 2, l161.length, l161.flatMap (mcell (fun x : ByteArray => Value.string x) (fun x : Int => Value.int .i64 x))⟩) :: R, φ⟩ (fun _ h => h) <| c_seq <| c_seq <| c_region <| g_v rfl r_move <| g_v rfl (r_len Try.underlying9 rfl) <| g_v rfl (r_gtr rfl rfl) <| g_nil <| d_then ?_
   refine c_cond rfl (fun h210 => ?_) (fun h210 => ?_)
   ·
    replace hm := ite_t hm (of_decide_eq_true h210)
    refine c_skip <| d_then <| c_block <| c_seq <| c_region <| g_v rfl r_move <| g_v rfl (r_nilck rfl) <| g_v rfl (r_field (n := 1) Try.underlying100 rfl Try.sizeOf98 rfl rfl) <| g_v rfl (r_load (tag := 1000) rfl rfl rfl Try.isAgg98) <| g_v rfl r_move ?_
    replace hm := bnd hm
    obtain ⟨x211, hx211, hm⟩ := hm
    refine g_v rfl (r_mget (tag := 1001) (n := l161.length) (l := l161) mapT98_9 rfl rfl rfl hx211) <| g_v rfl r_move <| g_v rfl (r_extract rfl rfl) <| g_v rfl (r_extract rfl rfl) <| g_v rfl r_assign <| g_v rfl r_assign <| g_nil <| d_then ?_
    refine c_flat [(0, .pointer (some ⟨go0, 0, none⟩)), (1, .string s164), (2, .bool p2), (8, .int .i64 x211.1), (9, .bool x211.2)] ⟨rfl, rfl, rfl, rfl, rfl, trivial⟩ (fun u => ?_)
    refine c_seq ?_
    refine c_cut (ι := Unit) [0, 1, 2, 9] (fun _ => []) (fun _ => ⟨w0, M, (1000, go0, .cells #[.slice A159 l158.length c160, mapV A162] 100 (0, 0)) :: H, (1000, ⟨.slice A159 l158.length c160, 5, 1, l158.length, l158.flatMap (fun x : Int => [Value.int .u8 x])⟩) :: (1001, ⟨mapV A162, 98, 2, l161.length, l161.flatMap (mcell (fun x : ByteArray => Value.string x) (fun x : Int => Value.int .i64 x))⟩) :: R, φ⟩) (fun _ => m_pack_Packer_Name_j3 x211 s164 l158 l161 = some o2) ?_ (fun _ u hm => ?_)
    ·
     refine c_seq <| c_region <| g_v rfl r_move <| g_v rfl r_move ?_
     refine g_if rfl rfl rfl rfl rfl (fun h262 => ?_) (fun h262 => ?_)
     ·
      replace hm := ite_t hm h262
      refine g_v rfl r_move <| g_v rfl (r_pick1 rfl h262) <| g_nil <| d_then ?_
      refine c_cond rfl (fun h263 => ?_) (fun h263 => ?_)
      ·
       replace hm := ite_t hm h263
       refine c_seq <| c_region <| g_v rfl r_move <| g_v rfl r_move <| g_v rfl (r_conv Try.underlying3 Try.underlying24 rfl rfl) <| g_v rfl (r_bits_or rfl rfl) ?_
       replace hm := bnd hm
       obtain ⟨x264, hx265, hm⟩ := hm
       refine g_cn ⟨w0, M, (1000, go0, .cells #[.slice A159 l158.length c160, mapV A162] 100 (0, 0)) :: H, (1000, ⟨.slice A159 l158.length c160, 5, 1, l158.length, l158.flatMap (fun x : Int => [Value.int .u8 x])⟩) :: (1001, ⟨mapV A162, 98, 2, l161.length, l161.flatMap (mcell (fun x : ByteArray => Value.string x) (fun x : Int => Value.int .i64 x))⟩) :: R, φ⟩ (fun W h => (ok_front (t := 1000) (t' := 1000) (ok_frontR (t := 1000) (t' := 1000) (ok_frontR (t := 1001) (t' := 1001) h rfl) rfl) rfl)) Try.call69 rfl rfl (c_pack_Packer_Word (orI .u16 49152 (IntKind.u16.wrap x211.1)) go0 (⟨l158, l161⟩ : Gpack_Packer) A159 c160 hc160 A162 c163 trivial _ hx265) (fun ⟨A266, c267, A269, c270⟩ ⟨hc267, hc270⟩ => ?_)
       refine g_sta _ (fun W h => (ok_frontR (t := 2000) (t' := 1000) (ok_frontR (t := 2001) (t' := 1001) (ok_front (t := 1000) (t' := 1000) h rfl) rfl) rfl)) <| g_nil <| d_then ?_
       refine c_flat [] trivial (fun u => ?_)
       refine c_sta ⟨w0, M, (1000, go0, .cells #[.slice A266 x264.fb.length c267, mapV A269] 100 (0, 0)) :: H, (1000, ⟨.slice A266 x264.fb.length c267, 5, 1, x264.fb.length, x264.fb.flatMap (fun x : Int => [Value.int .u8 x])⟩) :: (1001, ⟨mapV A269, 98, 2, x264.fplaces.length, x264.fplaces.flatMap (mcell (fun x : ByteArray => Value.string x) (fun x : Int => Value.int .i64 x))⟩) :: R, φ⟩ (fun _ h => h) <| c_seq <| c_region <| g_v rfl r_assign <| g_nil <| d_then <| c_ret <| d_ret_then <| d_ret_then <| d_ret_block ?_
       refine d_ret_then <| d_ret_block <| d_ret_then <| d_ret_then ?_
       replace hm := nx_out (C := (fun e => Sum.elim (fun e => m_pack_Packer_Name_j1 e.1 e.2) (fun x => some x) e = some r)) hm hnx2 hr2
       replace hm : some (0, x264) = some r := hm
       replace hm := Option.some.inj hm
       subst hm
       refine d_sta _ (fun W h => ok_frontR (t := 1001) (t' := 2001) h rfl) <| d_sta _ (fun W h => ok_frontR (t := 1000) (t' := 2000) h rfl) ?_
       refine d_retC (A266, c267, A269, c270) Try.results68 ?_ ⟨hc267, hc270⟩ (fun W h => h.phi (fun W hφ => hφ)) (.inr rfl)
       refine res_tmp <| res_nil ?_
       exact rfl
      ·
       replace hm := ite_f hm (bool_nt h263)
       refine c_skip ?_
       exact d_round () hm Nat.zero_lt_one ⟨rfl, rfl, rfl, rfl, trivial⟩ (fun W h => h.phi (fun W hφ => hφ))
     ·
      replace hm := ite_f hm (bool_nt h262)
      refine g_v rfl (r_pick0 rfl h262) <| g_nil <| d_then <| c_cond0 rfl rfl <| c_skip ?_
      exact d_round () hm Nat.zero_lt_one ⟨rfl, rfl, rfl, rfl, trivial⟩ (fun W h => h.phi (fun W hφ => hφ))
    ·
     unfold m_pack_Packer_Name_j3 at hm
     refine d_flat [(0, .pointer (some ⟨go0, 0, none⟩)), (1, .string s164), (2, .bool p2), (9, .bool x211.2)] ⟨rfl, rfl, rfl, rfl, trivial⟩ (fun u => ?_)
     refine d_then <| c_seq ?_
     refine c_cut (ι := (List (ByteArray × Int)) × Option Addr × Nat) [0, 1, 2] (fun ⟨l233, A234, c235⟩ => []) (fun ⟨l233, A234, c235⟩ => ⟨w0, M, (1000, go0, .cells #[.slice A159 l158.length c160, mapV A234] 100 (0, 0)) :: H, (1000, ⟨.slice A159 l158.length c160, 5, 1, l158.length, l158.flatMap (fun x : Int => [Value.int .u8 x])⟩) :: (1001, ⟨mapV A234, 98, 2, l233.length, l233.flatMap (mcell (fun x : ByteArray => Value.string x) (fun x : Int => Value.int .i64 x))⟩) :: R, φ⟩) (fun ⟨l233, A234, c235⟩ => m_pack_Packer_Name_j4 s164 l158 l233 = some o2 ∧ True) ?_ (fun ⟨l233, A234, c235⟩ u ⟨hm, hc235⟩ => ?_)
     ·
      refine c_seq <| c_region <| g_v rfl r_move <| g_v rfl (r_not rfl) <| g_v rfl r_move ?_
      refine g_if rfl rfl rfl rfl rfl (fun h248 => ?_) (fun h248 => ?_)
      ·
       have h248' : x211.2 = false := by revert h248; cases x211.2 <;> simp
       replace hm := ite_f hm (bool_nt h248')
       refine g_v rfl r_move <| g_do rfl rfl rfl rfl rfl h248 <| g_v rfl (r_nilck rfl) <| g_do rfl rfl rfl rfl rfl h248 <| g_v rfl (r_field (n := 0) Try.underlying100 rfl Try.sizeOf77 rfl rfl) <| g_do rfl rfl rfl rfl rfl h248 <| g_v rfl (r_load (tag := 1000) rfl rfl rfl Try.isAgg77) <| g_do rfl rfl rfl rfl rfl h248 <| g_v rfl (r_lenL Try.underlying77 rfl) <| g_do rfl rfl rfl rfl rfl h248 ?_
       refine g_v rfl (r_lss rfl rfl) <| g_v rfl (r_pick1 rfl h248) <| g_nil <| d_then ?_
       refine c_flat [(0, .pointer (some ⟨go0, 0, none⟩)), (1, .string s164), (2, .bool p2), (48, .bool (decide ((l158.length : Int) < 16384)))] ⟨rfl, rfl, rfl, rfl, trivial⟩ (fun u => ?_)
       refine c_cond rfl (fun h249 => ?_) (fun h249 => ?_)
       ·
        replace hm := ite_t hm (of_decide_eq_true h249)
        refine c_seq ?_
        refine c_cut (ι := (List (ByteArray × Int)) × Option Addr × Nat) [0, 1, 2] (fun ⟨l253, A254, c255⟩ => []) (fun ⟨l253, A254, c255⟩ => ⟨w0, M, (1000, go0, .cells #[.slice A159 l158.length c160, mapV A254] 100 (0, 0)) :: H, (1000, ⟨.slice A159 l158.length c160, 5, 1, l158.length, l158.flatMap (fun x : Int => [Value.int .u8 x])⟩) :: (1001, ⟨mapV A254, 98, 2, l253.length, l253.flatMap (mcell (fun x : ByteArray => Value.string x) (fun x : Int => Value.int .i64 x))⟩) :: R, φ⟩) (fun ⟨l253, A254, c255⟩ => m_pack_Packer_Name_j5 s164 l158 l253 = some o2 ∧ A254.isSome = true) ?_ (fun ⟨l253, A254, c255⟩ u ⟨hm, hc255⟩ => ?_)
        ·
         refine c_seq <| c_region <| g_v rfl r_move <| g_v rfl (r_nilck rfl) <| g_v rfl (r_field (n := 1) Try.underlying100 rfl Try.sizeOf98 rfl rfl) <| g_v rfl (r_load (tag := 1000) rfl rfl rfl Try.isAgg98) <| g_v rfl (r_isNilM Try.underlying98 rfl rfl) <| g_nil <| d_then ?_
         refine c_cond rfl (fun h259 => ?_) (fun h259 => ?_)
         ·
          refine c_know (l161 = []) (fun W hS => nil_map (tag := 1001) hS rfl h259) (fun hl260 => ?_)
          obtain rfl := Option.isNone_iff_eq_none.1 h259
          refine c_sta _ (fun W h => Sta.ok.dropR (t := 1001) h rfl) <| c_region <| g_v rfl r_move ?_
          refine g_e rfl (e_mmake (kenc := (fun x : ByteArray => Value.string x)) (venc := (fun x : Int => Value.int .i64 x)) 1001 98 hl260) (fun g261 _ => ?_)
          refine g_v rfl (r_nilck rfl) <| g_v rfl (r_field (n := 1) Try.underlying100 rfl Try.sizeOf98 rfl rfl) <| g_storeL (tag := 1000) rfl rfl rfl rfl Try.sizeOf98 rfl rfl <| g_nil ?_
          exact d_round (l161, some ⟨g261, 0, none⟩, 0) ⟨hm, rfl⟩ Nat.zero_lt_one ⟨rfl, rfl, rfl, trivial⟩ (fun W h => (ok_frontR (t := 1000) (t' := 1000) (ok_frontR (t := 1001) (t' := 1001) h rfl) rfl).phi (fun W hφ => hφ))
         ·
          refine c_skip ?_
          exact d_round (l161, A162, c163) ⟨hm, (some_of_no h259)⟩ Nat.zero_lt_one ⟨rfl, rfl, rfl, trivial⟩ (fun W h => h.phi (fun W hφ => hφ))
        ·
         unfold m_pack_Packer_Name_j5 at hm
         refine d_flat [(0, .pointer (some ⟨go0, 0, none⟩)), (1, .string s164), (2, .bool p2)] ⟨rfl, rfl, rfl, trivial⟩ (fun u => ?_)
         refine d_sta ⟨w0, M, (1000, go0, .cells #[.slice A159 l158.length c160, mapV A254] 100 (0, 0)) :: H, (1000, ⟨.slice A159 l158.length c160, 5, 1, l158.length, l158.flatMap (fun x : Int => [Value.int .u8 x])⟩) :: (1001, ⟨mapV A254, 98, 2, l253.length, l253.flatMap (mcell (fun x : ByteArray => Value.string x) (fun x : Int => Value.int .i64 x))⟩) :: R, φ⟩ (fun _ h => h) <| d_then <| ga_start (n := 11) ⟨w0, M, (1000, go0, .cells #[.slice A159 l158.length c160, mapV A254] 100 (0, 0)) :: H, (1000, ⟨.slice A159 l158.length c160, 5, 1, l158.length, l158.flatMap (fun x : Int => [Value.int .u8 x])⟩) :: R, φ⟩ [10] #[false, false, false, false, false, false, false, false, false, false, false] (fun W h => (h.dropR (t := 1001) rfl).phi (fun W hφ => hφ)) mixed rfl rfl <| ga_v (i := 0) (bz 11 1) rfl (by kernel_rfl) (fun _ _ _ _ h => h) rfl (r_move) <| ga_v (i := 1) (bz 11 3) rfl (by kernel_rfl) (fun _ _ _ _ h => h) rfl (r_nilck rfl) <| ga_v (i := 2) (bz 11 7) rfl (by kernel_rfl) (fun _ _ _ _ h => h) rfl (r_field (n := 1) Try.underlying100 rfl Try.sizeOf98 rfl rfl) <| ga_v (i := 3) (bz 11 15) rfl (by kernel_rfl) (fun _ _ _ _ h => h) rfl (r_load (tag := 1000) rfl rfl rfl Try.isAgg98) <| ga_v (i := 4) (bz 11 31) rfl (by kernel_rfl) (fun _ _ _ _ h => h) rfl (r_move) <| ga_r (i := 5) (bz 11 63) rfl (by kernel_rfl) (by decide) rfl (r_move) <| ga_r (i := 6) (bz 11 127) rfl (by kernel_rfl) (by decide) rfl (r_nilck rfl) ?_
         refine ga_r (i := 7) (bz 11 255) rfl (by kernel_rfl) (by decide) rfl (r_field (n := 0) Try.underlying100 rfl Try.sizeOf77 rfl rfl) <| ga_r (i := 8) (bz 11 511) rfl (by kernel_rfl) (by decide) rfl (r_load (tag := 1000) rfl rfl rfl Try.isAgg77) <| ga_r (i := 9) (bz 11 1023) rfl (by kernel_rfl) (by decide) rfl (r_lenL Try.underlying77 rfl) ?_
         replace hm := bnd hm
         obtain ⟨l258, hl258, hm⟩ := hm
         refine ga_sL (i := 10) (bz 11 2047) rfl (by kernel_rfl) (by decide) (e_mput (tag := 1001) (l := l253) mapT98_9 rfl rfl rfl hc255 rfl hl258) <| gz_done (by kernel_rfl) ?_
         exact d_round (l258, A254, c255) ⟨hm, trivial⟩ Nat.zero_lt_one ⟨rfl, rfl, rfl, trivial⟩ (fun W h => h.phi (fun W hφ => hφ))
       ·
        replace hm := ite_f hm (of_decide_eq_false h249)
        refine c_skip ?_
        exact d_round (l161, A162, c163) ⟨hm, trivial⟩ Nat.zero_lt_one ⟨rfl, rfl, rfl, trivial⟩ (fun W h => h.phi (fun W hφ => hφ))
      ·
       have h248' : x211.2 = true := by revert h248; cases x211.2 <;> simp
       replace hm := ite_t hm h248'
       refine g_no rfl rfl rfl rfl rfl h248 <| g_no rfl rfl rfl rfl rfl h248 <| g_no rfl rfl rfl rfl rfl h248 <| g_no rfl rfl rfl rfl rfl h248 <| g_no rfl rfl rfl rfl rfl h248 <| g_v rfl (r_pick0 rfl h248) <| g_nil <| d_then <| c_cond0 rfl rfl <| c_skip ?_
       exact d_round (l161, A162, c163) ⟨hm, trivial⟩ Nat.zero_lt_one ⟨rfl, rfl, rfl, trivial⟩ (fun W h => h.phi (fun W hφ => hφ))
     ·
      unfold m_pack_Packer_Name_j4 at hm
      refine d_flat [(0, .pointer (some ⟨go0, 0, none⟩)), (1, .string s164), (2, .bool p2)] ⟨rfl, rfl, rfl, trivial⟩ (fun u => ?_)
      refine d_sta ⟨w0, M, (1000, go0, .cells #[.slice A159 l158.length c160, mapV A234] 100 (0, 0)) :: H, (1000, ⟨.slice A159 l158.length c160, 5, 1, l158.length, l158.flatMap (fun x : Int => [Value.int .u8 x])⟩) :: (1001, ⟨mapV A234, 98, 2, l233.length, l233.flatMap (mcell (fun x : ByteArray => Value.string x) (fun x : Int => Value.int .i64 x))⟩) :: R, φ⟩ (fun _ h => h) <| d_then <| c_seq <| c_region <| g_v rfl r_move ?_
      replace hm := bnd hm
      obtain ⟨b236, hb236, hm⟩ := hm
      refine g_v rfl (r_sat Try.underlying9 rfl rfl hb236) <| g_v rfl (r_conv Try.underlying5 Try.underlying3 rfl rfl) <| g_v rfl (r_add rfl rfl rfl) <| g_v rfl r_assign <| g_nil <| d_then <| c_seq <| c_region <| g_v rfl r_move <| g_v rfl r_move ?_
      refine g_v rfl r_move ?_
      replace hm := bnd hm
      obtain ⟨s237, hs237, hm⟩ := hm
      refine g_v rfl (r_scutHi Try.underlying9 rfl rfl hs237) ?_
      replace hm := bnd hm
      obtain ⟨x238, hx239, hm⟩ := hm
      refine g_cn ⟨w0, M, (1000, go0, .cells #[.slice A159 l158.length c160, mapV A234] 100 (0, 0)) :: H, (1000, ⟨.slice A159 l158.length c160, 5, 1, l158.length, l158.flatMap (fun x : Int => [Value.int .u8 x])⟩) :: (1001, ⟨mapV A234, 98, 2, l233.length, l233.flatMap (mcell (fun x : ByteArray => Value.string x) (fun x : Int => Value.int .i64 x))⟩) :: R, φ⟩ (fun W h => (ok_front (t := 1000) (t' := 1000) (ok_frontR (t := 1000) (t' := 1000) (ok_frontR (t := 1001) (t' := 1001) h rfl) rfl) rfl)) Try.call21 rfl rfl (c_pack_Packer_Raw s237 go0 (⟨l158, l233⟩ : Gpack_Packer) A159 c160 hc160 A234 c235 trivial _ hx239) (fun ⟨A240, c241, A243, c244⟩ ⟨hc241, hc244⟩ => ?_)
      refine g_sta _ (fun W h => (ok_frontR (t := 2000) (t' := 1000) (ok_frontR (t := 2001) (t' := 1001) (ok_front (t := 1000) (t' := 1000) h rfl) rfl) rfl)) <| g_nil <| d_then ?_
      refine c_flat [(0, .pointer (some ⟨go0, 0, none⟩)), (1, .string s164), (2, .bool p2), (10, .int .i64 (w64 (1 + (w64 b236))))] ⟨rfl, rfl, rfl, rfl, trivial⟩ (fun u => ?_)
      refine c_sta ⟨w0, M, (1000, go0, .cells #[.slice A240 x238.fb.length c241, mapV A243] 100 (0, 0)) :: H, (1000, ⟨.slice A240 x238.fb.length c241, 5, 1, x238.fb.length, x238.fb.flatMap (fun x : Int => [Value.int .u8 x])⟩) :: (1001, ⟨mapV A243, 98, 2, x238.fplaces.length, x238.fplaces.flatMap (mcell (fun x : ByteArray => Value.string x) (fun x : Int => Value.int .i64 x))⟩) :: R, φ⟩ (fun _ h => h) <| c_region <| g_v rfl r_move <| g_v rfl r_move ?_
      replace hm := bnd hm
      obtain ⟨s246, hs246, hm⟩ := hm
      refine g_v rfl (r_scutLo Try.underlying9 rfl rfl hs246) <| g_v rfl r_assign <| g_nil <| d_normal_block ?_
      obtain ⟨n247, hn247, hlp⟩ := nx_inl hm hnx2
      exact d_round (n247, x238.fb, x238.fplaces, s246, A240, c241, A243, c244) ⟨hlp, hc241, trivial⟩ hn247 ⟨rfl, rfl, rfl, trivial⟩ (fun W h => h.phi (fun W hφ => hφ))
   ·
    replace hm := ite_f hm (of_decide_eq_false h210)
    refine c_exit <| d_exit_then <| d_exit_then <| d_exit_block ?_
    replace hm := nx_out (C := (fun e => Sum.elim (fun e => m_pack_Packer_Name_j1 e.1 e.2) (fun x => some x) e = some r)) hm hnx2 hr2
    exact d_round (l158, l161, A159, c160, A162, c163) ⟨hm, hc160, trivial⟩ Nat.zero_lt_one ⟨rfl, trivial⟩ (fun W h => h.phi (fun W hφ => hφ))
  ·
   unfold m_pack_Packer_Name_j1 at hm
   refine d_flat [(0, .pointer (some ⟨go0, 0, none⟩))] ⟨rfl, trivial⟩ (fun u => ?_)
   refine d_sta ⟨w0, M, (1000, go0, .cells #[.slice A101 l100.length c102, mapV A104] 100 (0, 0)) :: H, (1000, ⟨.slice A101 l100.length c102, 5, 1, l100.length, l100.flatMap (fun x : Int => [Value.int .u8 x])⟩) :: (1001, ⟨mapV A104, 98, 2, l103.length, l103.flatMap (mcell (fun x : ByteArray => Value.string x) (fun x : Int => Value.int .i64 x))⟩) :: R, φ⟩ (fun _ h => h) <| d_then <| c_seq <| c_region <| g_v rfl r_move ?_
   replace hm := bnd hm
   obtain ⟨x106, hx107, hm⟩ := hm
   refine g_cn ⟨w0, M, (1000, go0, .cells #[.slice A101 l100.length c102, mapV A104] 100 (0, 0)) :: H, (1000, ⟨.slice A101 l100.length c102, 5, 1, l100.length, l100.flatMap (fun x : Int => [Value.int .u8 x])⟩) :: (1001, ⟨mapV A104, 98, 2, l103.length, l103.flatMap (mcell (fun x : ByteArray => Value.string x) (fun x : Int => Value.int .i64 x))⟩) :: R, φ⟩ (fun W h => (ok_front (t := 1000) (t' := 1000) (ok_frontR (t := 1000) (t' := 1000) (ok_frontR (t := 1001) (t' := 1001) h rfl) rfl) rfl)) Try.call100 rfl rfl (c_pack_Packer_Byte 0 go0 (⟨l100, l103⟩ : Gpack_Packer) A101 c102 hc102 A104 c105 trivial _ hx107) (fun ⟨A108, c109, A111, c112⟩ ⟨hc109, hc112⟩ => ?_)
   refine g_sta _ (fun W h => (ok_frontR (t := 2000) (t' := 1000) (ok_frontR (t := 2001) (t' := 1001) (ok_front (t := 1000) (t' := 1000) h rfl) rfl) rfl)) <| g_nil <| d_then <| c_seq <| c_region <| g_v rfl r_assign <| g_nil <| d_then <| c_ret ?_
   replace hm := Option.some.inj hm
   subst hm
   refine d_sta _ (fun W h => ok_frontR (t := 1001) (t' := 2001) h rfl) <| d_sta _ (fun W h => ok_frontR (t := 1000) (t' := 2000) h rfl) ?_
   refine d_retC (A108, c109, A111, c112) Try.results68 ?_ ⟨hc109, hc112⟩ (fun W h => h.phi (fun W hφ => hφ)) (.inr rfl)
   refine res_tmp <| res_nil ?_
   exact rfl
noncomputable def m_message_whole_c1 (p0 : GQuestion) (o1 : Gpack_Packer) : Option (Int × Gpack_Packer) :=
  (m_pack_Packer_Name p0.fName true o1).bind fun (z11 : Int × Gpack_Packer) =>
  (m_pack_Packer_Word p0.fType z11.2).bind fun x12 =>
  (m_pack_Packer_Word p0.fClass x12).bind fun x20 =>
  some (z11.1, x20)
theorem c_message_whole_c1 {w0 : World} {M : Nat → Prop} {H : List (Nat × Nat × Obj)} {R : List (Nat × Row)} {φ : World → Prop} (p0 : GQuestion) (go0 : Nat) (go1 : Nat) (o1 : Gpack_Packer) (Ao1_0 : Option Addr) (co1_0 : Nat) (hco1_0 : o1.fb.length ≤ co1_0) (Ao1_1 : Option Addr) (co1_1 : Nat) (hco1_1 : True) (r : Int × Gpack_Packer) (hm : m_message_whole_c1 p0 o1 = some r) :
    Cn Try.prog 113 #[.agg #[.string p0.fName, .int .u16 p0.fType, .int .u16 p0.fClass], .pointer (some ⟨go0, 0, none⟩)] ⟨w0, M, (1000, go0, .cells #[.pointer (some ⟨go1, 0, none⟩)] 33 (0, 0)) :: (1001, go1, .cells #[.slice Ao1_0 o1.fb.length co1_0, mapV Ao1_1] 100 (0, 0)) :: H, (1000, ⟨.slice Ao1_0 o1.fb.length co1_0, 5, 1, o1.fb.length, o1.fb.flatMap (fun x : Int => [Value.int .u8 x])⟩) :: (1001, ⟨mapV Ao1_1, 98, 2, o1.fplaces.length, o1.fplaces.flatMap (mcell (fun x : ByteArray => Value.string x) (fun x : Int => Value.int .i64 x))⟩) :: R, φ⟩ (fun x : Option Addr × Nat × Option Addr × Nat => .int .i64 r.1) (fun x => r.2.fb.length ≤ x.2.1 ∧ True) (fun x => ⟨w0, M, (1000, go0, .cells #[.pointer (some ⟨go1, 0, none⟩)] 33 (0, 0)) :: (1001, go1, .cells #[.slice x.1 r.2.fb.length x.2.1, mapV x.2.2.1] 100 (0, 0)) :: H, (2000, ⟨.slice x.1 r.2.fb.length x.2.1, 5, 1, r.2.fb.length, r.2.fb.flatMap (fun x : Int => [Value.int .u8 x])⟩) :: (2001, ⟨mapV x.2.2.1, 98, 2, r.2.fplaces.length, r.2.fplaces.flatMap (mcell (fun x : ByteArray => Value.string x) (fun x : Int => Value.int .i64 x))⟩) :: R, φ⟩) := by
 unfold m_message_whole_c1 at hm
 refine cn_intro (fn := Try.f113) (N := 18) Try.func113 rfl Try.ntmps113 rfl <| c_seq <| c_region ?_
 refine g_e rfl (e_box 100020 rfl) (fun g1 _ => ?_)
 refine g_v rfl r_assign <| g_nil <| d_then <| c_seq <| c_region <| g_v rfl (r_load (tag := 1000) rfl rfl rfl Try.isAgg33) <| g_v rfl (r_field (n := 0) Try.underlying74 rfl Try.sizeOf9 rfl rfl) <| g_v rfl (r_load (tag := 100020) rfl rfl rfl Try.isAgg9) ?_
 replace hm := bnd hm
 obtain ⟨⟨x2, x3⟩, hx4, hm⟩ := hm
 refine g_cn ⟨w0, M, (1000, go1, .cells #[.slice Ao1_0 o1.fb.length co1_0, mapV Ao1_1] 100 (0, 0)) :: (100020, g1, .cells #[.string p0.fName, .int .u16 p0.fType, .int .u16 p0.fClass] 74 (0, 0)) :: (1000, go0, .cells #[.pointer (some ⟨go1, 0, none⟩)] 33 (0, 0)) :: H, (1000, ⟨.slice Ao1_0 o1.fb.length co1_0, 5, 1, o1.fb.length, o1.fb.flatMap (fun x : Int => [Value.int .u8 x])⟩) :: (1001, ⟨mapV Ao1_1, 98, 2, o1.fplaces.length, o1.fplaces.flatMap (mcell (fun x : ByteArray => Value.string x) (fun x : Int => Value.int .i64 x))⟩) :: R, φ⟩ (fun W h => (ok_front (t := 1001) (t' := 1000) (ok_frontR (t := 1000) (t' := 1000) (ok_frontR (t := 1001) (t' := 1001) h rfl) rfl) rfl)) Try.call68 rfl rfl (c_pack_Packer_Name p0.fName true go1 o1 Ao1_0 co1_0 hco1_0 Ao1_1 co1_1 trivial _ hx4) (fun ⟨A5, c6, A8, c9⟩ ⟨hc6, hc9⟩ => ?_)
 refine g_sta _ (fun W h => (ok_frontR (t := 2000) (t' := 1000) (ok_frontR (t := 2001) (t' := 1001) (ok_front (t := 1000) (t' := 1001) h rfl) rfl) rfl)) <| g_v rfl r_assign <| g_nil <| d_then <| c_seq <| c_region <| g_v rfl (r_load (tag := 1000) rfl rfl rfl Try.isAgg33) <| g_v rfl (r_field (n := 1) Try.underlying74 rfl Try.sizeOf24 rfl rfl) <| g_v rfl (r_load (tag := 100020) rfl rfl rfl Try.isAgg24) ?_
 replace hm := bnd hm
 obtain ⟨x12, hx13, hm⟩ := hm
 refine g_cn ⟨w0, M, (1000, go1, .cells #[.slice A5 x3.fb.length c6, mapV A8] 100 (0, 0)) :: (100020, g1, .cells #[.string p0.fName, .int .u16 p0.fType, .int .u16 p0.fClass] 74 (0, 0)) :: (1000, go0, .cells #[.pointer (some ⟨go1, 0, none⟩)] 33 (0, 0)) :: H, (1000, ⟨.slice A5 x3.fb.length c6, 5, 1, x3.fb.length, x3.fb.flatMap (fun x : Int => [Value.int .u8 x])⟩) :: (1001, ⟨mapV A8, 98, 2, x3.fplaces.length, x3.fplaces.flatMap (mcell (fun x : ByteArray => Value.string x) (fun x : Int => Value.int .i64 x))⟩) :: R, φ⟩ (fun W h => (ok_front (t := 1001) (t' := 1000) (ok_frontR (t := 1000) (t' := 1000) (ok_frontR (t := 1001) (t' := 1001) h rfl) rfl) rfl)) Try.call69 rfl rfl (c_pack_Packer_Word p0.fType go1 x3 A5 c6 hc6 A8 c9 trivial _ hx13) (fun ⟨A14, c15, A17, c18⟩ ⟨hc15, hc18⟩ => ?_)
 refine g_sta _ (fun W h => (ok_frontR (t := 2000) (t' := 1000) (ok_frontR (t := 2001) (t' := 1001) (ok_front (t := 1000) (t' := 1001) h rfl) rfl) rfl)) <| g_nil <| d_then ?_
 refine c_flat [(1, .pointer (some ⟨go0, 0, none⟩)), (2, .pointer (some ⟨g1, 0, none⟩)), (4, .int .i64 x2)] ⟨rfl, rfl, rfl, trivial⟩ (fun u => ?_)
 refine c_sta ⟨w0, M, (1001, go1, .cells #[.slice A14 x12.fb.length c15, mapV A17] 100 (0, 0)) :: (100020, g1, .cells #[.string p0.fName, .int .u16 p0.fType, .int .u16 p0.fClass] 74 (0, 0)) :: (1000, go0, .cells #[.pointer (some ⟨go1, 0, none⟩)] 33 (0, 0)) :: H, (1000, ⟨.slice A14 x12.fb.length c15, 5, 1, x12.fb.length, x12.fb.flatMap (fun x : Int => [Value.int .u8 x])⟩) :: (1001, ⟨mapV A17, 98, 2, x12.fplaces.length, x12.fplaces.flatMap (mcell (fun x : ByteArray => Value.string x) (fun x : Int => Value.int .i64 x))⟩) :: R, φ⟩ (fun _ h => h) <| c_seq <| c_region <| g_v rfl (r_load (tag := 1000) rfl rfl rfl Try.isAgg33) <| g_v rfl (r_field (n := 2) Try.underlying74 rfl Try.sizeOf24 rfl rfl) <| g_v rfl (r_load (tag := 100020) rfl rfl rfl Try.isAgg24) ?_
 replace hm := bnd hm
 obtain ⟨x20, hx21, hm⟩ := hm
 refine g_cn ⟨w0, M, (1000, go1, .cells #[.slice A14 x12.fb.length c15, mapV A17] 100 (0, 0)) :: (100020, g1, .cells #[.string p0.fName, .int .u16 p0.fType, .int .u16 p0.fClass] 74 (0, 0)) :: (1000, go0, .cells #[.pointer (some ⟨go1, 0, none⟩)] 33 (0, 0)) :: H, (1000, ⟨.slice A14 x12.fb.length c15, 5, 1, x12.fb.length, x12.fb.flatMap (fun x : Int => [Value.int .u8 x])⟩) :: (1001, ⟨mapV A17, 98, 2, x12.fplaces.length, x12.fplaces.flatMap (mcell (fun x : ByteArray => Value.string x) (fun x : Int => Value.int .i64 x))⟩) :: R, φ⟩ (fun W h => (ok_front (t := 1001) (t' := 1000) (ok_frontR (t := 1000) (t' := 1000) (ok_frontR (t := 1001) (t' := 1001) h rfl) rfl) rfl)) Try.call69 rfl rfl (c_pack_Packer_Word p0.fClass go1 x12 A14 c15 hc15 A17 c18 trivial _ hx21) (fun ⟨A22, c23, A25, c26⟩ ⟨hc23, hc26⟩ => ?_)
 refine g_sta _ (fun W h => (ok_frontR (t := 2000) (t' := 1000) (ok_frontR (t := 2001) (t' := 1001) (ok_front (t := 1000) (t' := 1001) h rfl) rfl) rfl)) <| g_nil <| d_then <| c_seq <| c_region <| g_v rfl r_move <| g_v rfl r_assign <| g_nil <| d_then <| c_ret ?_
 replace hm := Option.some.inj hm
 subst hm
 refine d_sta _ (fun W h => ok_frontR (t := 1001) (t' := 2001) h rfl) <| d_sta _ (fun W h => ok_frontR (t := 1000) (t' := 2000) h rfl) ?_
 refine d_retC (A22, c23, A25, c26) Try.results113 ?_ ⟨hc23, hc26⟩ (fun W h => (ok_front (t := 1000) (t' := 1000) (ok_front (t := 1001) (t' := 1001) (h.dropH (t := 100020) rfl) rfl) rfl).phi (fun W hφ => hφ)) (.inr rfl)
 refine res_tmp <| res_nil ?_
 exact rfl
noncomputable def m_message_each_112_j1  (l57 : List Int) (l60 : List (ByteArray × Int)) : Option (Int × Gpack_Packer) :=
  some (0, (⟨l57, l60⟩ : Gpack_Packer))
noncomputable def m_message_each_112_s2 (p0 : List GQuestion) (l87 : List Int) (l90 : List (ByteArray × Int)) (i93 : Int) : Option (((List Int) × (List (ByteArray × Int)) × Int) ⊕ (((List Int) × (List (ByteArray × Int))) ⊕ (Int × Gpack_Packer))) :=
  if i93 < (p0.length : Int) then
    (at_ p0 i93).bind fun x120 =>
    (m_message_whole_c1 x120 (⟨l87, l90⟩ : Gpack_Packer)).bind fun (z134 : Int × Gpack_Packer) =>
    if z134.1 ≠ 0 then
      some (.inr (.inr (z134.1, z134.2)))
    else
      some (.inl (z134.2.fb, z134.2.fplaces, w64 (i93 + 1)))
  else
    some (.inr (.inl (l87, l90)))
noncomputable def m_message_each_112 (p0 : List GQuestion) (o1 : Gpack_Packer) : Option (Int × Gpack_Packer) :=
  (loop (fun s => m_message_each_112_s2 p0 s.1 s.2.1 s.2.2) (o1.fb, o1.fplaces, 0)).bind fun e => Sum.elim (fun e => m_message_each_112_j1 e.1 e.2) (fun x => some x) e
theorem c_message_each_112 {w0 : World} {M : Nat → Prop} {H : List (Nat × Nat × Obj)} {R : List (Nat × Row)} {φ : World → Prop} (p0 : List GQuestion) (Ap0_0 : Option Addr) (cp0_0 : Nat) (hcp0_0 : p0.length ≤ cp0_0) (fp0_0 : ∀ W, (Sta.mk w0 M H R φ).ok W → Cl W Ap0_0 (p0.flatMap GQuestion.enc)) (go0 : Nat) (go1 : Nat) (o1 : Gpack_Packer) (Ao1_0 : Option Addr) (co1_0 : Nat) (hco1_0 : o1.fb.length ≤ co1_0) (Ao1_1 : Option Addr) (co1_1 : Nat) (hco1_1 : True) (r : Int × Gpack_Packer) (hm : m_message_each_112 p0 o1 = some r) :
    Cn Try.prog 112 #[.slice Ap0_0 p0.length cp0_0, .func (.func 113) #[] #[.pointer (some ⟨go0, 0, none⟩)]] ⟨w0, M, (1000, go0, .cells #[.pointer (some ⟨go1, 0, none⟩)] 33 (0, 0)) :: (1001, go1, .cells #[.slice Ao1_0 o1.fb.length co1_0, mapV Ao1_1] 100 (0, 0)) :: H, (1000, ⟨.slice Ao1_0 o1.fb.length co1_0, 5, 1, o1.fb.length, o1.fb.flatMap (fun x : Int => [Value.int .u8 x])⟩) :: (1001, ⟨mapV Ao1_1, 98, 2, o1.fplaces.length, o1.fplaces.flatMap (mcell (fun x : ByteArray => Value.string x) (fun x : Int => Value.int .i64 x))⟩) :: R, φ⟩ (fun x : Option Addr × Nat × Option Addr × Nat => .int .i64 r.1) (fun x => r.2.fb.length ≤ x.2.1 ∧ True) (fun x => ⟨w0, M, (1000, go0, .cells #[.pointer (some ⟨go1, 0, none⟩)] 33 (0, 0)) :: (1001, go1, .cells #[.slice x.1 r.2.fb.length x.2.1, mapV x.2.2.1] 100 (0, 0)) :: H, (2000, ⟨.slice x.1 r.2.fb.length x.2.1, 5, 1, r.2.fb.length, r.2.fb.flatMap (fun x : Int => [Value.int .u8 x])⟩) :: (2001, ⟨mapV x.2.2.1, 98, 2, r.2.fplaces.length, r.2.fplaces.flatMap (mcell (fun x : ByteArray => Value.string x) (fun x : Int => Value.int .i64 x))⟩) :: R, φ⟩) := by
 unfold m_message_each_112 at hm
 refine cn_intro (fn := Try.f112) (N := 21) Try.func112 rfl Try.ntmps112 rfl <| c_seq <| c_region <| g_v rfl r_assign <| g_nil <| d_then <| c_seq <| c_seq <| c_region <| g_v rfl r_move ?_
 refine g_v rfl (r_lenL Try.underlying60 rfl) <| g_v rfl r_move <| g_nil <| d_then ?_
 refine c_cut (ι := (List Int) × (List (ByteArray × Int)) × Option Addr × Nat × Option Addr × Nat) [] (fun ⟨l57, l60, A58, c59, A61, c62⟩ => []) (fun ⟨l57, l60, A58, c59, A61, c62⟩ => ⟨w0, M, (1000, go0, .cells #[.pointer (some ⟨go1, 0, none⟩)] 33 (0, 0)) :: (1001, go1, .cells #[.slice A58 l57.length c59, mapV A61] 100 (0, 0)) :: H, (1000, ⟨.slice A58 l57.length c59, 5, 1, l57.length, l57.flatMap (fun x : Int => [Value.int .u8 x])⟩) :: (1001, ⟨mapV A61, 98, 2, l60.length, l60.flatMap (mcell (fun x : ByteArray => Value.string x) (fun x : Int => Value.int .i64 x))⟩) :: R, φ⟩) (fun ⟨l57, l60, A58, c59, A61, c62⟩ => m_message_each_112_j1 l57 l60 = some r ∧ l57.length ≤ c59 ∧ True) ?_ (fun ⟨l57, l60, A58, c59, A61, c62⟩ u ⟨hm, hc59, hc62⟩ => ?_)
 ·
  refine c_block ?_
  replace hm := bnd hm
  obtain ⟨out2, hl2, hr2⟩ := hm
  obtain ⟨n118', hl2⟩ := loop_lp hl2
  refine c_loopU (ι := Nat × (List Int) × (List (ByteArray × Int)) × Int × Option Addr × Nat × Option Addr × Nat) [1, 8, 9, 10] (fun ⟨n118, l87, l90, i93, A88, c89, A91, c92⟩ => [(10, .int .i64 i93)]) (fun ⟨n118, l87, l90, i93, A88, c89, A91, c92⟩ => ⟨w0, M, (1000, go0, .cells #[.pointer (some ⟨go1, 0, none⟩)] 33 (0, 0)) :: (1001, go1, .cells #[.slice A88 l87.length c89, mapV A91] 100 (0, 0)) :: H, (1000, ⟨.slice A88 l87.length c89, 5, 1, l87.length, l87.flatMap (fun x : Int => [Value.int .u8 x])⟩) :: (1001, ⟨mapV A91, 98, 2, l90.length, l90.flatMap (mcell (fun x : ByteArray => Value.string x) (fun x : Int => Value.int .i64 x))⟩) :: R, φ⟩) (fun ⟨n118, l87, l90, i93, A88, c89, A91, c92⟩ => Lp (fun s => m_message_each_112_s2 p0 s.1 s.2.1 s.2.2) n118 (l87, l90, i93) out2 ∧ l87.length ≤ c89 ∧ True) (fun ⟨n118, l87, l90, i93, A88, c89, A91, c92⟩ => n118) (n118', o1.fb, o1.fplaces, 0, Ao1_0, co1_0, Ao1_1, co1_1) ⟨hl2, hco1_0, trivial⟩ ⟨rfl, rfl, rfl, rfl, trivial⟩ (fun W h => h.phi (fun W hφ => hφ)) (fun ⟨n118, l87, l90, i93, A88, c89, A91, c92⟩ u ⟨hlp, hc89, hc92⟩ => ?_)
  obtain ⟨o2, hm, hnx2⟩ := lp_step hlp
  clear hlp
  replace hm : m_message_each_112_s2 p0 l87 l90 i93 = some o2 := hm
  unfold m_message_each_112_s2 at hm
  refine c_flat [(1, .func (.func 113) #[] #[.pointer (some ⟨go0, 0, none⟩)]), (8, .slice Ap0_0 p0.length cp0_0), (9, .int .i64 (p0.length : Int)), (10, .int .i64 i93)] ⟨rfl, rfl, rfl, rfl, trivial⟩ (fun u => ?_)
  refine c_sta ⟨w0, M, (1000, go0, .cells #[.pointer (some ⟨go1, 0, none⟩)] 33 (0, 0)) :: (1001, go1, .cells #[.slice A88 l87.length c89, mapV A91] 100 (0, 0)) :: H, (1000, ⟨.slice A88 l87.length c89, 5, 1, l87.length, l87.flatMap (fun x : Int => [Value.int .u8 x])⟩) :: (1001, ⟨mapV A91, 98, 2, l90.length, l90.flatMap (mcell (fun x : ByteArray => Value.string x) (fun x : Int => Value.int .i64 x))⟩) :: R, φ⟩ (fun _ h => h) <| c_seq <| c_region <| g_v rfl (r_lss rfl rfl) <| g_nil <| d_then <| c_seq ?_
  refine c_cond rfl (fun h119 => ?_) (fun h119 => ?_)
  ·
   replace hm := ite_t hm (of_decide_eq_true h119)
   refine c_skip <| d_then <| c_seq <| c_block <| c_seq <| c_region ?_
   replace hm := bnd hm
   obtain ⟨x120, hx120, hm⟩ := hm
   refine g_know _ (fun W hS => cl_at (p := (Sta.mk w0 M H R φ).ok) (sz := 3) (fun _ => rfl) (by decide) (ok_pre (H1 := [_, _]) (R1 := [_, _]) hS (fun W h => h)) fp0_0 hx120) ?_
   rintro ⟨ad121, hA123, f122⟩
   refine g_v rfl (r_ix Try.underlying60 Try.sizeOf74 rfl hA123 rfl hx120) <| g_v rfl (r_ldA rfl Try.isAgg74 Try.sizeOf74 (fun W hS => (f122 W (ok_pre (H1 := [_, _]) (R1 := [_, _]) hS (fun W h => h))).take 3) rfl) ?_
   refine g_e rfl (e_alloc 100060 Try.zeroValue74) (fun g124 _ => ?_)
   refine g_storeL (tag := 100060) rfl rfl rfl rfl Try.sizeOf74 rfl rfl <| g_nil <| d_then <| c_seq <| c_region <| g_v rfl r_move <| g_v rfl (r_loadA (tag := 100060) rfl rfl Try.isAgg74 Try.sizeOf74 rfl rfl) ?_
   replace hm := bnd hm
   obtain ⟨⟨x125, x126⟩, hx127, hm⟩ := hm
   refine g_cnv ⟨w0, M, (1000, go0, .cells #[.pointer (some ⟨go1, 0, none⟩)] 33 (0, 0)) :: (1001, go1, .cells #[.slice A88 l87.length c89, mapV A91] 100 (0, 0)) :: (100060, g124, .cells #[.string x120.fName, .int .u16 x120.fType, .int .u16 x120.fClass] 74 (0, 0)) :: H, (1000, ⟨.slice A88 l87.length c89, 5, 1, l87.length, l87.flatMap (fun x : Int => [Value.int .u8 x])⟩) :: (1001, ⟨mapV A91, 98, 2, l90.length, l90.flatMap (mcell (fun x : ByteArray => Value.string x) (fun x : Int => Value.int .i64 x))⟩) :: R, φ⟩ (fun W h => (ok_front (t := 1000) (t' := 1000) (ok_front (t := 1001) (t' := 1001) (ok_frontR (t := 1000) (t' := 1000) (ok_frontR (t := 1001) (t' := 1001) h rfl) rfl) rfl) rfl)) Try.call113 rfl rfl rfl (c_message_whole_c1 x120 go0 go1 (⟨l87, l90⟩ : Gpack_Packer) A88 c89 hc89 A91 c92 trivial _ hx127) (fun ⟨A128, c129, A131, c132⟩ ⟨hc129, hc132⟩ => ?_)
   refine g_sta _ (fun W h => (ok_frontR (t := 2000) (t' := 1000) (ok_frontR (t := 2001) (t' := 1001) (ok_front (t := 1000) (t' := 1000) (ok_front (t := 1001) (t' := 1001) h rfl) rfl) rfl) rfl)) <| g_v rfl r_assign <| g_nil <| d_then ?_
   refine c_flat [(1, .func (.func 113) #[] #[.pointer (some ⟨go0, 0, none⟩)]), (7, .int .i64 x125), (8, .slice Ap0_0 p0.length cp0_0), (9, .int .i64 (p0.length : Int)), (10, .int .i64 i93)] ⟨rfl, rfl, rfl, rfl, rfl, trivial⟩ (fun u => ?_)
   refine c_sta ⟨w0, M, (1000, go0, .cells #[.pointer (some ⟨go1, 0, none⟩)] 33 (0, 0)) :: (1001, go1, .cells #[.slice A128 x126.fb.length c129, mapV A131] 100 (0, 0)) :: (100060, g124, .cells #[.string x120.fName, .int .u16 x120.fType, .int .u16 x120.fClass] 74 (0, 0)) :: H, (1000, ⟨.slice A128 x126.fb.length c129, 5, 1, x126.fb.length, x126.fb.flatMap (fun x : Int => [Value.int .u8 x])⟩) :: (1001, ⟨mapV A131, 98, 2, x126.fplaces.length, x126.fplaces.flatMap (mcell (fun x : ByteArray => Value.string x) (fun x : Int => Value.int .i64 x))⟩) :: R, φ⟩ (fun _ h => h) <| c_seq <| c_region <| g_v rfl r_move <| g_v rfl (r_neq rfl rfl) <| g_nil <| d_then ?_
   refine c_cond rfl (fun h135 => ?_) (fun h135 => ?_)
   ·
    replace hm := ite_t hm (of_decide_eq_true h135)
    refine c_seq <| c_region <| g_v rfl r_move <| g_v rfl r_assign <| g_nil <| d_then <| c_ret <| d_ret_block <| d_ret_then <| d_ret_then ?_
    refine d_ret_block <| d_ret_then <| d_ret_then ?_
    replace hm := nx_out (C := (fun e => Sum.elim (fun e => m_message_each_112_j1 e.1 e.2) (fun x => some x) e = some r)) hm hnx2 hr2
    replace hm : some (x125, x126) = some r := hm
    replace hm := Option.some.inj hm
    subst hm
    refine d_sta _ (fun W h => ok_frontR (t := 1001) (t' := 2001) h rfl) <| d_sta _ (fun W h => ok_frontR (t := 1000) (t' := 2000) h rfl) ?_
    refine d_retC (A128, c129, A131, c132) Try.results112 ?_ ⟨hc129, hc132⟩ (fun W h => (h.dropH (t := 100060) rfl).phi (fun W hφ => hφ)) (.inr rfl)
    refine res_tmp <| res_nil ?_
    exact rfl
   ·
    replace hm := ite_f hm (of_decide_eq_false h135)
    refine c_skip <| d_normal_block <| d_then <| c_region <| g_v rfl (r_add rfl rfl rfl) <| g_v rfl r_move <| g_nil ?_
    obtain ⟨n136, hn136, hlp⟩ := nx_inl hm hnx2
    exact d_round (n136, x126.fb, x126.fplaces, w64 (i93 + 1), A128, c129, A131, c132) ⟨hlp, hc129, trivial⟩ hn136 ⟨rfl, rfl, rfl, rfl, trivial⟩ (fun W h => (h.dropH (t := 100060) rfl).phi (fun W hφ => hφ))
  ·
   replace hm := ite_f hm (of_decide_eq_false h119)
   refine c_exit <| d_exit_then <| d_exit_then <| d_exit_block ?_
   replace hm := nx_out (C := (fun e => Sum.elim (fun e => m_message_each_112_j1 e.1 e.2) (fun x => some x) e = some r)) hm hnx2 hr2
   exact d_round (l87, l90, A88, c89, A91, c92) ⟨hm, hc89, trivial⟩ Nat.zero_lt_one trivial (fun W h => h.phi (fun W hφ => hφ))
 ·
  unfold m_message_each_112_j1 at hm
  refine d_flat [] trivial (fun u => ?_)
  refine d_sta ⟨w0, M, (1000, go0, .cells #[.pointer (some ⟨go1, 0, none⟩)] 33 (0, 0)) :: (1001, go1, .cells #[.slice A58 l57.length c59, mapV A61] 100 (0, 0)) :: H, (1000, ⟨.slice A58 l57.length c59, 5, 1, l57.length, l57.flatMap (fun x : Int => [Value.int .u8 x])⟩) :: (1001, ⟨mapV A61, 98, 2, l60.length, l60.flatMap (mcell (fun x : ByteArray => Value.string x) (fun x : Int => Value.int .i64 x))⟩) :: R, φ⟩ (fun _ h => h) <| d_then <| c_seq <| c_region <| g_v rfl r_assign <| g_nil <| d_then <| c_ret ?_
  replace hm := Option.some.inj hm
  subst hm
  refine d_sta _ (fun W h => ok_frontR (t := 1001) (t' := 2001) h rfl) <| d_sta _ (fun W h => ok_frontR (t := 1000) (t' := 2000) h rfl) ?_
  refine d_retC (A58, c59, A61, c62) Try.results112 ?_ ⟨hc59, hc62⟩ (fun W h => h.phi (fun W hφ => hφ)) (.inr rfl)
  refine res_tmp <| res_nil ?_
  exact rfl
structure Grecord_shape where
  fahead : Int
  fnames : Int
  fbehind : Int
  deriving DecidableEq
def Grecord_shape.enc (e : Grecord_shape) : List Value := [.int .i64 e.fahead, .int .i64 e.fnames, .int .i64 e.fbehind]
theorem bld90_11 (z0 : Int) (z1 : Int) (z2 : Int) : ∀ W, (Instr.build 90 #[(0, .int .i64 z0), (1, .int .i64 z1), (2, .int .i64 z2)]).run Try.prog W = .ok (.agg #[.int .i64 z0, .int .i64 z1, .int .i64 z2]) W := fun _ => by kernel_rfl
theorem bld90_12  : ∀ W, (Instr.build 90 #[]).run Try.prog W = .ok (.agg #[.int .i64 0, .int .i64 0, .int .i64 0]) W := fun _ => by kernel_rfl
noncomputable def m_record_shapeOf_j1 (p0 : Int) (b4 : Bool) : Option Grecord_shape :=
  if b4 = true then
    some (⟨0, 1, 0⟩ : Grecord_shape)
  else
    if p0 = 15 then
      some (⟨2, 1, 0⟩ : Grecord_shape)
    else
      if p0 = 6 then
        some (⟨0, 2, 20⟩ : Grecord_shape)
      else
        some (⟨0, 0, 0⟩ : Grecord_shape)
noncomputable def m_record_shapeOf (p0 : Int) : Option Grecord_shape :=
  if p0 = 2 then
    m_record_shapeOf_j1 p0 (decide (p0 = 2))
  else
    if p0 = 5 then
      m_record_shapeOf_j1 p0 (decide (p0 = 5))
    else
      m_record_shapeOf_j1 p0 (decide (p0 = 12))
theorem c_record_shapeOf {w0 : World} {M : Nat → Prop} {H : List (Nat × Nat × Obj)} {R : List (Nat × Row)} {φ : World → Prop} (p0 : Int) (r : Grecord_shape) (hm : m_record_shapeOf p0 = some r) :
    Cn Try.prog 61 #[.int .u16 p0] ⟨w0, M, H, R, φ⟩ (fun x : Unit => .agg #[.int .i64 r.fahead, .int .i64 r.fnames, .int .i64 r.fbehind]) (fun x => True) (fun x => ⟨w0, M, H, R, φ⟩) := by
 unfold m_record_shapeOf at hm
 refine cn_intro (fn := Try.f61) (N := 16) Try.func61 rfl Try.ntmps61 rfl <| c_seq <| c_region ?_
 refine g_e rfl (e_alloc 100020 Try.zeroValue90) (fun g1 _ => ?_)
 refine g_nil <| d_then <| c_seq <| c_seq <| c_region <| g_v rfl r_move <| g_nil <| d_then <| c_block <| c_seq ?_
 refine c_cut (ι := Bool) [2, 3, 4] (fun b4 => [(4, .bool b4)]) (fun b4 => ⟨w0, M, (100020, g1, .cells #[.int .i64 0, .int .i64 0, .int .i64 0] 90 (0, 0)) :: H, R, φ⟩) (fun b4 => m_record_shapeOf_j1 p0 b4 = some r) ?_ (fun b4 u hm => ?_)
 ·
  refine c_seq <| c_region <| g_v rfl (r_eql rfl rfl) <| g_v rfl r_assign <| g_nil <| d_then ?_
  refine c_cond rfl (fun h8 => ?_) (fun h8 => ?_)
  ·
   replace hm := ite_t hm (of_decide_eq_true h8)
   refine c_skip ?_
   exact d_round (decide (p0 = 2)) hm Nat.zero_lt_one ⟨rfl, rfl, rfl, trivial⟩ (fun W h => h.phi (fun W hφ => hφ))
  ·
   replace hm := ite_f hm (of_decide_eq_false h8)
   refine c_seq <| c_region <| g_v rfl (r_eql rfl rfl) <| g_v rfl r_assign <| g_nil <| d_then ?_
   refine c_cond rfl (fun h9 => ?_) (fun h9 => ?_)
   ·
    replace hm := ite_t hm (of_decide_eq_true h9)
    refine c_skip ?_
    exact d_round (decide (p0 = 5)) hm Nat.zero_lt_one ⟨rfl, rfl, rfl, trivial⟩ (fun W h => h.phi (fun W hφ => hφ))
   ·
    replace hm := ite_f hm (of_decide_eq_false h9)
    refine c_region <| g_v rfl (r_eql rfl rfl) <| g_v rfl r_assign <| g_nil ?_
    exact d_round (decide (p0 = 12)) hm Nat.zero_lt_one ⟨rfl, rfl, rfl, trivial⟩ (fun W h => h.phi (fun W hφ => hφ))
 ·
  unfold m_record_shapeOf_j1 at hm
  refine d_flat [(2, .pointer (some ⟨g1, 0, none⟩)), (3, .int .u16 p0), (4, .bool b4)] ⟨rfl, rfl, rfl, trivial⟩ (fun u => ?_)
  refine d_sta ⟨w0, M, (100020, g1, .cells #[.int .i64 0, .int .i64 0, .int .i64 0] 90 (0, 0)) :: H, R, φ⟩ (fun _ h => h) <| d_then ?_
  refine c_cond rfl (fun h5 => ?_) (fun h5 => ?_)
  ·
   replace hm := ite_t hm h5
   refine c_seq <| c_region <| g_v rfl (r_build _ rfl (bld90_11 _ _ _)) <| g_storeL (tag := 100020) rfl rfl rfl rfl Try.sizeOf90 rfl rfl <| g_nil <| d_then <| c_ret <| d_ret_block <| d_ret_then ?_
   replace hm := Option.some.inj hm
   subst hm
   refine d_retC () Try.results61 ?_ trivial (fun W h => ok_pre (H1 := [_]) (R1 := []) h (fun W hφ => hφ)) (.inr rfl)
   refine res_agg (tag := 100020) rfl rfl Try.isAgg90 Try.sizeOf90 <| res_nil ?_
   exact rfl
  ·
   replace hm := ite_f hm (bool_nt h5)
   refine c_seq <| c_region <| g_v rfl (r_eql rfl rfl) <| g_v rfl r_assign <| g_nil <| d_then ?_
   refine c_cond rfl (fun h6 => ?_) (fun h6 => ?_)
   ·
    replace hm := ite_t hm (of_decide_eq_true h6)
    refine c_seq <| c_region <| g_v rfl (r_build _ rfl (bld90_11 _ _ _)) <| g_storeL (tag := 100020) rfl rfl rfl rfl Try.sizeOf90 rfl rfl <| g_nil <| d_then <| c_ret <| d_ret_block <| d_ret_then ?_
    replace hm := Option.some.inj hm
    subst hm
    refine d_retC () Try.results61 ?_ trivial (fun W h => ok_pre (H1 := [_]) (R1 := []) h (fun W hφ => hφ)) (.inr rfl)
    refine res_agg (tag := 100020) rfl rfl Try.isAgg90 Try.sizeOf90 <| res_nil ?_
    exact rfl
   ·
    replace hm := ite_f hm (of_decide_eq_false h6)
    refine c_seq <| c_region <| g_v rfl (r_eql rfl rfl) <| g_v rfl r_assign <| g_nil <| d_then ?_
    refine c_cond rfl (fun h7 => ?_) (fun h7 => ?_)
    ·
     replace hm := ite_t hm (of_decide_eq_true h7)
     refine c_seq <| c_region <| g_v rfl (r_build _ rfl (bld90_11 _ _ _)) <| g_storeL (tag := 100020) rfl rfl rfl rfl Try.sizeOf90 rfl rfl <| g_nil <| d_then <| c_ret <| d_ret_block <| d_ret_then ?_
     replace hm := Option.some.inj hm
     subst hm
     refine d_retC () Try.results61 ?_ trivial (fun W h => ok_pre (H1 := [_]) (R1 := []) h (fun W hφ => hφ)) (.inr rfl)
     refine res_agg (tag := 100020) rfl rfl Try.isAgg90 Try.sizeOf90 <| res_nil ?_
     exact rfl
    ·
     replace hm := ite_f hm (of_decide_eq_false h7)
     refine c_skip <| d_normal_block <| d_then <| c_seq <| c_region <| g_v rfl (r_build _ rfl (bld90_12)) <| g_storeL (tag := 100020) rfl rfl rfl rfl Try.sizeOf90 rfl rfl <| g_nil <| d_then <| c_ret ?_
     replace hm := Option.some.inj hm
     subst hm
     refine d_retC () Try.results61 ?_ trivial (fun W h => ok_pre (H1 := [_]) (R1 := []) h (fun W hφ => hφ)) (.inr rfl)
     refine res_agg (tag := 100020) rfl rfl Try.isAgg90 Try.sizeOf90 <| res_nil ?_
     exact rfl
structure Grecord_parts where
  fahead : ByteArray
  fbehind : ByteArray
  fnames : List ByteArray
theorem bld107_13  : ∀ W, (Instr.build 107 #[]).run Try.prog W = .ok (.agg #[.string (⟨#[]⟩ : ByteArray), .string (⟨#[]⟩ : ByteArray), .slice none 0 0]) W := fun _ => by kernel_rfl
theorem bld107_14 (z0 : ByteArray) : ∀ W, (Instr.build 107 #[(0, .string z0)]).run Try.prog W = .ok (.agg #[.string z0, .string (⟨#[]⟩ : ByteArray), .slice none 0 0]) W := fun _ => by kernel_rfl
noncomputable def m_record_shape_cut_c1_j1 (o0 : ByteArray) (o1 : Grecord_parts) (i13 : Int) : Option (Bool × ByteArray × Grecord_parts) :=
  if (o0.size : Int) ≤ i13 then
    some (false, o0, o1)
  else
    (scutHi o0 (w64 (i13 + 1))).bind fun s15 =>
    (m_name_Check s15).bind fun x16 =>
    if x16 ≠ 0 then
      some (false, o0, o1)
    else
      (scutHi o0 (w64 (i13 + 1))).bind fun s29 =>
      (app 16 o1.fnames [s29]).bind fun l31 =>
      (scutLo o0 (w64 (i13 + 1))).bind fun s34 =>
      some (true, s34, (⟨o1.fahead, o1.fbehind, l31⟩ : Grecord_parts))
noncomputable def m_record_shape_cut_c1_s2 (o0 : ByteArray) (i40 : Int) : Option (Int ⊕ Int) :=
  if i40 < (o0.size : Int) then
    (sat_ o0 i40).bind fun b48 =>
    if b48 ≠ 0 then
      (sat_ o0 i40).bind fun b50 =>
      some (.inl (w64 (i40 + (w64 (1 + (w64 b50))))))
    else
      some (.inr i40)
  else
    some (.inr i40)
noncomputable def m_record_shape_cut_c1 (o0 : ByteArray) (o1 : Grecord_parts) : Option (Bool × ByteArray × Grecord_parts) :=
  (loop (fun s => m_record_shape_cut_c1_s2 o0 s) 0).bind fun e => m_record_shape_cut_c1_j1 o0 o1 e
theorem c_record_shape_cut_c1 {w0 : World} {M : Nat → Prop} {H : List (Nat × Nat × Obj)} {R : List (Nat × Row)} {φ : World → Prop} (go0 : Nat) (o0 : ByteArray) (go1 : Nat) (o1 : Grecord_parts) (Ao1_0 : Option Addr) (co1_0 : Nat) (hco1_0 : o1.fnames.length ≤ co1_0) (r : Bool × ByteArray × Grecord_parts) (hm : m_record_shape_cut_c1 o0 o1 = some r) :
    Cn Try.prog 101 #[.pointer (some ⟨go0, 0, none⟩), .pointer (some ⟨go1, 0, none⟩)] ⟨w0, M, (1000, go0, .cells #[.string o0] 9 (0, 0)) :: (1001, go1, .cells #[.string o1.fahead, .string o1.fbehind, .slice Ao1_0 o1.fnames.length co1_0] 107 (0, 0)) :: H, (1000, ⟨.slice Ao1_0 o1.fnames.length co1_0, 9, 1, o1.fnames.length, o1.fnames.flatMap (fun x : ByteArray => [Value.string x])⟩) :: R, φ⟩ (fun x : Option Addr × Nat => .bool r.1) (fun x => r.2.2.fnames.length ≤ x.2) (fun x => ⟨w0, M, (1000, go0, .cells #[.string r.2.1] 9 (0, 0)) :: (1001, go1, .cells #[.string r.2.2.fahead, .string r.2.2.fbehind, .slice x.1 r.2.2.fnames.length x.2] 107 (0, 0)) :: H, (2000, ⟨.slice x.1 r.2.2.fnames.length x.2, 9, 1, r.2.2.fnames.length, r.2.2.fnames.flatMap (fun x : ByteArray => [Value.string x])⟩) :: R, φ⟩) := by
 unfold m_record_shape_cut_c1 at hm
 refine cn_intro (fn := Try.f101) (N := 46) Try.func101 rfl Try.ntmps101 rfl <| c_seq <| c_region <| g_v rfl r_assign <| g_nil <| d_then <| c_seq <| c_region <| g_v rfl r_assign <| g_nil ?_
 refine d_then <| c_seq ?_
 refine c_cut (ι := Int) [0, 1, 3] (fun i13 => [(3, .int .i64 i13)]) (fun i13 => ⟨w0, M, (1000, go0, .cells #[.string o0] 9 (0, 0)) :: (1001, go1, .cells #[.string o1.fahead, .string o1.fbehind, .slice Ao1_0 o1.fnames.length co1_0] 107 (0, 0)) :: H, (1000, ⟨.slice Ao1_0 o1.fnames.length co1_0, 9, 1, o1.fnames.length, o1.fnames.flatMap (fun x : ByteArray => [Value.string x])⟩) :: R, φ⟩) (fun i13 => m_record_shape_cut_c1_j1 o0 o1 i13 = some r) ?_ (fun i13 u hm => ?_)
 ·
  refine c_block ?_
  replace hm := bnd hm
  obtain ⟨out2, hl2, hr2⟩ := hm
  obtain ⟨n46', hl2⟩ := loop_lp hl2
  refine c_loopU (ι := Nat × Int) [0, 1, 3] (fun ⟨n46, i40⟩ => [(3, .int .i64 i40)]) (fun ⟨n46, i40⟩ => ⟨w0, M, (1000, go0, .cells #[.string o0] 9 (0, 0)) :: (1001, go1, .cells #[.string o1.fahead, .string o1.fbehind, .slice Ao1_0 o1.fnames.length co1_0] 107 (0, 0)) :: H, (1000, ⟨.slice Ao1_0 o1.fnames.length co1_0, 9, 1, o1.fnames.length, o1.fnames.flatMap (fun x : ByteArray => [Value.string x])⟩) :: R, φ⟩) (fun ⟨n46, i40⟩ => Lp (fun s => m_record_shape_cut_c1_s2 o0 s) n46 i40 out2) (fun ⟨n46, i40⟩ => n46) (n46', 0) hl2 ⟨rfl, rfl, rfl, trivial⟩ (fun W h => h.phi (fun W hφ => hφ)) (fun ⟨n46, i40⟩ u hlp => ?_)
  obtain ⟨o2, hm, hnx2⟩ := lp_step hlp
  clear hlp
  replace hm : m_record_shape_cut_c1_s2 o0 i40 = some o2 := hm
  unfold m_record_shape_cut_c1_s2 at hm
  refine c_flat [(0, .pointer (some ⟨go0, 0, none⟩)), (1, .pointer (some ⟨go1, 0, none⟩)), (3, .int .i64 i40)] ⟨rfl, rfl, rfl, trivial⟩ (fun u => ?_)
  refine c_sta ⟨w0, M, (1000, go0, .cells #[.string o0] 9 (0, 0)) :: (1001, go1, .cells #[.string o1.fahead, .string o1.fbehind, .slice Ao1_0 o1.fnames.length co1_0] 107 (0, 0)) :: H, (1000, ⟨.slice Ao1_0 o1.fnames.length co1_0, 9, 1, o1.fnames.length, o1.fnames.flatMap (fun x : ByteArray => [Value.string x])⟩) :: R, φ⟩ (fun _ h => h) <| c_seq <| c_seq <| c_region <| g_v rfl r_move <| g_v rfl (r_load (tag := 1000) rfl rfl rfl Try.isAgg9) <| g_v rfl (r_len Try.underlying9 rfl) <| g_v rfl (r_lss rfl rfl) <| g_v rfl r_move ?_
  refine g_if rfl rfl rfl rfl rfl (fun h47 => ?_) (fun h47 => ?_)
  ·
   replace hm := ite_t hm (of_decide_eq_true h47)
   refine g_v rfl (r_load (tag := 1000) rfl rfl rfl Try.isAgg9) <| g_do rfl rfl rfl rfl rfl h47 <| g_v rfl r_move <| g_do rfl rfl rfl rfl rfl h47 ?_
   replace hm := bnd hm
   obtain ⟨b48, hb48, hm⟩ := hm
   refine g_v rfl (r_sat Try.underlying9 rfl rfl hb48) <| g_do rfl rfl rfl rfl rfl h47 <| g_v rfl (r_neq rfl rfl) <| g_v rfl (r_pick1 rfl h47) <| g_nil <| d_then ?_
   refine c_flat [(0, .pointer (some ⟨go0, 0, none⟩)), (1, .pointer (some ⟨go1, 0, none⟩)), (3, .int .i64 i40), (13, .bool (decide (b48 ≠ 0)))] ⟨rfl, rfl, rfl, rfl, trivial⟩ (fun u => ?_)
   refine c_cond rfl (fun h49 => ?_) (fun h49 => ?_)
   ·
    replace hm := ite_t hm (of_decide_eq_true h49)
    refine c_skip <| d_then <| c_block <| c_region <| g_v rfl r_move <| g_v rfl (r_load (tag := 1000) rfl rfl rfl Try.isAgg9) <| g_v rfl r_move ?_
    replace hm := bnd hm
    obtain ⟨b50, hb50, hm⟩ := hm
    refine g_v rfl (r_sat Try.underlying9 rfl rfl hb50) <| g_v rfl (r_conv Try.underlying5 Try.underlying3 rfl rfl) <| g_v rfl (r_add rfl rfl rfl) <| g_v rfl (r_add rfl rfl rfl) <| g_v rfl r_assign <| g_nil <| d_normal_block ?_
    obtain ⟨n51, hn51, hlp⟩ := nx_inl hm hnx2
    exact d_round (n51, w64 (i40 + (w64 (1 + (w64 b50))))) hlp hn51 ⟨rfl, rfl, rfl, trivial⟩ (fun W h => h.phi (fun W hφ => hφ))
   ·
    replace hm := ite_f hm (of_decide_eq_false h49)
    refine c_exit <| d_exit_then <| d_exit_then <| d_exit_block ?_
    replace hm := nx_out (C := (fun e => m_record_shape_cut_c1_j1 o0 o1 e = some r)) hm hnx2 hr2
    exact d_round i40 hm Nat.zero_lt_one ⟨rfl, rfl, rfl, trivial⟩ (fun W h => h.phi (fun W hφ => hφ))
  ·
   replace hm := ite_f hm (of_decide_eq_false h47)
   refine g_no rfl rfl rfl rfl rfl h47 <| g_no rfl rfl rfl rfl rfl h47 <| g_no rfl rfl rfl rfl rfl h47 <| g_v rfl (r_pick0 rfl h47) <| g_nil <| d_then <| c_cond0 rfl rfl <| c_exit <| d_exit_then <| d_exit_then ?_
   refine d_exit_block ?_
   replace hm := nx_out (C := (fun e => m_record_shape_cut_c1_j1 o0 o1 e = some r)) hm hnx2 hr2
   exact d_round i40 hm Nat.zero_lt_one ⟨rfl, rfl, rfl, trivial⟩ (fun W h => h.phi (fun W hφ => hφ))
 ·
  unfold m_record_shape_cut_c1_j1 at hm
  refine d_flat [(0, .pointer (some ⟨go0, 0, none⟩)), (1, .pointer (some ⟨go1, 0, none⟩)), (3, .int .i64 i13)] ⟨rfl, rfl, rfl, trivial⟩ (fun u => ?_)
  refine d_sta ⟨w0, M, (1000, go0, .cells #[.string o0] 9 (0, 0)) :: (1001, go1, .cells #[.string o1.fahead, .string o1.fbehind, .slice Ao1_0 o1.fnames.length co1_0] 107 (0, 0)) :: H, (1000, ⟨.slice Ao1_0 o1.fnames.length co1_0, 9, 1, o1.fnames.length, o1.fnames.flatMap (fun x : ByteArray => [Value.string x])⟩) :: R, φ⟩ (fun _ h => h) <| d_then <| c_seq <| c_seq <| c_region <| g_v rfl r_move <| g_v rfl (r_load (tag := 1000) rfl rfl rfl Try.isAgg9) <| g_v rfl (r_len Try.underlying9 rfl) <| g_v rfl (r_geq rfl rfl) <| g_v rfl r_move ?_
  refine g_if rfl rfl rfl rfl rfl (fun h14 => ?_) (fun h14 => ?_)
  ·
   replace hm := ite_f hm (of_decide_eq_false h14)
   refine g_v rfl (r_load (tag := 1000) rfl rfl rfl Try.isAgg9) <| g_do rfl rfl rfl rfl rfl h14 <| g_v rfl r_move <| g_do rfl rfl rfl rfl rfl h14 <| g_v rfl (r_add rfl rfl rfl) <| g_do rfl rfl rfl rfl rfl h14 ?_
   replace hm := bnd hm
   obtain ⟨s15, hs15, hm⟩ := hm
   refine g_v rfl (r_scutHi Try.underlying9 rfl rfl hs15) <| g_do rfl rfl rfl rfl rfl h14 ?_
   replace hm := bnd hm
   obtain ⟨x16, hx17, hm⟩ := hm
   refine g_cn ⟨w0, M, _, _, φ⟩ (fun _ h => h) Try.call79 rfl rfl (c_name_Check s15 _ hx17) (fun _ _ => ?_)
   refine g_do rfl rfl rfl rfl rfl h14 <| g_v rfl (r_neq rfl rfl) <| g_v rfl (r_pick0 rfl h14) <| g_nil <| d_then ?_
   refine c_flat [(0, .pointer (some ⟨go0, 0, none⟩)), (1, .pointer (some ⟨go1, 0, none⟩)), (3, .int .i64 i13), (32, .bool (decide (x16 ≠ 0)))] ⟨rfl, rfl, rfl, rfl, trivial⟩ (fun u => ?_)
   refine c_cond rfl (fun h18 => ?_) (fun h18 => ?_)
   ·
    replace hm := ite_t hm (of_decide_eq_true h18)
    refine c_seq <| c_region <| g_v rfl r_assign <| g_nil <| d_then <| c_ret <| d_ret_then ?_
    replace hm := Option.some.inj hm
    subst hm
    refine d_sta _ (fun W h => ok_frontR (t := 1000) (t' := 2000) h rfl) ?_
    refine d_retC (Ao1_0, co1_0) Try.results101 ?_ hco1_0 (fun W h => h.phi (fun W hφ => hφ)) (.inr rfl)
    refine res_tmp <| res_nil ?_
    exact rfl
   ·
    replace hm := ite_f hm (of_decide_eq_false h18)
    refine c_skip <| d_then <| c_seq <| ga_start (n := 10) ⟨w0, M, (1000, go0, .cells #[.string o0] 9 (0, 0)) :: (1001, go1, .cells #[.string o1.fahead, .string o1.fbehind, .slice Ao1_0 o1.fnames.length co1_0] 107 (0, 0)) :: H, R, φ⟩ [9] #[false, false, false, false, false, false, false, false, false, false] (fun W h => (h.dropR (t := 1000) rfl).phi (fun W hφ => hφ)) mixed rfl rfl <| ga_v (i := 0) (bz 10 1) rfl (by kernel_rfl) (fun _ _ _ _ h => h) rfl (r_field (n := 2) Try.underlying107 rfl Try.sizeOf105 rfl rfl) <| ga_v (i := 1) (bz 10 3) rfl (by kernel_rfl) (fun _ _ _ _ h => h) rfl (r_load (tag := 1001) rfl rfl rfl Try.isAgg105) <| ga_v (i := 2) (bz 10 7) rfl (by kernel_rfl) (fun _ _ _ _ h => h) rfl (r_load (tag := 1000) rfl rfl rfl Try.isAgg9) <| ga_r (i := 3) (bz 10 15) rfl (by kernel_rfl) (by decide) rfl (r_move) <| ga_r (i := 4) (bz 10 31) rfl (by kernel_rfl) (by decide) rfl (r_add rfl rfl rfl) ?_
    replace hm := bnd hm
    obtain ⟨s29, hs29, hm⟩ := hm
    refine ga_r (i := 5) (bz 10 63) rfl (by kernel_rfl) (by decide) rfl (r_scutHi Try.underlying9 rfl rfl hs29) ?_
    refine ga_e (i := 6) (bz 10 127) rfl (by kernel_rfl) (by decide) rfl  (e_lit (tag := 100390) (l := [s29]) (enc := (fun x : ByteArray => [Value.string x])) (sz := 1) rfl Try.underlying105 (lit9_7 _) rfl rfl (fun _ => rfl)) (fun g30 W _ h => ((h.dropR (t := 100390) rfl).dropR (t := 1000) rfl).phi (fun W hφ => hφ)) (fun g30 _ => ?_)
    replace hm := bnd hm
    obtain ⟨l31, hl31, hm⟩ := hm
    refine ga_e (i := 7) (bz 10 255) rfl (by kernel_rfl) (by decide) rfl  (e_appR (enc := (fun x : ByteArray => [Value.string x])) (l := o1.fnames) (l1 := [s29]) (l2 := l31) (tag := 1000) Try.underlying105 inf9_8 rfl (by decide) (by decide) (fun _ => rfl) (fun _ => rfl) rfl hco1_0 rfl rfl (fun W hS => rowCl (tag := 100390) rfl W hS) hl31) (fun ⟨A32, c33⟩ W hc33 h => ((h.dropR (t := 100390) rfl).dropR (t := 1000) rfl).phi (fun W hφ => hφ)) (fun ⟨A32, c33⟩ hc33 => ?_)
    refine ga_r (i := 8) (bz 10 511) rfl (by kernel_rfl) (by decide) rfl (r_field (n := 2) Try.underlying107 rfl Try.sizeOf105 rfl rfl) <| ga_lastL (i := 9) (tag := 1001) (bz 10 1023) rfl (by kernel_rfl) (by decide) rfl rfl rfl rfl Try.sizeOf105 rfl rfl <| gz_done (by kernel_rfl) <| d_then ?_
    refine c_flat [(0, .pointer (some ⟨go0, 0, none⟩)), (3, .int .i64 i13)] ⟨rfl, rfl, trivial⟩ (fun u => ?_)
    refine c_sta ⟨w0, M, (1000, go0, .cells #[.string o0] 9 (0, 0)) :: (1001, go1, .cells #[.string o1.fahead, .string o1.fbehind, .slice A32 l31.length c33] 107 (0, 0)) :: H, (100390, ⟨.slice (some ⟨g30, 0, none⟩) [s29].length 1, 9, 1, [s29].length, [s29].flatMap (fun x : ByteArray => [Value.string x])⟩) :: (1000, ⟨.slice A32 l31.length c33, 9, 1, l31.length, l31.flatMap (fun x : ByteArray => [Value.string x])⟩) :: R, φ⟩ (fun _ h => h) <| c_seq <| c_region <| g_v rfl (r_load (tag := 1000) rfl rfl rfl Try.isAgg9) <| g_v rfl r_move <| g_v rfl (r_add rfl rfl rfl) ?_
    replace hm := bnd hm
    obtain ⟨s34, hs34, hm⟩ := hm
    refine g_v rfl (r_scutLo Try.underlying9 rfl rfl hs34) <| g_storeL (tag := 1000) rfl rfl rfl rfl Try.sizeOf9 rfl rfl <| g_nil <| d_then <| c_seq <| c_region <| g_v rfl r_assign <| g_nil <| d_then <| c_ret ?_
    replace hm := Option.some.inj hm
    subst hm
    refine d_sta _ (fun W h => ok_frontR (t := 1000) (t' := 2000) h rfl) ?_
    refine d_retC (A32, c33) Try.results101 ?_ hc33 (fun W h => (h.dropR (t := 100390) rfl).phi (fun W hφ => hφ)) (.inr rfl)
    refine res_tmp <| res_nil ?_
    exact rfl
  ·
   replace hm := ite_t hm (of_decide_eq_true h14)
   refine g_no rfl rfl rfl rfl rfl h14 <| g_no rfl rfl rfl rfl rfl h14 <| g_no rfl rfl rfl rfl rfl h14 <| g_no rfl rfl rfl rfl rfl h14 <| g_no rfl rfl rfl rfl rfl h14 <| g_v rfl (r_pick1 rfl h14) <| g_nil <| d_then <| c_cond1 rfl rfl <| c_seq ?_
   refine c_region <| g_v rfl r_assign <| g_nil <| d_then <| c_ret <| d_ret_then ?_
   replace hm := Option.some.inj hm
   subst hm
   refine d_sta _ (fun W h => ok_frontR (t := 1000) (t' := 2000) h rfl) ?_
   refine d_retC (Ao1_0, co1_0) Try.results101 ?_ hco1_0 (fun W h => h.phi (fun W hφ => hφ)) (.inr rfl)
   refine res_tmp <| res_nil ?_
   exact rfl
noncomputable def m_record_shape_cut_j1 (p0 : Grecord_shape) (l109 : List ByteArray) (s112 : ByteArray) (s113 : ByteArray) (s114 : ByteArray) : Option (Grecord_parts × Bool) :=
  some ((⟨s113, s112, l109⟩ : Grecord_parts), decide ((s112.size : Int) = p0.fbehind))
noncomputable def m_record_shape_cut_s2 (p0 : Grecord_shape) (l134 : List ByteArray) (i137 : Int) (s138 : ByteArray) (s139 : ByteArray) (s140 : ByteArray) : Option (((List ByteArray) × Int × ByteArray × ByteArray × ByteArray) ⊕ (((List ByteArray) × ByteArray × ByteArray × ByteArray) ⊕ (Grecord_parts × Bool))) :=
  if i137 < p0.fnames then
    (m_record_shape_cut_c1 s138 (⟨s139, s140, l134⟩ : Grecord_parts)).bind fun (z167 : Bool × ByteArray × Grecord_parts) =>
    if z167.1 = true then
      some (.inl (z167.2.2.fnames, w64 (i137 + 1), z167.2.1, z167.2.2.fahead, z167.2.2.fbehind))
    else
      some (.inr (.inr ((⟨(⟨#[]⟩ : ByteArray), (⟨#[]⟩ : ByteArray), ([] : List ByteArray)⟩ : Grecord_parts), false)))
  else
    some (.inr (.inl (l134, s138, s139, s140)))
noncomputable def m_record_shape_cut (p0 : Grecord_shape) (p1 : ByteArray) : Option (Grecord_parts × Bool) :=
  if (p1.size : Int) < p0.fahead then
    some ((⟨(⟨#[]⟩ : ByteArray), (⟨#[]⟩ : ByteArray), ([] : List ByteArray)⟩ : Grecord_parts), false)
  else
    (scutHi p1 p0.fahead).bind fun s4 =>
    (scutLo p1 p0.fahead).bind fun s6 =>
    (loop (fun s => m_record_shape_cut_s2 p0 s.1 s.2.1 s.2.2.1 s.2.2.2.1 s.2.2.2.2) (([] : List ByteArray), 0, s6, s4, (⟨#[]⟩ : ByteArray))).bind fun e => Sum.elim (fun e => m_record_shape_cut_j1 p0 e.1 e.2.1 e.2.2.1 e.2.2.2) (fun x => some x) e
theorem c_record_shape_cut {w0 : World} {M : Nat → Prop} {H : List (Nat × Nat × Obj)} {R : List (Nat × Row)} {φ : World → Prop} (p0 : Grecord_shape) (p1 : ByteArray) (r : Grecord_parts × Bool) (hm : m_record_shape_cut p0 p1 = some r) :
    Cn Try.prog 71 #[.agg #[.int .i64 p0.fahead, .int .i64 p0.fnames, .int .i64 p0.fbehind], .string p1] ⟨w0, M, H, R, φ⟩ (fun x : Option Addr × Nat => .tuple #[.agg #[.string r.1.fahead, .string r.1.fbehind, .slice x.1 r.1.fnames.length x.2], .bool r.2]) (fun x => r.1.fnames.length ≤ x.2) (fun x => ⟨w0, M, H, R, fun W => φ W ∧ Cl W x.1 (r.1.fnames.flatMap (fun x : ByteArray => [Value.string x]))⟩) := by
 unfold m_record_shape_cut at hm
 refine cn_intro (fn := Try.f71) (N := 42) Try.func71 rfl Try.ntmps71 rfl <| c_seq <| c_region ?_
 refine g_e rfl (e_box 100020 rfl) (fun g1 _ => ?_)
 refine g_e rfl (e_alloc 100040 Try.zeroValue107) (fun g2 _ => ?_)
 refine g_v rfl r_assign <| g_nil <| d_then <| c_seq <| c_seq <| c_region <| g_v rfl r_move <| g_v rfl (r_len Try.underlying9 rfl) <| g_v rfl (r_field (n := 0) Try.underlying90 rfl Try.sizeOf3 rfl rfl) <| g_v rfl (r_load (tag := 100020) rfl rfl rfl Try.isAgg3) ?_
 refine g_v rfl (r_lss rfl rfl) <| g_nil <| d_then ?_
 refine c_cond rfl (fun h3 => ?_) (fun h3 => ?_)
 ·
  replace hm := ite_t hm (of_decide_eq_true h3)
  refine c_seq <| c_region <| g_v rfl (r_build _ rfl (bld107_13)) <| g_storeL (tag := 100040) rfl rfl rfl rfl Try.sizeOf107 rfl rfl <| g_v rfl r_assign <| g_nil <| d_then ?_
  refine c_flat [(4, .pointer (some ⟨g2, 0, none⟩)), (5, .bool false)] ⟨rfl, rfl, trivial⟩ (fun u => ?_)
  refine c_sta ⟨w0, M, (100040, g2, .cells #[.string (⟨#[]⟩ : ByteArray), .string (⟨#[]⟩ : ByteArray), .slice none 0 0] 107 (0, 0)) :: (100020, g1, .cells #[.int .i64 p0.fahead, .int .i64 p0.fnames, .int .i64 p0.fbehind] 90 (0, 0)) :: H, R, φ⟩ (fun _ h => h) <| c_ret <| d_ret_then ?_
  replace hm := Option.some.inj hm
  subst hm
  refine d_retC (none, 0) Try.results71 ?_ (Nat.le_refl 0) (fun W h => ok_pre (H1 := [_, _]) (R1 := []) h (fun W hφ => ⟨hφ, (fun W _ => Cl.nil _ _) W hφ⟩)) (.inr rfl)
  refine res_agg (tag := 100040) rfl rfl Try.isAgg107 Try.sizeOf107 <| res_tmp <| res_nil ?_
  exact rfl
 ·
  replace hm := ite_f hm (of_decide_eq_false h3)
  refine c_skip <| d_then <| c_seq <| c_region <| g_v rfl r_move <| g_v rfl (r_field (n := 0) Try.underlying90 rfl Try.sizeOf3 rfl rfl) <| g_v rfl (r_load (tag := 100020) rfl rfl rfl Try.isAgg3) ?_
  replace hm := bnd hm
  obtain ⟨s4, hs4, hm⟩ := hm
  refine g_v rfl (r_scutHi Try.underlying9 rfl rfl hs4) <| g_v rfl (r_build _ rfl (bld107_14 _)) ?_
  refine g_e rfl (e_alloc 100060 Try.zeroValue107) (fun g5 _ => ?_)
  refine g_storeL (tag := 100060) rfl rfl rfl rfl Try.sizeOf107 rfl rfl <| g_nil <| d_then ?_
  refine c_flat [(1, .string p1), (2, .pointer (some ⟨g1, 0, none⟩)), (4, .pointer (some ⟨g2, 0, none⟩)), (6, .pointer (some ⟨g5, 0, none⟩))] ⟨rfl, rfl, rfl, rfl, trivial⟩ (fun u => ?_)
  refine c_sta ⟨w0, M, (100060, g5, .cells #[.string s4, .string (⟨#[]⟩ : ByteArray), .slice none 0 0] 107 (0, 0)) :: (100040, g2, .cells #[.string (⟨#[]⟩ : ByteArray), .string (⟨#[]⟩ : ByteArray), .slice none 0 0] 107 (0, 0)) :: (100020, g1, .cells #[.int .i64 p0.fahead, .int .i64 p0.fnames, .int .i64 p0.fbehind] 90 (0, 0)) :: H, R, φ⟩ (fun _ h => h) <| c_seq <| c_region <| g_v rfl r_move <| g_v rfl (r_field (n := 0) Try.underlying90 rfl Try.sizeOf3 rfl rfl) <| g_v rfl (r_load (tag := 100020) rfl rfl rfl Try.isAgg3) ?_
  replace hm := bnd hm
  obtain ⟨s6, hs6, hm⟩ := hm
  refine g_v rfl (r_scutLo Try.underlying9 rfl rfl hs6) ?_
  refine g_e rfl (e_alloc 100070 Try.zeroValue9) (fun g7 _ => ?_)
  refine g_storeL (tag := 100070) rfl rfl rfl rfl Try.sizeOf9 rfl rfl <| g_nil <| d_then <| c_seq <| c_region <| g_v rfl (r_mkf rfl) <| g_v rfl r_assign <| g_nil <| d_then <| c_seq ?_
  refine c_seq <| c_region <| g_v rfl (r_field (n := 1) Try.underlying90 rfl Try.sizeOf3 rfl rfl) <| g_v rfl (r_load (tag := 100020) rfl rfl rfl Try.isAgg3) <| g_v rfl r_move <| g_nil <| d_then ?_
  refine c_flat [(2, .pointer (some ⟨g1, 0, none⟩)), (4, .pointer (some ⟨g2, 0, none⟩)), (6, .pointer (some ⟨g5, 0, none⟩)), (7, .pointer (some ⟨g7, 0, none⟩)), (8, .func (.func 101) #[] #[.pointer (some ⟨g7, 0, none⟩), .pointer (some ⟨g5, 0, none⟩)]), (26, .int .i64 p0.fnames), (27, .int .i64 0)] ⟨rfl, rfl, rfl, rfl, rfl, rfl, rfl, trivial⟩ (fun u => ?_)
  refine c_sta ⟨w0, M, (100070, g7, .cells #[.string s6] 9 (0, 0)) :: (100060, g5, .cells #[.string s4, .string (⟨#[]⟩ : ByteArray), .slice none 0 0] 107 (0, 0)) :: (100040, g2, .cells #[.string (⟨#[]⟩ : ByteArray), .string (⟨#[]⟩ : ByteArray), .slice none 0 0] 107 (0, 0)) :: (100020, g1, .cells #[.int .i64 p0.fahead, .int .i64 p0.fnames, .int .i64 p0.fbehind] 90 (0, 0)) :: H, R, φ⟩ (fun _ h => h) <| c_sta _ (fun W h => nilR h 13 9 1) ?_
  refine c_cut (ι := (List ByteArray) × ByteArray × ByteArray × ByteArray × Option Addr × Nat) [2, 4, 6, 7] (fun ⟨l109, s112, s113, s114, A110, c111⟩ => []) (fun ⟨l109, s112, s113, s114, A110, c111⟩ => ⟨w0, M, (100070, g7, .cells #[.string s112] 9 (0, 0)) :: (100060, g5, .cells #[.string s113, .string s114, .slice A110 l109.length c111] 107 (0, 0)) :: (100040, g2, .cells #[.string (⟨#[]⟩ : ByteArray), .string (⟨#[]⟩ : ByteArray), .slice none 0 0] 107 (0, 0)) :: (100020, g1, .cells #[.int .i64 p0.fahead, .int .i64 p0.fnames, .int .i64 p0.fbehind] 90 (0, 0)) :: H, (13, ⟨.slice A110 l109.length c111, 9, 1, l109.length, l109.flatMap (fun x : ByteArray => [Value.string x])⟩) :: R, φ⟩) (fun ⟨l109, s112, s113, s114, A110, c111⟩ => m_record_shape_cut_j1 p0 l109 s112 s113 s114 = some r ∧ l109.length ≤ c111) ?_ (fun ⟨l109, s112, s113, s114, A110, c111⟩ u ⟨hm, hc111⟩ => ?_)
  ·
   refine c_block ?_
   replace hm := bnd hm
   obtain ⟨out2, hl2, hr2⟩ := hm
   obtain ⟨n158', hl2⟩ := loop_lp hl2
   refine c_loopU (ι := Nat × (List ByteArray) × Int × ByteArray × ByteArray × ByteArray × Option Addr × Nat) [2, 4, 6, 7, 8, 26, 27] (fun ⟨n158, l134, i137, s138, s139, s140, A135, c136⟩ => [(27, .int .i64 i137)]) (fun ⟨n158, l134, i137, s138, s139, s140, A135, c136⟩ => ⟨w0, M, (100070, g7, .cells #[.string s138] 9 (0, 0)) :: (100060, g5, .cells #[.string s139, .string s140, .slice A135 l134.length c136] 107 (0, 0)) :: (100040, g2, .cells #[.string (⟨#[]⟩ : ByteArray), .string (⟨#[]⟩ : ByteArray), .slice none 0 0] 107 (0, 0)) :: (100020, g1, .cells #[.int .i64 p0.fahead, .int .i64 p0.fnames, .int .i64 p0.fbehind] 90 (0, 0)) :: H, (13, ⟨.slice A135 l134.length c136, 9, 1, l134.length, l134.flatMap (fun x : ByteArray => [Value.string x])⟩) :: R, φ⟩) (fun ⟨n158, l134, i137, s138, s139, s140, A135, c136⟩ => Lp (fun s => m_record_shape_cut_s2 p0 s.1 s.2.1 s.2.2.1 s.2.2.2.1 s.2.2.2.2) n158 (l134, i137, s138, s139, s140) out2 ∧ l134.length ≤ c136) (fun ⟨n158, l134, i137, s138, s139, s140, A135, c136⟩ => n158) (n158', ([] : List ByteArray), 0, s6, s4, (⟨#[]⟩ : ByteArray), none, 0) ⟨hl2, (Nat.le_refl 0)⟩ ⟨rfl, rfl, rfl, rfl, rfl, rfl, rfl, trivial⟩ (fun W h => h.phi (fun W hφ => hφ)) (fun ⟨n158, l134, i137, s138, s139, s140, A135, c136⟩ u ⟨hlp, hc136⟩ => ?_)
   obtain ⟨o2, hm, hnx2⟩ := lp_step hlp
   clear hlp
   replace hm : m_record_shape_cut_s2 p0 l134 i137 s138 s139 s140 = some o2 := hm
   unfold m_record_shape_cut_s2 at hm
   refine c_flat [(2, .pointer (some ⟨g1, 0, none⟩)), (4, .pointer (some ⟨g2, 0, none⟩)), (6, .pointer (some ⟨g5, 0, none⟩)), (7, .pointer (some ⟨g7, 0, none⟩)), (8, .func (.func 101) #[] #[.pointer (some ⟨g7, 0, none⟩), .pointer (some ⟨g5, 0, none⟩)]), (26, .int .i64 p0.fnames), (27, .int .i64 i137)] ⟨rfl, rfl, rfl, rfl, rfl, rfl, rfl, trivial⟩ (fun u => ?_)
   refine c_sta ⟨w0, M, (100070, g7, .cells #[.string s138] 9 (0, 0)) :: (100060, g5, .cells #[.string s139, .string s140, .slice A135 l134.length c136] 107 (0, 0)) :: (100040, g2, .cells #[.string (⟨#[]⟩ : ByteArray), .string (⟨#[]⟩ : ByteArray), .slice none 0 0] 107 (0, 0)) :: (100020, g1, .cells #[.int .i64 p0.fahead, .int .i64 p0.fnames, .int .i64 p0.fbehind] 90 (0, 0)) :: H, (13, ⟨.slice A135 l134.length c136, 9, 1, l134.length, l134.flatMap (fun x : ByteArray => [Value.string x])⟩) :: R, φ⟩ (fun _ h => h) <| c_seq <| c_region <| g_v rfl (r_lss rfl rfl) <| g_nil <| d_then <| c_seq ?_
   refine c_cond rfl (fun h159 => ?_) (fun h159 => ?_)
   ·
    replace hm := ite_t hm (of_decide_eq_true h159)
    refine c_skip <| d_then <| c_seq <| c_block <| c_seq <| c_region <| g_v rfl r_move ?_
    replace hm := bnd hm
    obtain ⟨⟨x160, x161, x162⟩, hx163, hm⟩ := hm
    refine g_cnv ⟨w0, M, (1000, g7, .cells #[.string s138] 9 (0, 0)) :: (1001, g5, .cells #[.string s139, .string s140, .slice A135 l134.length c136] 107 (0, 0)) :: (100040, g2, .cells #[.string (⟨#[]⟩ : ByteArray), .string (⟨#[]⟩ : ByteArray), .slice none 0 0] 107 (0, 0)) :: (100020, g1, .cells #[.int .i64 p0.fahead, .int .i64 p0.fnames, .int .i64 p0.fbehind] 90 (0, 0)) :: H, (1000, ⟨.slice A135 l134.length c136, 9, 1, l134.length, l134.flatMap (fun x : ByteArray => [Value.string x])⟩) :: R, φ⟩ (fun W h => (ok_front (t := 100070) (t' := 1000) (ok_front (t := 100060) (t' := 1001) (ok_frontR (t := 13) (t' := 1000) h rfl) rfl) rfl)) Try.call101 rfl rfl rfl (c_record_shape_cut_c1 g7 s138 g5 (⟨s139, s140, l134⟩ : Grecord_parts) A135 c136 hc136 _ hx163) (fun ⟨A164, c165⟩ hc165 => ?_)
    refine g_sta _ (fun W h => (ok_frontR (t := 2000) (t' := 13) (ok_front (t := 1000) (t' := 100070) (ok_front (t := 1001) (t' := 100060) h rfl) rfl) rfl)) <| g_v rfl (r_not rfl) <| g_nil <| d_then ?_
    refine c_cond rfl (fun h168 => ?_) (fun h168 => ?_)
    ·
     have h168' : x160 = false := by revert h168; cases x160 <;> simp
     replace hm := ite_f hm (bool_nt h168')
     refine c_seq <| c_region <| g_v rfl (r_build _ rfl (bld107_13)) <| g_storeL (tag := 100040) rfl rfl rfl rfl Try.sizeOf107 rfl rfl <| g_v rfl r_assign <| g_nil <| d_then <| c_ret <| d_ret_block <| d_ret_then ?_
     refine d_ret_then <| d_ret_block <| d_ret_then <| d_ret_then ?_
     replace hm := nx_out (C := (fun e => Sum.elim (fun e => m_record_shape_cut_j1 p0 e.1 e.2.1 e.2.2.1 e.2.2.2) (fun x => some x) e = some r)) hm hnx2 hr2
     replace hm : some ((⟨(⟨#[]⟩ : ByteArray), (⟨#[]⟩ : ByteArray), ([] : List ByteArray)⟩ : Grecord_parts), false) = some r := hm
     replace hm := Option.some.inj hm
     subst hm
     refine d_retC (none, 0) Try.results71 ?_ (Nat.le_refl 0) (fun W h => ok_pre (H1 := [_, _, _, _]) (R1 := [_]) h (fun W hφ => ⟨hφ, (fun W _ => Cl.nil _ _) W hφ⟩)) (.inr rfl)
     refine res_agg (tag := 100040) rfl rfl Try.isAgg107 Try.sizeOf107 <| res_tmp <| res_nil ?_
     exact rfl
    ·
     have h168' : x160 = true := by revert h168; cases x160 <;> simp
     replace hm := ite_t hm h168'
     refine c_skip <| d_normal_block <| d_then <| c_region <| g_v rfl (r_add rfl rfl rfl) <| g_v rfl r_move <| g_nil ?_
     obtain ⟨n169, hn169, hlp⟩ := nx_inl hm hnx2
     exact d_round (n169, x162.fnames, w64 (i137 + 1), x161, x162.fahead, x162.fbehind, A164, c165) ⟨hlp, hc165⟩ hn169 ⟨rfl, rfl, rfl, rfl, rfl, rfl, rfl, trivial⟩ (fun W h => h.phi (fun W hφ => hφ))
   ·
    replace hm := ite_f hm (of_decide_eq_false h159)
    refine c_exit <| d_exit_then <| d_exit_then <| d_exit_block ?_
    replace hm := nx_out (C := (fun e => Sum.elim (fun e => m_record_shape_cut_j1 p0 e.1 e.2.1 e.2.2.1 e.2.2.2) (fun x => some x) e = some r)) hm hnx2 hr2
    exact d_round (l134, s138, s139, s140, A135, c136) ⟨hm, hc136⟩ Nat.zero_lt_one ⟨rfl, rfl, rfl, rfl, trivial⟩ (fun W h => h.phi (fun W hφ => hφ))
  ·
   unfold m_record_shape_cut_j1 at hm
   refine d_flat [(2, .pointer (some ⟨g1, 0, none⟩)), (4, .pointer (some ⟨g2, 0, none⟩)), (6, .pointer (some ⟨g5, 0, none⟩)), (7, .pointer (some ⟨g7, 0, none⟩))] ⟨rfl, rfl, rfl, rfl, trivial⟩ (fun u => ?_)
   refine d_sta ⟨w0, M, (100070, g7, .cells #[.string s112] 9 (0, 0)) :: (100060, g5, .cells #[.string s113, .string s114, .slice A110 l109.length c111] 107 (0, 0)) :: (100040, g2, .cells #[.string (⟨#[]⟩ : ByteArray), .string (⟨#[]⟩ : ByteArray), .slice none 0 0] 107 (0, 0)) :: (100020, g1, .cells #[.int .i64 p0.fahead, .int .i64 p0.fnames, .int .i64 p0.fbehind] 90 (0, 0)) :: H, (13, ⟨.slice A110 l109.length c111, 9, 1, l109.length, l109.flatMap (fun x : ByteArray => [Value.string x])⟩) :: R, φ⟩ (fun _ h => h) <| d_then <| c_seq <| c_region <| g_v rfl (r_load (tag := 100070) rfl rfl rfl Try.isAgg9) <| g_v rfl (r_field (n := 1) Try.underlying107 rfl Try.sizeOf9 rfl rfl) <| g_storeL (tag := 100060) rfl rfl rfl rfl Try.sizeOf9 rfl rfl <| g_nil <| d_then <| c_seq ?_
   refine ga_start (n := 8) ⟨w0, M, (100070, g7, .cells #[.string s112] 9 (0, 0)) :: (100060, g5, .cells #[.string s113, .string s112, .slice A110 l109.length c111] 107 (0, 0)) :: (100020, g1, .cells #[.int .i64 p0.fahead, .int .i64 p0.fnames, .int .i64 p0.fbehind] 90 (0, 0)) :: H, (13, ⟨.slice A110 l109.length c111, 9, 1, l109.length, l109.flatMap (fun x : ByteArray => [Value.string x])⟩) :: R, φ⟩ [] #[false, false, false, false, false, false, false, false] (fun W h => (h.dropH (t := 100040) rfl).phi (fun W hφ => hφ)) mixed rfl rfl <| ga_v (i := 0) (bz 8 1) rfl (by kernel_rfl) (fun _ _ _ _ h => h) rfl (r_loadA (tag := 100060) rfl rfl Try.isAgg107 Try.sizeOf107 rfl rfl) <| ga_v (i := 1) (bz 8 3) rfl (by kernel_rfl) (fun _ _ _ _ h => h) rfl (r_load (tag := 100070) rfl rfl rfl Try.isAgg9) <| ga_v (i := 2) (bz 8 7) rfl (by kernel_rfl) (fun _ _ _ _ h => h) rfl (r_len Try.underlying9 rfl) <| ga_v (i := 3) (bz 8 15) rfl (by kernel_rfl) (fun _ _ _ _ h => h) rfl (r_field (n := 2) Try.underlying90 rfl Try.sizeOf3 rfl rfl) <| ga_v (i := 4) (bz 8 31) rfl (by kernel_rfl) (fun _ _ _ _ h => h) rfl (r_load (tag := 100020) rfl rfl rfl Try.isAgg3) <| ga_v (i := 5) (bz 8 63) rfl (by kernel_rfl) (fun _ _ _ _ h => h) rfl (r_eql rfl rfl) <| ga_storeN (i := 6) (tag := 100040) (bz 8 127) rfl (by kernel_rfl) (by decide) rfl rfl rfl rfl Try.sizeOf107 rfl rfl (fun W h => (h.dropH (t := 100040) rfl).phi (fun W hφ => hφ)) <| ga_r (i := 7) (bz 8 255) rfl (by kernel_rfl) (by decide) rfl (r_assign) <| ga_done (by kernel_rfl) ?_
   refine d_then ?_
   refine c_flat [(4, .pointer (some ⟨g2, 0, none⟩)), (5, .bool (decide ((s112.size : Int) = p0.fbehind)))] ⟨rfl, rfl, trivial⟩ (fun u => ?_)
   refine c_sta ⟨w0, M, (100070, g7, .cells #[.string s112] 9 (0, 0)) :: (100060, g5, .cells #[.string s113, .string s112, .slice A110 l109.length c111] 107 (0, 0)) :: (100040, g2, .cells #[.string s113, .string s112, .slice A110 l109.length c111] 107 (0, 0)) :: (100020, g1, .cells #[.int .i64 p0.fahead, .int .i64 p0.fnames, .int .i64 p0.fbehind] 90 (0, 0)) :: H, (13, ⟨.slice A110 l109.length c111, 9, 1, l109.length, l109.flatMap (fun x : ByteArray => [Value.string x])⟩) :: R, φ⟩ (fun _ h => h) <| c_ret ?_
   replace hm := Option.some.inj hm
   subst hm
   refine d_shut (tag := 13) rfl (fun φ115 q115' => ?_)
   have q115 : ∀ W, φ115 W → φ W := fun W h => (q115' W h).1
   have f116 := fun (W : World) (h : φ115 W) => (q115' W h).2
   refine d_retC (A110, c111) Try.results71 ?_ hc111 (fun W h => ok_pre (H1 := [_, _, _, _]) (R1 := []) h (fun W hφ => ⟨(q115 _ hφ), (fun W h => f116 W h) W hφ⟩)) (.inr rfl)
   refine res_agg (tag := 100040) rfl rfl Try.isAgg107 Try.sizeOf107 <| res_tmp <| res_nil ?_
   exact rfl
theorem eqq90 (a b : Grecord_shape) : ∀ d W, (Op.equalIn (d + 5) 90 (.agg #[.int .i64 a.fahead, .int .i64 a.fnames, .int .i64 a.fbehind]) (.agg #[.int .i64 b.fahead, .int .i64 b.fnames, .int .i64 b.fbehind])).run Try.prog W = .ok (decide (a = b)) W := by
  intro d W
  have h := eqs_of (d := d + 4) (xs := #[.int .i64 a.fahead, .int .i64 a.fnames, .int .i64 a.fbehind]) (ys := #[.int .i64 b.fahead, .int .i64 b.fnames, .int .i64 b.fbehind]) (w := W) Try.underlying90 (by kernel_rfl) (eqs_cons (a := .int .i64 a.fahead) (b := .int .i64 b.fahead) rfl (by kernel_rfl) (by kernel_rfl) (eqs_int Try.underlying3) (eqs_cons (a := .int .i64 a.fnames) (b := .int .i64 b.fnames) rfl (by kernel_rfl) (by kernel_rfl) (eqs_int Try.underlying3) (eqs_cons (a := .int .i64 a.fbehind) (b := .int .i64 b.fbehind) rfl (by kernel_rfl) (by kernel_rfl) (eqs_int Try.underlying3) eqs_nil)))
  refine h.trans ?_
  congr 1
  cases a; cases b
  simp only [Grecord_shape.mk.injEq, Bool.and_true]
  simp only [Bool.decide_and]
theorem eqg90 : Try.prog.eqGuardType Try.prog.depth 90 = false := by kernel_rfl
noncomputable def m_record_right_j1 (p1 : ByteArray) (i12 : Int) : Option Bool :=
  if i12 = (p1.size : Int) then
    some (!(decide (p1 = (⟨#[]⟩ : ByteArray))))
  else
    some false
noncomputable def m_record_right_s2 (p1 : ByteArray) (i17 : Int) : Option (Int ⊕ Int) :=
  if i17 < (p1.size : Int) then
    (sat_ p1 i17).bind fun b23 =>
    some (.inl (w64 (i17 + (w64 (1 + (w64 b23))))))
  else
    some (.inr i17)
noncomputable def m_record_right (p0 : Int) (p1 : ByteArray) : Option Bool :=
  if p0 = 1 then
    some (decide ((p1.size : Int) = 4))
  else
    if p0 = 28 then
      some (decide ((p1.size : Int) = 16))
    else
      if p0 = 16 then
        (loop (fun s => m_record_right_s2 p1 s) 0).bind fun e => m_record_right_j1 p1 e
      else
        (m_record_shapeOf p0).bind fun x25 =>
        (m_record_shape_cut x25 p1).bind fun (z34 : Grecord_parts × Bool) =>
        if z34.2 = true then
          some true
        else
          (m_record_shapeOf p0).bind fun x37 =>
          some (decide (x37 = (⟨0, 0, 0⟩ : Grecord_shape)))
theorem c_record_right {w0 : World} {M : Nat → Prop} {H : List (Nat × Nat × Obj)} {R : List (Nat × Row)} {φ : World → Prop} (p0 : Int) (p1 : ByteArray) (r : Bool) (hm : m_record_right p0 p1 = some r) :
    Cn Try.prog 80 #[.int .u16 p0, .string p1] ⟨w0, M, H, R, φ⟩ (fun x : Unit => .bool r) (fun x => True) (fun x => ⟨w0, M, H, R, φ⟩) := by
 unfold m_record_right at hm
 refine cn_intro (fn := Try.f80) (N := 57) Try.func80 rfl Try.ntmps80 rfl <| c_seq <| c_region <| g_v rfl r_assign <| g_nil <| d_then <| c_seq <| c_seq <| c_region <| g_v rfl r_move ?_
 refine g_nil <| d_then <| c_block <| c_seq <| c_region <| g_v rfl (r_eql rfl rfl) <| g_v rfl r_assign <| g_nil <| d_then ?_
 refine c_cond rfl (fun h1 => ?_) (fun h1 => ?_)
 ·
  replace hm := ite_t hm (of_decide_eq_true h1)
  refine c_seq <| c_region <| g_v rfl r_move <| g_v rfl (r_len Try.underlying9 rfl) <| g_v rfl (r_eql rfl rfl) <| g_v rfl r_assign <| g_nil <| d_then <| c_ret <| d_ret_block ?_
  refine d_ret_then ?_
  replace hm := Option.some.inj hm
  subst hm
  refine d_retC () Try.results80 ?_ trivial (fun W h => ok_pre (H1 := []) (R1 := []) h (fun W hφ => hφ)) (.inr rfl)
  refine res_tmp <| res_nil ?_
  exact rfl
 ·
  replace hm := ite_f hm (of_decide_eq_false h1)
  refine c_seq <| c_region <| g_v rfl (r_eql rfl rfl) <| g_v rfl r_assign <| g_nil <| d_then ?_
  refine c_cond rfl (fun h2 => ?_) (fun h2 => ?_)
  ·
   replace hm := ite_t hm (of_decide_eq_true h2)
   refine c_seq <| c_region <| g_v rfl r_move <| g_v rfl (r_len Try.underlying9 rfl) <| g_v rfl (r_eql rfl rfl) <| g_v rfl r_assign <| g_nil <| d_then ?_
   refine c_flat [(4, .bool (decide ((p1.size : Int) = 16)))] ⟨rfl, trivial⟩ (fun u => ?_)
   refine c_sta ⟨w0, M, H, R, φ⟩ (fun _ h => h) <| c_ret <| d_ret_block <| d_ret_then ?_
   replace hm := Option.some.inj hm
   subst hm
   refine d_retC () Try.results80 ?_ trivial (fun W h => ok_pre (H1 := []) (R1 := []) h (fun W hφ => hφ)) (.inr rfl)
   refine res_tmp <| res_nil ?_
   exact rfl
  ·
   replace hm := ite_f hm (of_decide_eq_false h2)
   refine c_seq <| c_region <| g_v rfl (r_eql rfl rfl) <| g_v rfl r_assign <| g_nil <| d_then ?_
   refine c_cond rfl (fun h3 => ?_) (fun h3 => ?_)
   ·
    replace hm := ite_t hm (of_decide_eq_true h3)
    refine c_seq <| c_region <| g_v rfl r_assign <| g_nil <| d_then ?_
    refine c_flat [(1, .string p1), (5, .int .i64 0)] ⟨rfl, rfl, trivial⟩ (fun u => ?_)
    refine c_sta ⟨w0, M, H, R, φ⟩ (fun _ h => h) <| c_seq ?_
    refine c_cut (ι := Int) [1, 5] (fun i12 => [(5, .int .i64 i12)]) (fun i12 => ⟨w0, M, H, R, φ⟩) (fun i12 => m_record_right_j1 p1 i12 = some r) ?_ (fun i12 u hm => ?_)
    ·
     refine c_block ?_
     replace hm := bnd hm
     obtain ⟨out2, hl2, hr2⟩ := hm
     obtain ⟨n21', hl2⟩ := loop_lp hl2
     refine c_loopU (ι := Nat × Int) [1, 5] (fun ⟨n21, i17⟩ => [(5, .int .i64 i17)]) (fun ⟨n21, i17⟩ => ⟨w0, M, H, R, φ⟩) (fun ⟨n21, i17⟩ => Lp (fun s => m_record_right_s2 p1 s) n21 i17 out2) (fun ⟨n21, i17⟩ => n21) (n21', 0) hl2 ⟨rfl, rfl, trivial⟩ (fun W h => h.phi (fun W hφ => hφ)) (fun ⟨n21, i17⟩ u hlp => ?_)
     obtain ⟨o2, hm, hnx2⟩ := lp_step hlp
     clear hlp
     replace hm : m_record_right_s2 p1 i17 = some o2 := hm
     unfold m_record_right_s2 at hm
     refine c_flat [(1, .string p1), (5, .int .i64 i17)] ⟨rfl, rfl, trivial⟩ (fun u => ?_)
     refine c_seq <| c_seq <| c_region <| g_v rfl r_move <| g_v rfl r_move <| g_v rfl (r_len Try.underlying9 rfl) <| g_v rfl (r_lss rfl rfl) <| g_nil <| d_then ?_
     refine c_cond rfl (fun h22 => ?_) (fun h22 => ?_)
     ·
      replace hm := ite_t hm (of_decide_eq_true h22)
      refine c_skip <| d_then <| c_block <| c_region <| g_v rfl r_move <| g_v rfl r_move <| g_v rfl r_move ?_
      replace hm := bnd hm
      obtain ⟨b23, hb23, hm⟩ := hm
      refine g_v rfl (r_sat Try.underlying9 rfl rfl hb23) <| g_v rfl (r_conv Try.underlying5 Try.underlying3 rfl rfl) <| g_v rfl (r_add rfl rfl rfl) <| g_v rfl (r_add rfl rfl rfl) <| g_v rfl r_assign <| g_nil <| d_normal_block ?_
      obtain ⟨n24, hn24, hlp⟩ := nx_inl hm hnx2
      exact d_round (n24, w64 (i17 + (w64 (1 + (w64 b23))))) hlp hn24 ⟨rfl, rfl, trivial⟩ (fun W h => h.phi (fun W hφ => hφ))
     ·
      replace hm := ite_f hm (of_decide_eq_false h22)
      refine c_exit <| d_exit_then <| d_exit_then <| d_exit_block ?_
      replace hm := nx_out (C := (fun e => m_record_right_j1 p1 e = some r)) hm hnx2 hr2
      exact d_round i17 hm Nat.zero_lt_one ⟨rfl, rfl, trivial⟩ (fun W h => h.phi (fun W hφ => hφ))
    ·
     unfold m_record_right_j1 at hm
     refine d_flat [(1, .string p1), (5, .int .i64 i12)] ⟨rfl, rfl, trivial⟩ (fun u => ?_)
     refine d_then <| c_seq <| c_region <| g_v rfl r_move <| g_v rfl r_move <| g_v rfl (r_len Try.underlying9 rfl) <| g_v rfl (r_eql rfl rfl) <| g_v rfl r_move ?_
     refine g_if rfl rfl rfl rfl rfl (fun h13 => ?_) (fun h13 => ?_)
     ·
      replace hm := ite_t hm (of_decide_eq_true h13)
      refine g_v rfl r_move <| g_do rfl rfl rfl rfl rfl h13 <| g_v rfl (r_neqT rfl rfl) <| g_v rfl (r_pick1 rfl h13) <| g_v rfl r_assign <| g_nil <| d_then ?_
      refine c_flat [(4, .bool (!(decide (p1 = (⟨#[]⟩ : ByteArray)))))] ⟨rfl, trivial⟩ (fun u => ?_)
      refine c_ret <| d_ret_block <| d_ret_then ?_
      replace hm := Option.some.inj hm
      subst hm
      refine d_retC () Try.results80 ?_ trivial (fun W h => ok_pre (H1 := []) (R1 := []) h (fun W hφ => hφ)) (.inr rfl)
      refine res_tmp <| res_nil ?_
      exact rfl
     ·
      replace hm := ite_f hm (of_decide_eq_false h13)
      refine g_no rfl rfl rfl rfl rfl h13 <| g_v rfl (r_pick0 rfl h13) <| g_v rfl r_assign <| g_nil <| d_then <| c_ret <| d_ret_block <| d_ret_then ?_
      replace hm := Option.some.inj hm
      subst hm
      refine d_retC () Try.results80 ?_ trivial (fun W h => ok_pre (H1 := []) (R1 := []) h (fun W hφ => hφ)) (.inr rfl)
      refine res_tmp <| res_nil ?_
      exact rfl
   ·
    replace hm := ite_f hm (of_decide_eq_false h3)
    refine c_skip <| d_normal_block <| d_then <| c_seq <| c_region <| g_v rfl r_move ?_
    replace hm := bnd hm
    obtain ⟨x25, hx26, hm⟩ := hm
    refine g_cn ⟨w0, M, _, _, φ⟩ (fun _ h => h) Try.call61 rfl rfl (c_record_shapeOf p0 _ hx26) (fun _ _ => ?_)
    refine g_v rfl (r_mkf rfl) <| g_v rfl r_assign <| g_nil <| d_then ?_
    refine c_flat [(0, .int .u16 p0), (1, .string p1), (6, .func (.func 71) #[.agg #[.int .i64 x25.fahead, .int .i64 x25.fnames, .int .i64 x25.fbehind]] #[])] ⟨rfl, rfl, rfl, trivial⟩ (fun u => ?_)
    refine c_sta ⟨w0, M, H, R, φ⟩ (fun _ h => h) <| c_seq <| c_region <| g_v rfl r_move <| g_v rfl r_move ?_
    replace hm := bnd hm
    obtain ⟨⟨x27, x28⟩, hx29, hm⟩ := hm
    refine g_cnv ⟨w0, M, _, _, φ⟩ (fun _ h => h) Try.call71 rfl rfl rfl (c_record_shape_cut x25 p1 _ hx29) (fun ⟨A30, c31⟩ hc31 => ?_)
    refine g_abs (fun φ33 q33' => ?_)
    have q33 : ∀ W, φ33 W → φ W := fun W h => (q33' W h).1
    have f32 := fun (W : World) (h : φ33 W) => (q33' W h).2
    refine g_v rfl r_move <| g_v rfl (r_extract rfl rfl) <| g_v rfl (r_extract rfl rfl) ?_
    refine g_e rfl (e_alloc 100070 Try.zeroValue107) (fun g35 _ => ?_)
    refine g_storeL (tag := 100070) rfl rfl rfl rfl Try.sizeOf107 rfl rfl <| g_v rfl r_assign <| g_nil <| d_then ?_
    refine c_flat [(0, .int .u16 p0), (8, .bool x28)] ⟨rfl, rfl, trivial⟩ (fun u => ?_)
    refine c_sta ⟨w0, M, (100070, g35, .cells #[.string x27.fahead, .string x27.fbehind, .slice A30 x27.fnames.length c31] 107 (0, 0)) :: H, R, φ33⟩ (fun _ h => h) <| c_seq <| c_region <| g_v rfl r_move <| g_v rfl r_move ?_
    refine g_if rfl rfl rfl rfl rfl (fun h36 => ?_) (fun h36 => ?_)
    ·
     replace hm := ite_f hm (bool_nt h36)
     refine g_v rfl r_move <| g_do rfl rfl rfl rfl rfl h36 ?_
     replace hm := bnd hm
     obtain ⟨x37, hx38, hm⟩ := hm
     refine g_cn ⟨w0, M, _, _, φ33⟩ (fun _ h => h) Try.call61 rfl rfl (c_record_shapeOf p0 _ hx38) (fun _ _ => ?_)
     refine g_do rfl rfl rfl rfl rfl h36 <| g_v rfl (r_build _ rfl (bld90_12)) <| g_do rfl rfl rfl rfl rfl h36 <| g_v rfl (r_eqlA rfl rfl eqg90 (eqq90 x37 (⟨0, 0, 0⟩ : Grecord_shape))) <| g_v rfl (r_pick0 rfl h36) <| g_v rfl r_assign <| g_nil <| d_then <| c_ret ?_
     replace hm := Option.some.inj hm
     subst hm
     refine d_retC () Try.results80 ?_ trivial (fun W h => ok_pre (H1 := [_]) (R1 := []) h (fun W hφ => (q33 _ hφ))) (.inr rfl)
     refine res_tmp <| res_nil ?_
     exact rfl
    ·
     replace hm := ite_t hm h36
     refine g_no rfl rfl rfl rfl rfl h36 <| g_no rfl rfl rfl rfl rfl h36 <| g_no rfl rfl rfl rfl rfl h36 <| g_v rfl (r_pick1 rfl h36) <| g_v rfl r_assign <| g_nil <| d_then <| c_ret ?_
     replace hm := Option.some.inj hm
     subst hm
     refine d_retC () Try.results80 ?_ trivial (fun W h => ok_pre (H1 := [_]) (R1 := []) h (fun W hφ => (q33 _ hφ))) (.inr rfl)
     refine res_tmp <| res_nil ?_
     exact rfl
noncomputable def m_record_Check (p0 : GRR) : Option Int :=
  (m_name_Check p0.fName).bind fun x2 =>
  if x2 ≠ 0 then
    some x2
  else
    if 2000 < (p0.fData.size : Int) then
      some 11
    else
      (m_record_right p0.fType p0.fData).bind fun x6 =>
      if x6 = true then
        some 0
      else
        some 10
theorem c_record_Check {w0 : World} {M : Nat → Prop} {H : List (Nat × Nat × Obj)} {R : List (Nat × Row)} {φ : World → Prop} (p0 : GRR) (r : Int) (hm : m_record_Check p0 = some r) :
    Cn Try.prog 31 #[.agg #[.string p0.fName, .int .u16 p0.fType, .int .u16 p0.fClass, .int .u32 p0.fTTL, .string p0.fData]] ⟨w0, M, H, R, φ⟩ (fun x : Unit => .int .i64 r) (fun x => True) (fun x => ⟨w0, M, H, R, φ⟩) := by
 unfold m_record_Check at hm
 refine cn_intro (fn := Try.f31) (N := 23) Try.func31 rfl Try.ntmps31 rfl <| c_seq <| c_region ?_
 refine g_e rfl (e_box 100010 rfl) (fun g1 _ => ?_)
 refine g_v rfl r_assign <| g_nil <| d_then <| c_seq <| c_region <| g_v rfl (r_field (n := 0) Try.underlying27 rfl Try.sizeOf9 rfl rfl) <| g_v rfl (r_load (tag := 100010) rfl rfl rfl Try.isAgg9) ?_
 replace hm := bnd hm
 obtain ⟨x2, hx3, hm⟩ := hm
 refine g_cn ⟨w0, M, _, _, φ⟩ (fun _ h => h) Try.call79 rfl rfl (c_name_Check p0.fName _ hx3) (fun _ _ => ?_)
 refine g_v rfl r_assign <| g_nil <| d_then <| c_seq <| c_block <| c_seq <| c_region <| g_v rfl r_move <| g_v rfl (r_neq rfl rfl) <| g_v rfl r_assign ?_
 refine g_nil <| d_then ?_
 refine c_flat [(1, .pointer (some ⟨g1, 0, none⟩)), (3, .int .i64 x2), (7, .bool (decide (x2 ≠ 0)))] ⟨rfl, rfl, rfl, trivial⟩ (fun u => ?_)
 refine c_sta ⟨w0, M, (100010, g1, .cells #[.string p0.fName, .int .u16 p0.fType, .int .u16 p0.fClass, .int .u32 p0.fTTL, .string p0.fData] 27 (0, 0)) :: H, R, φ⟩ (fun _ h => h) ?_
 refine c_cond rfl (fun h4 => ?_) (fun h4 => ?_)
 ·
  replace hm := ite_t hm (of_decide_eq_true h4)
  refine c_seq <| c_region <| g_v rfl r_move <| g_v rfl r_assign <| g_nil <| d_then <| c_ret <| d_ret_block <| d_ret_then ?_
  replace hm := Option.some.inj hm
  subst hm
  refine d_retC () Try.results31 ?_ trivial (fun W h => ok_pre (H1 := [_]) (R1 := []) h (fun W hφ => hφ)) (.inr rfl)
  refine res_tmp <| res_nil ?_
  exact rfl
 ·
  replace hm := ite_f hm (of_decide_eq_false h4)
  refine c_seq <| c_region <| g_v rfl (r_field (n := 4) Try.underlying27 rfl Try.sizeOf9 rfl rfl) <| g_v rfl (r_load (tag := 100010) rfl rfl rfl Try.isAgg9) <| g_v rfl (r_len Try.underlying9 rfl) <| g_v rfl (r_gtr rfl rfl) <| g_v rfl r_assign <| g_nil <| d_then ?_
  refine c_cond rfl (fun h5 => ?_) (fun h5 => ?_)
  ·
   replace hm := ite_t hm (of_decide_eq_true h5)
   refine c_seq <| c_region <| g_v rfl r_assign <| g_nil <| d_then <| c_ret <| d_ret_block <| d_ret_then ?_
   replace hm := Option.some.inj hm
   subst hm
   refine d_retC () Try.results31 ?_ trivial (fun W h => ok_pre (H1 := [_]) (R1 := []) h (fun W hφ => hφ)) (.inr rfl)
   refine res_tmp <| res_nil ?_
   exact rfl
  ·
   replace hm := ite_f hm (of_decide_eq_false h5)
   refine c_seq <| c_region <| g_v rfl (r_field (n := 1) Try.underlying27 rfl Try.sizeOf24 rfl rfl) <| g_v rfl (r_load (tag := 100010) rfl rfl rfl Try.isAgg24) <| g_v rfl (r_field (n := 4) Try.underlying27 rfl Try.sizeOf9 rfl rfl) <| g_v rfl (r_load (tag := 100010) rfl rfl rfl Try.isAgg9) ?_
   replace hm := bnd hm
   obtain ⟨x6, hx7, hm⟩ := hm
   refine g_cn ⟨w0, M, _, _, φ⟩ (fun _ h => h) Try.call80 rfl rfl (c_record_right p0.fType p0.fData _ hx7) (fun _ _ => ?_)
   refine g_v rfl (r_not rfl) <| g_v rfl r_assign <| g_nil <| d_then ?_
   refine c_flat [(16, .bool (!x6))] ⟨rfl, trivial⟩ (fun u => ?_)
   refine c_cond rfl (fun h8 => ?_) (fun h8 => ?_)
   ·
    have h8' : x6 = false := by revert h8; cases x6 <;> simp
    replace hm := ite_f hm (bool_nt h8')
    refine c_seq <| c_region <| g_v rfl r_assign <| g_nil <| d_then <| c_ret <| d_ret_block <| d_ret_then ?_
    replace hm := Option.some.inj hm
    subst hm
    refine d_retC () Try.results31 ?_ trivial (fun W h => ok_pre (H1 := [_]) (R1 := []) h (fun W hφ => hφ)) (.inr rfl)
    refine res_tmp <| res_nil ?_
    exact rfl
   ·
    have h8' : x6 = true := by revert h8; cases x6 <;> simp
    replace hm := ite_t hm h8'
    refine c_skip <| d_normal_block <| d_then <| c_seq <| c_region <| g_v rfl r_assign <| g_nil <| d_then <| c_ret ?_
    replace hm := Option.some.inj hm
    subst hm
    refine d_retC () Try.results31 ?_ trivial (fun W h => ok_pre (H1 := [_]) (R1 := []) h (fun W hφ => hφ)) (.inr rfl)
    refine res_tmp <| res_nil ?_
    exact rfl
theorem lit5_15 (z0 : Int) (z1 : Int) (z2 : Int) (z3 : Int) : Try.prog.builtSlice 5 4 [(0, .int .u8 z0), (1, .int .u8 z1), (2, .int .u8 z2), (3, .int .u8 z3)] = some #[.int .u8 z0, .int .u8 z1, .int .u8 z2, .int .u8 z3] := by kernel_rfl
noncomputable def m_pack_Packer_Long (p1 : Int) (o0 : Gpack_Packer) : Option Gpack_Packer :=
  (m_pack_Packer_put [IntKind.u8.wrap (p1 / 16777216), IntKind.u8.wrap (p1 / 65536), IntKind.u8.wrap (p1 / 256), IntKind.u8.wrap p1] o0).bind fun x2 =>
  some x2
theorem c_pack_Packer_Long {w0 : World} {M : Nat → Prop} {H : List (Nat × Nat × Obj)} {R : List (Nat × Row)} {φ : World → Prop} (p1 : Int) (go0 : Nat) (o0 : Gpack_Packer) (Ao0_0 : Option Addr) (co0_0 : Nat) (hco0_0 : o0.fb.length ≤ co0_0) (Ao0_1 : Option Addr) (co0_1 : Nat) (hco0_1 : True) (r : Gpack_Packer) (hm : m_pack_Packer_Long p1 o0 = some r) :
    Cn Try.prog 70 #[.pointer (some ⟨go0, 0, none⟩), .int .u32 p1] ⟨w0, M, (1000, go0, .cells #[.slice Ao0_0 o0.fb.length co0_0, mapV Ao0_1] 100 (0, 0)) :: H, (1000, ⟨.slice Ao0_0 o0.fb.length co0_0, 5, 1, o0.fb.length, o0.fb.flatMap (fun x : Int => [Value.int .u8 x])⟩) :: (1001, ⟨mapV Ao0_1, 98, 2, o0.fplaces.length, o0.fplaces.flatMap (mcell (fun x : ByteArray => Value.string x) (fun x : Int => Value.int .i64 x))⟩) :: R, φ⟩ (fun x : Option Addr × Nat × Option Addr × Nat => .tuple #[]) (fun x => r.fb.length ≤ x.2.1 ∧ True) (fun x => ⟨w0, M, (1000, go0, .cells #[.slice x.1 r.fb.length x.2.1, mapV x.2.2.1] 100 (0, 0)) :: H, (2000, ⟨.slice x.1 r.fb.length x.2.1, 5, 1, r.fb.length, r.fb.flatMap (fun x : Int => [Value.int .u8 x])⟩) :: (2001, ⟨mapV x.2.2.1, 98, 2, r.fplaces.length, r.fplaces.flatMap (mcell (fun x : ByteArray => Value.string x) (fun x : Int => Value.int .i64 x))⟩) :: R, φ⟩) := by
 unfold m_pack_Packer_Long at hm
 refine cn_intro (fn := Try.f70) (N := 18) Try.func70 rfl Try.ntmps70 rfl <| c_region <| g_v rfl r_move <| g_v rfl r_move <| g_v rfl (r_shr (n := 16777216) rfl rfl (by decide) (by decide) (by decide)) <| g_v rfl (r_conv Try.underlying25 Try.underlying5 rfl rfl) <| g_v rfl r_move <| g_v rfl (r_shr (n := 65536) rfl rfl (by decide) (by decide) (by decide)) <| g_v rfl (r_conv Try.underlying25 Try.underlying5 rfl rfl) <| g_v rfl r_move ?_
 refine g_v rfl (r_shr (n := 256) rfl rfl (by decide) (by decide) (by decide)) <| g_v rfl (r_conv Try.underlying25 Try.underlying5 rfl rfl) <| g_v rfl r_move <| g_v rfl (r_conv Try.underlying25 Try.underlying5 rfl rfl) ?_
 refine g_e rfl (e_lit (tag := 100160) (l := [IntKind.u8.wrap (p1 / 16777216), IntKind.u8.wrap (p1 / 65536), IntKind.u8.wrap (p1 / 256), IntKind.u8.wrap p1]) (enc := (fun x : Int => [Value.int .u8 x])) (sz := 1) rfl Try.underlying77 (lit5_15 _ _ _ _) rfl rfl (fun _ => rfl)) (fun g1 _ => ?_)
 replace hm := bnd hm
 obtain ⟨x2, hx3, hm⟩ := hm
 refine g_cn ⟨w0, M, (1000, go0, .cells #[.slice Ao0_0 o0.fb.length co0_0, mapV Ao0_1] 100 (0, 0)) :: H, (1000, ⟨.slice Ao0_0 o0.fb.length co0_0, 5, 1, o0.fb.length, o0.fb.flatMap (fun x : Int => [Value.int .u8 x])⟩) :: (1001, ⟨mapV Ao0_1, 98, 2, o0.fplaces.length, o0.fplaces.flatMap (mcell (fun x : ByteArray => Value.string x) (fun x : Int => Value.int .i64 x))⟩) :: (100160, ⟨.slice (some ⟨g1, 0, none⟩) [IntKind.u8.wrap (p1 / 16777216), IntKind.u8.wrap (p1 / 65536), IntKind.u8.wrap (p1 / 256), IntKind.u8.wrap p1].length 4, 5, 1, [IntKind.u8.wrap (p1 / 16777216), IntKind.u8.wrap (p1 / 65536), IntKind.u8.wrap (p1 / 256), IntKind.u8.wrap p1].length, [IntKind.u8.wrap (p1 / 16777216), IntKind.u8.wrap (p1 / 65536), IntKind.u8.wrap (p1 / 256), IntKind.u8.wrap p1].flatMap (fun x : Int => [Value.int .u8 x])⟩) :: R, φ⟩ (fun W h => (ok_front (t := 1000) (t' := 1000) (ok_frontR (t := 1000) (t' := 1000) (ok_frontR (t := 1001) (t' := 1001) h rfl) rfl) rfl)) Try.call67 rfl rfl (c_pack_Packer_put [IntKind.u8.wrap (p1 / 16777216), IntKind.u8.wrap (p1 / 65536), IntKind.u8.wrap (p1 / 256), IntKind.u8.wrap p1] (some ⟨g1, 0, none⟩) 4 (Nat.le_refl _) (fun W hS => rowCl (tag := 100160) rfl W hS) go0 o0 Ao0_0 co0_0 hco0_0 Ao0_1 co0_1 trivial _ hx3) (fun ⟨A4, c5, A7, c8⟩ ⟨hc5, hc8⟩ => ?_)
 refine g_sta _ (fun W h => (ok_frontR (t := 2000) (t' := 1000) (ok_frontR (t := 2001) (t' := 1001) (ok_front (t := 1000) (t' := 1000) h rfl) rfl) rfl)) <| g_nil ?_
 replace hm := Option.some.inj hm
 subst hm
 refine d_sta _ (fun W h => ok_frontR (t := 1001) (t' := 2001) h rfl) <| d_sta _ (fun W h => ok_frontR (t := 1000) (t' := 2000) h rfl) ?_
 refine d_retC (A4, c5, A7, c8) Try.results70 ?_ ⟨hc5, hc8⟩ (fun W h => (h.dropR (t := 100160) rfl).phi (fun W hφ => hφ)) (.inl rfl)
 refine res_nil ?_
 exact rfl
noncomputable def m_pack_Packer_Len (o0 : Gpack_Packer) : Option Int :=
  some (o0.fb.length : Int)
theorem c_pack_Packer_Len {w0 : World} {M : Nat → Prop} {H : List (Nat × Nat × Obj)} {R : List (Nat × Row)} {φ : World → Prop} (go0 : Nat) (o0 : Gpack_Packer) (Ao0_0 : Option Addr) (co0_0 : Nat) (hco0_0 : o0.fb.length ≤ co0_0) (Ao0_1 : Option Addr) (co0_1 : Nat) (hco0_1 : True) (r : Int) (hm : m_pack_Packer_Len o0 = some r) :
    Cn Try.prog 25 #[.pointer (some ⟨go0, 0, none⟩)] ⟨w0, M, (1000, go0, .cells #[.slice Ao0_0 o0.fb.length co0_0, mapV Ao0_1] 100 (0, 0)) :: H, (1000, ⟨.slice Ao0_0 o0.fb.length co0_0, 5, 1, o0.fb.length, o0.fb.flatMap (fun x : Int => [Value.int .u8 x])⟩) :: (1001, ⟨mapV Ao0_1, 98, 2, o0.fplaces.length, o0.fplaces.flatMap (mcell (fun x : ByteArray => Value.string x) (fun x : Int => Value.int .i64 x))⟩) :: R, φ⟩ (fun x : Unit => .int .i64 r) (fun x => True) (fun x => ⟨w0, M, (1000, go0, .cells #[.slice Ao0_0 o0.fb.length co0_0, mapV Ao0_1] 100 (0, 0)) :: H, (1000, ⟨.slice Ao0_0 o0.fb.length co0_0, 5, 1, o0.fb.length, o0.fb.flatMap (fun x : Int => [Value.int .u8 x])⟩) :: (1001, ⟨mapV Ao0_1, 98, 2, o0.fplaces.length, o0.fplaces.flatMap (mcell (fun x : ByteArray => Value.string x) (fun x : Int => Value.int .i64 x))⟩) :: R, φ⟩) := by
 unfold m_pack_Packer_Len at hm
 refine cn_intro (fn := Try.f25) (N := 10) Try.func25 rfl Try.ntmps25 rfl <| c_seq <| c_region <| g_v rfl r_assign <| g_nil <| d_then <| c_seq <| c_seq <| c_region <| g_v rfl r_move ?_
 refine g_v rfl (r_eqlP1 Try.underlying33 rfl rfl) <| g_nil <| d_then <| c_cond0 rfl rfl <| c_skip <| d_then <| c_seq <| c_region <| g_v rfl r_move <| g_v rfl (r_nilck rfl) ?_
 refine g_v rfl (r_field (n := 0) Try.underlying100 rfl Try.sizeOf77 rfl rfl) <| g_v rfl (r_load (tag := 1000) rfl rfl rfl Try.isAgg77) <| g_v rfl (r_lenL Try.underlying77 rfl) <| g_v rfl r_assign <| g_nil <| d_then ?_
 refine c_flat [(2, .int .i64 (o0.fb.length : Int))] ⟨rfl, trivial⟩ (fun u => ?_)
 refine c_sta ⟨w0, M, (1000, go0, .cells #[.slice Ao0_0 o0.fb.length co0_0, mapV Ao0_1] 100 (0, 0)) :: H, (1000, ⟨.slice Ao0_0 o0.fb.length co0_0, 5, 1, o0.fb.length, o0.fb.flatMap (fun x : Int => [Value.int .u8 x])⟩) :: (1001, ⟨mapV Ao0_1, 98, 2, o0.fplaces.length, o0.fplaces.flatMap (mcell (fun x : ByteArray => Value.string x) (fun x : Int => Value.int .i64 x))⟩) :: R, φ⟩ (fun _ h => h) <| c_ret ?_
 replace hm := Option.some.inj hm
 subst hm
 refine d_retC () Try.results25 ?_ trivial (fun W h => h.phi (fun W hφ => hφ)) (.inr rfl)
 refine res_tmp <| res_nil ?_
 exact rfl
noncomputable def m_pack_Packer_Patch (p1 : Int) (p2 : Int) (o0 : Gpack_Packer) : Option (Int × Gpack_Packer) :=
  if p1 < 0 then
    some (1, o0)
  else
    if w64 ((o0.fb.length : Int) - 2) < p1 then
      some (1, o0)
    else
      (at_ o0.fb p1).bind fun x23 =>
      (setAt o0.fb p1 (IntKind.u8.wrap (p2 / 256))).bind fun l27 =>
      (at_ l27 (w64 (p1 + 1))).bind fun x28 =>
      (setAt l27 (w64 (p1 + 1)) (IntKind.u8.wrap p2)).bind fun l32 =>
      some (0, (⟨l32, o0.fplaces⟩ : Gpack_Packer))
theorem c_pack_Packer_Patch {w0 : World} {M : Nat → Prop} {H : List (Nat × Nat × Obj)} {R : List (Nat × Row)} {φ : World → Prop} (p1 : Int) (p2 : Int) (go0 : Nat) (o0 : Gpack_Packer) (Ao0_0 : Option Addr) (co0_0 : Nat) (hco0_0 : o0.fb.length ≤ co0_0) (Ao0_1 : Option Addr) (co0_1 : Nat) (hco0_1 : True) (r : Int × Gpack_Packer) (hm : m_pack_Packer_Patch p1 p2 o0 = some r) :
    Cn Try.prog 72 #[.pointer (some ⟨go0, 0, none⟩), .int .i64 p1, .int .u16 p2] ⟨w0, M, (1000, go0, .cells #[.slice Ao0_0 o0.fb.length co0_0, mapV Ao0_1] 100 (0, 0)) :: H, (1000, ⟨.slice Ao0_0 o0.fb.length co0_0, 5, 1, o0.fb.length, o0.fb.flatMap (fun x : Int => [Value.int .u8 x])⟩) :: (1001, ⟨mapV Ao0_1, 98, 2, o0.fplaces.length, o0.fplaces.flatMap (mcell (fun x : ByteArray => Value.string x) (fun x : Int => Value.int .i64 x))⟩) :: R, φ⟩ (fun x : Option Addr × Nat × Option Addr × Nat => .int .i64 r.1) (fun x => r.2.fb.length ≤ x.2.1 ∧ True) (fun x => ⟨w0, M, (1000, go0, .cells #[.slice x.1 r.2.fb.length x.2.1, mapV x.2.2.1] 100 (0, 0)) :: H, (2000, ⟨.slice x.1 r.2.fb.length x.2.1, 5, 1, r.2.fb.length, r.2.fb.flatMap (fun x : Int => [Value.int .u8 x])⟩) :: (2001, ⟨mapV x.2.2.1, 98, 2, r.2.fplaces.length, r.2.fplaces.flatMap (mcell (fun x : ByteArray => Value.string x) (fun x : Int => Value.int .i64 x))⟩) :: R, φ⟩) := by
 unfold m_pack_Packer_Patch at hm
 refine cn_intro (fn := Try.f72) (N := 41) Try.func72 rfl Try.ntmps72 rfl <| c_seq <| c_region <| g_v rfl r_assign <| g_nil <| d_then <| c_seq <| c_seq <| c_region <| g_v rfl r_move ?_
 refine g_v rfl (r_eqlP1 Try.underlying33 rfl rfl) <| g_v rfl r_move <| g_do rfl rfl rfl rfl rfl rfl <| g_v rfl r_move <| g_do rfl rfl rfl rfl rfl rfl <| g_v rfl (r_lss rfl rfl) <| g_v rfl (r_pick0 rfl rfl) <| g_v rfl r_move ?_
 refine g_if rfl rfl rfl rfl rfl (fun h1 => ?_) (fun h1 => ?_)
 ·
  replace hm := ite_f hm (of_decide_eq_false h1)
  refine g_v rfl r_move <| g_do rfl rfl rfl rfl rfl h1 <| g_v rfl r_move <| g_do rfl rfl rfl rfl rfl h1 <| g_v rfl (r_nilck rfl) <| g_do rfl rfl rfl rfl rfl h1 <| g_v rfl (r_field (n := 0) Try.underlying100 rfl Try.sizeOf77 rfl rfl) <| g_do rfl rfl rfl rfl rfl h1 <| g_v rfl (r_load (tag := 1000) rfl rfl rfl Try.isAgg77) <| g_do rfl rfl rfl rfl rfl h1 ?_
  refine g_v rfl (r_lenL Try.underlying77 rfl) <| g_do rfl rfl rfl rfl rfl h1 <| g_v rfl (r_sub rfl rfl rfl) <| g_do rfl rfl rfl rfl rfl h1 <| g_v rfl (r_gtr rfl rfl) <| g_v rfl (r_pick0 rfl h1) <| g_nil <| d_then ?_
  refine c_flat [(0, .pointer (some ⟨go0, 0, none⟩)), (1, .int .i64 p1), (2, .int .u16 p2), (22, .bool (decide (w64 ((o0.fb.length : Int) - 2) < p1)))] ⟨rfl, rfl, rfl, rfl, trivial⟩ (fun u => ?_)
  refine c_sta ⟨w0, M, (1000, go0, .cells #[.slice Ao0_0 o0.fb.length co0_0, mapV Ao0_1] 100 (0, 0)) :: H, (1000, ⟨.slice Ao0_0 o0.fb.length co0_0, 5, 1, o0.fb.length, o0.fb.flatMap (fun x : Int => [Value.int .u8 x])⟩) :: (1001, ⟨mapV Ao0_1, 98, 2, o0.fplaces.length, o0.fplaces.flatMap (mcell (fun x : ByteArray => Value.string x) (fun x : Int => Value.int .i64 x))⟩) :: R, φ⟩ (fun _ h => h) ?_
  refine c_cond rfl (fun h2 => ?_) (fun h2 => ?_)
  ·
   replace hm := ite_t hm (of_decide_eq_true h2)
   refine c_seq <| c_region <| g_v rfl r_assign <| g_nil <| d_then <| c_ret <| d_ret_then ?_
   replace hm := Option.some.inj hm
   subst hm
   refine d_sta _ (fun W h => ok_frontR (t := 1001) (t' := 2001) h rfl) <| d_sta _ (fun W h => ok_frontR (t := 1000) (t' := 2000) h rfl) ?_
   refine d_retC (Ao0_0, co0_0, Ao0_1, co0_1) Try.results72 ?_ ⟨hco0_0, hco0_1⟩ (fun W h => h.phi (fun W hφ => hφ)) (.inr rfl)
   refine res_tmp <| res_nil ?_
   exact rfl
  ·
   replace hm := ite_f hm (of_decide_eq_false h2)
   refine c_skip <| d_then <| c_seq <| ga_start (n := 20) ⟨w0, M, (1000, go0, .cells #[.slice Ao0_0 o0.fb.length co0_0, mapV Ao0_1] 100 (0, 0)) :: H, (1001, ⟨mapV Ao0_1, 98, 2, o0.fplaces.length, o0.fplaces.flatMap (mcell (fun x : ByteArray => Value.string x) (fun x : Int => Value.int .i64 x))⟩) :: R, φ⟩ [] #[false, false, false, false, false, false, false, false, false, false, false, false, false, false, false, false, false, false, false, false] (fun W h => (h.dropR (t := 1000) rfl).phi (fun W hφ => hφ)) mixed rfl rfl <| ga_v (i := 0) (bz 20 1) rfl (by kernel_rfl) (fun _ _ _ _ h => h) rfl (r_move) <| ga_v (i := 1) (bz 20 3) rfl (by kernel_rfl) (fun _ _ _ _ h => h) rfl (r_nilck rfl) <| ga_v (i := 2) (bz 20 7) rfl (by kernel_rfl) (fun _ _ _ _ h => h) rfl (r_field (n := 0) Try.underlying100 rfl Try.sizeOf77 rfl rfl) <| ga_v (i := 3) (bz 20 15) rfl (by kernel_rfl) (fun _ _ _ _ h => h) rfl (r_load (tag := 1000) rfl rfl rfl Try.isAgg77) <| ga_v (i := 4) (bz 20 31) rfl (by kernel_rfl) (fun _ _ _ _ h => h) rfl (r_move) <| ga_v (i := 5) (bz 20 63) rfl (by kernel_rfl) (fun _ _ _ _ h => h) rfl (r_move) ?_
   refine ga_v (i := 6) (bz 20 127) rfl (by kernel_rfl) (fun _ _ _ _ h => h) rfl (r_nilck rfl) <| ga_v (i := 7) (bz 20 255) rfl (by kernel_rfl) (fun _ _ _ _ h => h) rfl (r_field (n := 0) Try.underlying100 rfl Try.sizeOf77 rfl rfl) <| ga_v (i := 8) (bz 20 511) rfl (by kernel_rfl) (fun _ _ _ _ h => h) rfl (r_load (tag := 1000) rfl rfl rfl Try.isAgg77) <| ga_v (i := 9) (bz 20 1023) rfl (by kernel_rfl) (fun _ _ _ _ h => h) rfl (r_move) <| ga_v (i := 10) (bz 20 2047) rfl (by kernel_rfl) (fun _ _ _ _ h => h) rfl (r_add rfl rfl rfl) <| ga_v (i := 11) (bz 20 4095) rfl (by kernel_rfl) (fun _ _ _ _ h => h) rfl (r_move) <| ga_v (i := 12) (bz 20 8191) rfl (by kernel_rfl) (fun _ _ _ _ h => h) rfl (r_shr (n := 256) rfl rfl (by decide) (by decide) (by decide)) <| ga_v (i := 13) (bz 20 16383) rfl (by kernel_rfl) (fun _ _ _ _ h => h) rfl (r_conv Try.underlying24 Try.underlying5 rfl rfl) <| ga_v (i := 14) (bz 20 32767) rfl (by kernel_rfl) (fun _ _ _ _ h => h) rfl (r_move) <| ga_v (i := 15) (bz 20 65535) rfl (by kernel_rfl) (fun _ _ _ _ h => h) rfl (r_conv Try.underlying24 Try.underlying5 rfl rfl) ?_
   replace hm := bnd hm
   obtain ⟨x23, hx23, hm⟩ := hm
   refine ga_know _ (fun W hS => cl_at (p := (Sta.ok ⟨w0, M, (1000, go0, .cells #[.slice Ao0_0 o0.fb.length co0_0, mapV Ao0_1] 100 (0, 0)) :: H, (1000, ⟨.slice Ao0_0 o0.fb.length co0_0, 5, 1, o0.fb.length, o0.fb.flatMap (fun x : Int => [Value.int .u8 x])⟩) :: (1001, ⟨mapV Ao0_1, 98, 2, o0.fplaces.length, o0.fplaces.flatMap (mcell (fun x : ByteArray => Value.string x) (fun x : Int => Value.int .i64 x))⟩) :: R, φ⟩)) (sz := 1) (fun _ => rfl) (by decide) hS (fun W hS => rowCl (S := ⟨w0, M, (1000, go0, .cells #[.slice Ao0_0 o0.fb.length co0_0, mapV Ao0_1] 100 (0, 0)) :: H, (1000, ⟨.slice Ao0_0 o0.fb.length co0_0, 5, 1, o0.fb.length, o0.fb.flatMap (fun x : Int => [Value.int .u8 x])⟩) :: (1001, ⟨mapV Ao0_1, 98, 2, o0.fplaces.length, o0.fplaces.flatMap (mcell (fun x : ByteArray => Value.string x) (fun x : Int => Value.int .i64 x))⟩) :: R, φ⟩) (tag := 1000) rfl W hS) hx23) ?_
   rintro ⟨ad24, hA26, f25⟩
   refine ga_r (i := 16) (bz 20 131071) rfl (by kernel_rfl) (by decide) rfl (r_ix Try.underlying77 Try.sizeOf5 rfl hA26 rfl hx23) ?_
   replace hm := bnd hm
   obtain ⟨l27, hl27, hm⟩ := hm
   refine ga_s (i := 17) (bz 20 262143) rfl (by kernel_rfl) (by decide) (e_stR (tag := 1000) (enc := (fun x : Int => [Value.int .u8 x])) (l := o0.fb) (off := 0) (vs := [.int .u8 (IntKind.u8.wrap (p2 / 256))]) (add0 rfl) hA26 rfl rfl hx23 hl27 rfl (Nat.le_of_ble_eq_true rfl) (fun _ => rfl) rfl rfl Try.sizeOf5) (fun W h => (h.dropR (t := 1000) rfl).phi (fun W hφ => hφ)) ?_
   rw [show o0.fb.length = l27.length from (setAt_lenE hl27).symm]
   replace hm := bnd hm
   obtain ⟨x28, hx28, hm⟩ := hm
   refine ga_know _ (fun W hS => cl_at (p := (Sta.ok ⟨w0, M, (1000, go0, .cells #[.slice Ao0_0 l27.length co0_0, mapV Ao0_1] 100 (0, 0)) :: H, (1000, ⟨.slice Ao0_0 l27.length co0_0, 5, 1, l27.length, l27.flatMap (fun x : Int => [Value.int .u8 x])⟩) :: (1001, ⟨mapV Ao0_1, 98, 2, o0.fplaces.length, o0.fplaces.flatMap (mcell (fun x : ByteArray => Value.string x) (fun x : Int => Value.int .i64 x))⟩) :: R, φ⟩)) (sz := 1) (fun _ => rfl) (by decide) hS (fun W hS => rowCl (S := ⟨w0, M, (1000, go0, .cells #[.slice Ao0_0 l27.length co0_0, mapV Ao0_1] 100 (0, 0)) :: H, (1000, ⟨.slice Ao0_0 l27.length co0_0, 5, 1, l27.length, l27.flatMap (fun x : Int => [Value.int .u8 x])⟩) :: (1001, ⟨mapV Ao0_1, 98, 2, o0.fplaces.length, o0.fplaces.flatMap (mcell (fun x : ByteArray => Value.string x) (fun x : Int => Value.int .i64 x))⟩) :: R, φ⟩) (tag := 1000) rfl W hS) hx28) ?_
   rintro ⟨ad29, hA31, f30⟩
   refine ga_r (i := 18) (bz 20 524287) rfl (by kernel_rfl) (by decide) rfl (r_ix Try.underlying77 Try.sizeOf5 rfl hA31 rfl hx28) ?_
   replace hm := bnd hm
   obtain ⟨l32, hl32, hm⟩ := hm
   refine ga_s (i := 19) (bz 20 1048575) rfl (by kernel_rfl) (by decide) (e_stR (tag := 1000) (enc := (fun x : Int => [Value.int .u8 x])) (l := l27) (off := 0) (vs := [.int .u8 (IntKind.u8.wrap p2)]) (add0 rfl) hA31 rfl rfl hx28 hl32 rfl (Nat.le_of_ble_eq_true rfl) (fun _ => rfl) rfl rfl Try.sizeOf5) (fun W h => (h.dropR (t := 1000) rfl).phi (fun W hφ => hφ)) ?_
   rw [show l27.length = l32.length from (setAt_lenE hl32).symm]
   refine ga_done (by kernel_rfl) <| d_then ?_
   refine c_flat [] trivial (fun u => ?_)
   refine c_sta ⟨w0, M, (1000, go0, .cells #[.slice Ao0_0 l32.length co0_0, mapV Ao0_1] 100 (0, 0)) :: H, (1000, ⟨.slice Ao0_0 l32.length co0_0, 5, 1, l32.length, l32.flatMap (fun x : Int => [Value.int .u8 x])⟩) :: (1001, ⟨mapV Ao0_1, 98, 2, o0.fplaces.length, o0.fplaces.flatMap (mcell (fun x : ByteArray => Value.string x) (fun x : Int => Value.int .i64 x))⟩) :: R, φ⟩ (fun _ h => h) <| c_seq <| c_region <| g_v rfl r_assign <| g_nil <| d_then <| c_ret ?_
   replace hm := Option.some.inj hm
   subst hm
   refine d_sta _ (fun W h => ok_frontR (t := 1001) (t' := 2001) h rfl) <| d_sta _ (fun W h => ok_frontR (t := 1000) (t' := 2000) h rfl) ?_
   refine d_retC (Ao0_0, co0_0, Ao0_1, co0_1) Try.results72 ?_ ⟨(setAt_len (setAt_len hco0_0 hl27) hl32), hco0_1⟩ (fun W h => h.phi (fun W hφ => hφ)) (.inr rfl)
   refine res_tmp <| res_nil ?_
   exact rfl
 ·
  replace hm := ite_t hm (of_decide_eq_true h1)
  refine g_no rfl rfl rfl rfl rfl h1 <| g_no rfl rfl rfl rfl rfl h1 <| g_no rfl rfl rfl rfl rfl h1 <| g_no rfl rfl rfl rfl rfl h1 <| g_no rfl rfl rfl rfl rfl h1 <| g_no rfl rfl rfl rfl rfl h1 <| g_no rfl rfl rfl rfl rfl h1 <| g_v rfl (r_pick1 rfl h1) <| g_nil <| d_then ?_
  refine c_flat [(0, .pointer (some ⟨go0, 0, none⟩)), (1, .int .i64 p1), (2, .int .u16 p2), (22, .bool true)] ⟨rfl, rfl, rfl, rfl, trivial⟩ (fun u => ?_)
  refine c_sta ⟨w0, M, (1000, go0, .cells #[.slice Ao0_0 o0.fb.length co0_0, mapV Ao0_1] 100 (0, 0)) :: H, (1000, ⟨.slice Ao0_0 o0.fb.length co0_0, 5, 1, o0.fb.length, o0.fb.flatMap (fun x : Int => [Value.int .u8 x])⟩) :: (1001, ⟨mapV Ao0_1, 98, 2, o0.fplaces.length, o0.fplaces.flatMap (mcell (fun x : ByteArray => Value.string x) (fun x : Int => Value.int .i64 x))⟩) :: R, φ⟩ (fun _ h => h) <| c_cond1 rfl rfl <| c_seq <| c_region <| g_v rfl r_assign <| g_nil <| d_then <| c_ret <| d_ret_then ?_
  replace hm := Option.some.inj hm
  subst hm
  refine d_sta _ (fun W h => ok_frontR (t := 1001) (t' := 2001) h rfl) <| d_sta _ (fun W h => ok_frontR (t := 1000) (t' := 2000) h rfl) ?_
  refine d_retC (Ao0_0, co0_0, Ao0_1, co0_1) Try.results72 ?_ ⟨hco0_0, hco0_1⟩ (fun W h => h.phi (fun W hφ => hφ)) (.inr rfl)
  refine res_tmp <| res_nil ?_
  exact rfl
noncomputable def m_record_Put_j1 (x39 : Int) (l144 : List Int) (l147 : List (ByteArray × Int)) : Option (Int × Gpack_Packer) :=
  (m_pack_Packer_Len (⟨l144, l147⟩ : Gpack_Packer)).bind fun x150 =>
  (m_pack_Packer_Patch x39 (IntKind.u16.wrap (w64 ((w64 (x150 - x39)) - 2))) (⟨l144, l147⟩ : Gpack_Packer)).bind fun (z161 : Int × Gpack_Packer) =>
  some (z161.1, z161.2)
noncomputable def m_record_Put_j2 (x163 : Grecord_parts) (x39 : Int) (l232 : List Int) (l235 : List (ByteArray × Int)) : Option (Int × Gpack_Packer) :=
  (m_pack_Packer_Raw x163.fbehind (⟨l232, l235⟩ : Gpack_Packer)).bind fun x238 =>
  m_record_Put_j1 x39 x238.fb x238.fplaces
noncomputable def m_record_Put_s3 (x163 : Grecord_parts) (l268 : List Int) (l271 : List (ByteArray × Int)) (i274 : Int) : Option (((List Int) × (List (ByteArray × Int)) × Int) ⊕ ((List Int) × (List (ByteArray × Int)))) :=
  if i274 < (x163.fnames.length : Int) then
    (at_ x163.fnames i274).bind fun x299 =>
    (m_pack_Packer_Name x299 true (⟨l268, l271⟩ : Gpack_Packer)).bind fun (z312 : Int × Gpack_Packer) =>
    some (.inl (z312.2.fb, z312.2.fplaces, w64 (i274 + 1)))
  else
    some (.inr (l268, l271))
noncomputable def m_record_Put (p1 : GRR) (o0 : Gpack_Packer) : Option (Int × Gpack_Packer) :=
  (m_record_Check p1).bind fun x2 =>
  if x2 ≠ 0 then
    some (x2, o0)
  else
    (m_pack_Packer_Name p1.fName true o0).bind fun (z14 : Int × Gpack_Packer) =>
    (m_pack_Packer_Word p1.fType z14.2).bind fun x15 =>
    (m_pack_Packer_Word p1.fClass x15).bind fun x23 =>
    (m_pack_Packer_Long p1.fTTL x23).bind fun x31 =>
    (m_pack_Packer_Len x31).bind fun x39 =>
    (m_pack_Packer_Word 0 x31).bind fun x41 =>
    (m_record_shapeOf p1.fType).bind fun x49 =>
    if 0 < x49.fnames then
      (m_record_shape_cut x49 p1.fData).bind fun (z170 : Grecord_parts × Bool) =>
      (m_pack_Packer_Raw z170.1.fahead x41).bind fun x172 =>
      (loop (fun s => m_record_Put_s3 z170.1 s.1 s.2.1 s.2.2) (x172.fb, x172.fplaces, 0)).bind fun e => m_record_Put_j2 z170.1 x39 e.1 e.2
    else
      (m_pack_Packer_Raw p1.fData x41).bind fun x314 =>
      m_record_Put_j1 x39 x314.fb x314.fplaces
theorem c_record_Put {w0 : World} {M : Nat → Prop} {H : List (Nat × Nat × Obj)} {R : List (Nat × Row)} {φ : World → Prop} (p1 : GRR) (go0 : Nat) (o0 : Gpack_Packer) (Ao0_0 : Option Addr) (co0_0 : Nat) (hco0_0 : o0.fb.length ≤ co0_0) (Ao0_1 : Option Addr) (co0_1 : Nat) (hco0_1 : True) (r : Int × Gpack_Packer) (hm : m_record_Put p1 o0 = some r) :
    Cn Try.prog 23 #[.pointer (some ⟨go0, 0, none⟩), .agg #[.string p1.fName, .int .u16 p1.fType, .int .u16 p1.fClass, .int .u32 p1.fTTL, .string p1.fData]] ⟨w0, M, (1000, go0, .cells #[.slice Ao0_0 o0.fb.length co0_0, mapV Ao0_1] 100 (0, 0)) :: H, (1000, ⟨.slice Ao0_0 o0.fb.length co0_0, 5, 1, o0.fb.length, o0.fb.flatMap (fun x : Int => [Value.int .u8 x])⟩) :: (1001, ⟨mapV Ao0_1, 98, 2, o0.fplaces.length, o0.fplaces.flatMap (mcell (fun x : ByteArray => Value.string x) (fun x : Int => Value.int .i64 x))⟩) :: R, φ⟩ (fun x : Option Addr × Nat × Option Addr × Nat => .int .i64 r.1) (fun x => r.2.fb.length ≤ x.2.1 ∧ True) (fun x => ⟨w0, M, (1000, go0, .cells #[.slice x.1 r.2.fb.length x.2.1, mapV x.2.2.1] 100 (0, 0)) :: H, (2000, ⟨.slice x.1 r.2.fb.length x.2.1, 5, 1, r.2.fb.length, r.2.fb.flatMap (fun x : Int => [Value.int .u8 x])⟩) :: (2001, ⟨mapV x.2.2.1, 98, 2, r.2.fplaces.length, r.2.fplaces.flatMap (mcell (fun x : ByteArray => Value.string x) (fun x : Int => Value.int .i64 x))⟩) :: R, φ⟩) := by
 unfold m_record_Put at hm
 refine cn_intro (fn := Try.f23) (N := 84) Try.func23 rfl Try.ntmps23 rfl <| c_seq <| c_region ?_
 refine g_e rfl (e_box 100030 rfl) (fun g1 _ => ?_)
 refine g_v rfl r_assign <| g_nil <| d_then <| c_seq <| c_seq <| c_region <| g_v rfl r_move <| g_v rfl (r_eqlP1 Try.underlying33 rfl rfl) <| g_nil <| d_then ?_
 refine c_cond0 rfl rfl <| c_skip <| d_then <| c_seq <| c_region <| g_v rfl (r_loadA (tag := 100030) rfl rfl Try.isAgg27 Try.sizeOf27 rfl rfl) ?_
 replace hm := bnd hm
 obtain ⟨x2, hx3, hm⟩ := hm
 refine g_cn ⟨w0, M, _, _, φ⟩ (fun _ h => h) Try.call31 rfl rfl (c_record_Check p1 _ hx3) (fun _ _ => ?_)
 refine g_v rfl r_assign <| g_nil <| d_then <| c_seq <| c_seq <| c_region <| g_v rfl r_move <| g_v rfl (r_neq rfl rfl) <| g_nil <| d_then ?_
 refine c_flat [(0, .pointer (some ⟨go0, 0, none⟩)), (3, .pointer (some ⟨g1, 0, none⟩)), (5, .int .i64 x2), (17, .bool (decide (x2 ≠ 0)))] ⟨rfl, rfl, rfl, rfl, trivial⟩ (fun u => ?_)
 refine c_sta ⟨w0, M, (100030, g1, .cells #[.string p1.fName, .int .u16 p1.fType, .int .u16 p1.fClass, .int .u32 p1.fTTL, .string p1.fData] 27 (0, 0)) :: (1000, go0, .cells #[.slice Ao0_0 o0.fb.length co0_0, mapV Ao0_1] 100 (0, 0)) :: H, (1000, ⟨.slice Ao0_0 o0.fb.length co0_0, 5, 1, o0.fb.length, o0.fb.flatMap (fun x : Int => [Value.int .u8 x])⟩) :: (1001, ⟨mapV Ao0_1, 98, 2, o0.fplaces.length, o0.fplaces.flatMap (mcell (fun x : ByteArray => Value.string x) (fun x : Int => Value.int .i64 x))⟩) :: R, φ⟩ (fun _ h => h) ?_
 refine c_cond rfl (fun h4 => ?_) (fun h4 => ?_)
 ·
  replace hm := ite_t hm (of_decide_eq_true h4)
  refine c_seq <| c_region <| g_v rfl r_move <| g_v rfl r_assign <| g_nil <| d_then <| c_ret <| d_ret_then ?_
  replace hm := Option.some.inj hm
  subst hm
  refine d_sta _ (fun W h => ok_frontR (t := 1001) (t' := 2001) h rfl) <| d_sta _ (fun W h => ok_frontR (t := 1000) (t' := 2000) h rfl) ?_
  refine d_retC (Ao0_0, co0_0, Ao0_1, co0_1) Try.results23 ?_ ⟨hco0_0, hco0_1⟩ (fun W h => (h.dropH (t := 100030) rfl).phi (fun W hφ => hφ)) (.inr rfl)
  refine res_tmp <| res_nil ?_
  exact rfl
 ·
  replace hm := ite_f hm (of_decide_eq_false h4)
  refine c_skip <| d_then <| c_seq <| c_region <| g_v rfl r_move <| g_v rfl (r_field (n := 0) Try.underlying27 rfl Try.sizeOf9 rfl rfl) <| g_v rfl (r_load (tag := 100030) rfl rfl rfl Try.isAgg9) ?_
  replace hm := bnd hm
  obtain ⟨⟨x5, x6⟩, hx7, hm⟩ := hm
  refine g_cn ⟨w0, M, (1000, go0, .cells #[.slice Ao0_0 o0.fb.length co0_0, mapV Ao0_1] 100 (0, 0)) :: (100030, g1, .cells #[.string p1.fName, .int .u16 p1.fType, .int .u16 p1.fClass, .int .u32 p1.fTTL, .string p1.fData] 27 (0, 0)) :: H, (1000, ⟨.slice Ao0_0 o0.fb.length co0_0, 5, 1, o0.fb.length, o0.fb.flatMap (fun x : Int => [Value.int .u8 x])⟩) :: (1001, ⟨mapV Ao0_1, 98, 2, o0.fplaces.length, o0.fplaces.flatMap (mcell (fun x : ByteArray => Value.string x) (fun x : Int => Value.int .i64 x))⟩) :: R, φ⟩ (fun W h => (ok_front (t := 1000) (t' := 1000) (ok_frontR (t := 1000) (t' := 1000) (ok_frontR (t := 1001) (t' := 1001) h rfl) rfl) rfl)) Try.call68 rfl rfl (c_pack_Packer_Name p1.fName true go0 o0 Ao0_0 co0_0 hco0_0 Ao0_1 co0_1 trivial _ hx7) (fun ⟨A8, c9, A11, c12⟩ ⟨hc9, hc12⟩ => ?_)
  refine g_sta _ (fun W h => (ok_frontR (t := 2000) (t' := 1000) (ok_frontR (t := 2001) (t' := 1001) (ok_front (t := 1000) (t' := 1000) h rfl) rfl) rfl)) <| g_nil <| d_then <| c_seq <| c_region <| g_v rfl r_move <| g_v rfl (r_field (n := 1) Try.underlying27 rfl Try.sizeOf24 rfl rfl) <| g_v rfl (r_load (tag := 100030) rfl rfl rfl Try.isAgg24) ?_
  replace hm := bnd hm
  obtain ⟨x15, hx16, hm⟩ := hm
  refine g_cn ⟨w0, M, (1000, go0, .cells #[.slice A8 x6.fb.length c9, mapV A11] 100 (0, 0)) :: (100030, g1, .cells #[.string p1.fName, .int .u16 p1.fType, .int .u16 p1.fClass, .int .u32 p1.fTTL, .string p1.fData] 27 (0, 0)) :: H, (1000, ⟨.slice A8 x6.fb.length c9, 5, 1, x6.fb.length, x6.fb.flatMap (fun x : Int => [Value.int .u8 x])⟩) :: (1001, ⟨mapV A11, 98, 2, x6.fplaces.length, x6.fplaces.flatMap (mcell (fun x : ByteArray => Value.string x) (fun x : Int => Value.int .i64 x))⟩) :: R, φ⟩ (fun W h => (ok_front (t := 1000) (t' := 1000) (ok_frontR (t := 1000) (t' := 1000) (ok_frontR (t := 1001) (t' := 1001) h rfl) rfl) rfl)) Try.call69 rfl rfl (c_pack_Packer_Word p1.fType go0 x6 A8 c9 hc9 A11 c12 trivial _ hx16) (fun ⟨A17, c18, A20, c21⟩ ⟨hc18, hc21⟩ => ?_)
  refine g_sta _ (fun W h => (ok_frontR (t := 2000) (t' := 1000) (ok_frontR (t := 2001) (t' := 1001) (ok_front (t := 1000) (t' := 1000) h rfl) rfl) rfl)) <| g_nil <| d_then <| c_seq <| c_region <| g_v rfl r_move <| g_v rfl (r_field (n := 2) Try.underlying27 rfl Try.sizeOf24 rfl rfl) <| g_v rfl (r_load (tag := 100030) rfl rfl rfl Try.isAgg24) ?_
  replace hm := bnd hm
  obtain ⟨x23, hx24, hm⟩ := hm
  refine g_cn ⟨w0, M, (1000, go0, .cells #[.slice A17 x15.fb.length c18, mapV A20] 100 (0, 0)) :: (100030, g1, .cells #[.string p1.fName, .int .u16 p1.fType, .int .u16 p1.fClass, .int .u32 p1.fTTL, .string p1.fData] 27 (0, 0)) :: H, (1000, ⟨.slice A17 x15.fb.length c18, 5, 1, x15.fb.length, x15.fb.flatMap (fun x : Int => [Value.int .u8 x])⟩) :: (1001, ⟨mapV A20, 98, 2, x15.fplaces.length, x15.fplaces.flatMap (mcell (fun x : ByteArray => Value.string x) (fun x : Int => Value.int .i64 x))⟩) :: R, φ⟩ (fun W h => (ok_front (t := 1000) (t' := 1000) (ok_frontR (t := 1000) (t' := 1000) (ok_frontR (t := 1001) (t' := 1001) h rfl) rfl) rfl)) Try.call69 rfl rfl (c_pack_Packer_Word p1.fClass go0 x15 A17 c18 hc18 A20 c21 trivial _ hx24) (fun ⟨A25, c26, A28, c29⟩ ⟨hc26, hc29⟩ => ?_)
  refine g_sta _ (fun W h => (ok_frontR (t := 2000) (t' := 1000) (ok_frontR (t := 2001) (t' := 1001) (ok_front (t := 1000) (t' := 1000) h rfl) rfl) rfl)) <| g_nil <| d_then ?_
  refine c_flat [(0, .pointer (some ⟨go0, 0, none⟩)), (3, .pointer (some ⟨g1, 0, none⟩))] ⟨rfl, rfl, trivial⟩ (fun u => ?_)
  refine c_sta ⟨w0, M, (1000, go0, .cells #[.slice A25 x23.fb.length c26, mapV A28] 100 (0, 0)) :: (100030, g1, .cells #[.string p1.fName, .int .u16 p1.fType, .int .u16 p1.fClass, .int .u32 p1.fTTL, .string p1.fData] 27 (0, 0)) :: H, (1000, ⟨.slice A25 x23.fb.length c26, 5, 1, x23.fb.length, x23.fb.flatMap (fun x : Int => [Value.int .u8 x])⟩) :: (1001, ⟨mapV A28, 98, 2, x23.fplaces.length, x23.fplaces.flatMap (mcell (fun x : ByteArray => Value.string x) (fun x : Int => Value.int .i64 x))⟩) :: R, φ⟩ (fun _ h => h) <| c_seq <| c_region <| g_v rfl r_move <| g_v rfl (r_field (n := 3) Try.underlying27 rfl Try.sizeOf25 rfl rfl) <| g_v rfl (r_load (tag := 100030) rfl rfl rfl Try.isAgg25) ?_
  replace hm := bnd hm
  obtain ⟨x31, hx32, hm⟩ := hm
  refine g_cn ⟨w0, M, (1000, go0, .cells #[.slice A25 x23.fb.length c26, mapV A28] 100 (0, 0)) :: (100030, g1, .cells #[.string p1.fName, .int .u16 p1.fType, .int .u16 p1.fClass, .int .u32 p1.fTTL, .string p1.fData] 27 (0, 0)) :: H, (1000, ⟨.slice A25 x23.fb.length c26, 5, 1, x23.fb.length, x23.fb.flatMap (fun x : Int => [Value.int .u8 x])⟩) :: (1001, ⟨mapV A28, 98, 2, x23.fplaces.length, x23.fplaces.flatMap (mcell (fun x : ByteArray => Value.string x) (fun x : Int => Value.int .i64 x))⟩) :: R, φ⟩ (fun W h => (ok_front (t := 1000) (t' := 1000) (ok_frontR (t := 1000) (t' := 1000) (ok_frontR (t := 1001) (t' := 1001) h rfl) rfl) rfl)) Try.call70 rfl rfl (c_pack_Packer_Long p1.fTTL go0 x23 A25 c26 hc26 A28 c29 trivial _ hx32) (fun ⟨A33, c34, A36, c37⟩ ⟨hc34, hc37⟩ => ?_)
  refine g_sta _ (fun W h => (ok_frontR (t := 2000) (t' := 1000) (ok_frontR (t := 2001) (t' := 1001) (ok_front (t := 1000) (t' := 1000) h rfl) rfl) rfl)) <| g_nil <| d_then <| c_seq <| c_region <| g_v rfl r_move ?_
  replace hm := bnd hm
  obtain ⟨x39, hx40, hm⟩ := hm
  refine g_cn ⟨w0, M, (1000, go0, .cells #[.slice A33 x31.fb.length c34, mapV A36] 100 (0, 0)) :: (100030, g1, .cells #[.string p1.fName, .int .u16 p1.fType, .int .u16 p1.fClass, .int .u32 p1.fTTL, .string p1.fData] 27 (0, 0)) :: H, (1000, ⟨.slice A33 x31.fb.length c34, 5, 1, x31.fb.length, x31.fb.flatMap (fun x : Int => [Value.int .u8 x])⟩) :: (1001, ⟨mapV A36, 98, 2, x31.fplaces.length, x31.fplaces.flatMap (mcell (fun x : ByteArray => Value.string x) (fun x : Int => Value.int .i64 x))⟩) :: R, φ⟩ (fun W h => (ok_front (t := 1000) (t' := 1000) (ok_frontR (t := 1000) (t' := 1000) (ok_frontR (t := 1001) (t' := 1001) h rfl) rfl) rfl)) Try.call25 rfl rfl (c_pack_Packer_Len go0 x31 A33 c34 hc34 A36 c37 trivial _ hx40) (fun _ _ => ?_)
  refine g_sta _ (fun W h => (ok_frontR (t := 1000) (t' := 1000) (ok_frontR (t := 1001) (t' := 1001) (ok_front (t := 1000) (t' := 1000) h rfl) rfl) rfl)) <| g_v rfl r_assign <| g_nil <| d_then <| c_seq <| c_region <| g_v rfl r_move ?_
  replace hm := bnd hm
  obtain ⟨x41, hx42, hm⟩ := hm
  refine g_cn ⟨w0, M, (1000, go0, .cells #[.slice A33 x31.fb.length c34, mapV A36] 100 (0, 0)) :: (100030, g1, .cells #[.string p1.fName, .int .u16 p1.fType, .int .u16 p1.fClass, .int .u32 p1.fTTL, .string p1.fData] 27 (0, 0)) :: H, (1000, ⟨.slice A33 x31.fb.length c34, 5, 1, x31.fb.length, x31.fb.flatMap (fun x : Int => [Value.int .u8 x])⟩) :: (1001, ⟨mapV A36, 98, 2, x31.fplaces.length, x31.fplaces.flatMap (mcell (fun x : ByteArray => Value.string x) (fun x : Int => Value.int .i64 x))⟩) :: R, φ⟩ (fun W h => (ok_front (t := 1000) (t' := 1000) (ok_frontR (t := 1000) (t' := 1000) (ok_frontR (t := 1001) (t' := 1001) h rfl) rfl) rfl)) Try.call69 rfl rfl (c_pack_Packer_Word 0 go0 x31 A33 c34 hc34 A36 c37 trivial _ hx42) (fun ⟨A43, c44, A46, c47⟩ ⟨hc44, hc47⟩ => ?_)
  refine g_sta _ (fun W h => (ok_frontR (t := 2000) (t' := 1000) (ok_frontR (t := 2001) (t' := 1001) (ok_front (t := 1000) (t' := 1000) h rfl) rfl) rfl)) <| g_nil <| d_then ?_
  refine c_flat [(0, .pointer (some ⟨go0, 0, none⟩)), (3, .pointer (some ⟨g1, 0, none⟩)), (6, .int .i64 x39)] ⟨rfl, rfl, rfl, trivial⟩ (fun u => ?_)
  refine c_sta ⟨w0, M, (1000, go0, .cells #[.slice A43 x41.fb.length c44, mapV A46] 100 (0, 0)) :: (100030, g1, .cells #[.string p1.fName, .int .u16 p1.fType, .int .u16 p1.fClass, .int .u32 p1.fTTL, .string p1.fData] 27 (0, 0)) :: H, (1000, ⟨.slice A43 x41.fb.length c44, 5, 1, x41.fb.length, x41.fb.flatMap (fun x : Int => [Value.int .u8 x])⟩) :: (1001, ⟨mapV A46, 98, 2, x41.fplaces.length, x41.fplaces.flatMap (mcell (fun x : ByteArray => Value.string x) (fun x : Int => Value.int .i64 x))⟩) :: R, φ⟩ (fun _ h => h) <| c_seq <| c_region <| g_v rfl (r_field (n := 1) Try.underlying27 rfl Try.sizeOf24 rfl rfl) <| g_v rfl (r_load (tag := 100030) rfl rfl rfl Try.isAgg24) ?_
  replace hm := bnd hm
  obtain ⟨x49, hx50, hm⟩ := hm
  refine g_cn ⟨w0, M, _, _, φ⟩ (fun _ h => h) Try.call61 rfl rfl (c_record_shapeOf p1.fType _ hx50) (fun _ _ => ?_)
  refine g_e rfl (e_alloc 100070 Try.zeroValue90) (fun g51 _ => ?_)
  refine g_storeL (tag := 100070) rfl rfl rfl rfl Try.sizeOf90 rfl rfl <| g_nil <| d_then <| c_seq ?_
  refine c_cut (ι := (List Int) × (List (ByteArray × Int)) × Option Addr × Nat × Option Addr × Nat) [0, 6] (fun ⟨l144, l147, A145, c146, A148, c149⟩ => []) (fun ⟨l144, l147, A145, c146, A148, c149⟩ => ⟨w0, M, (1000, go0, .cells #[.slice A145 l144.length c146, mapV A148] 100 (0, 0)) :: H, (1000, ⟨.slice A145 l144.length c146, 5, 1, l144.length, l144.flatMap (fun x : Int => [Value.int .u8 x])⟩) :: (1001, ⟨mapV A148, 98, 2, l147.length, l147.flatMap (mcell (fun x : ByteArray => Value.string x) (fun x : Int => Value.int .i64 x))⟩) :: R, φ⟩) (fun ⟨l144, l147, A145, c146, A148, c149⟩ => m_record_Put_j1 x39 l144 l147 = some r ∧ l144.length ≤ c146 ∧ True) ?_ (fun ⟨l144, l147, A145, c146, A148, c149⟩ u ⟨hm, hc146, hc149⟩ => ?_)
  ·
   refine c_seq <| c_region <| g_v rfl (r_field (n := 1) Try.underlying90 rfl Try.sizeOf3 rfl rfl) <| g_v rfl (r_load (tag := 100070) rfl rfl rfl Try.isAgg3) <| g_v rfl (r_gtr rfl rfl) <| g_nil <| d_then ?_
   refine c_cond rfl (fun h162 => ?_) (fun h162 => ?_)
   ·
    replace hm := ite_t hm (of_decide_eq_true h162)
    refine c_seq <| c_region <| g_v rfl (r_loadA (tag := 100070) rfl rfl Try.isAgg90 Try.sizeOf90 rfl rfl) <| g_v rfl (r_field (n := 4) Try.underlying27 rfl Try.sizeOf9 rfl rfl) <| g_v rfl (r_load (tag := 100030) rfl rfl rfl Try.isAgg9) ?_
    replace hm := bnd hm
    obtain ⟨⟨x163, x164⟩, hx165, hm⟩ := hm
    refine g_cn ⟨w0, M, _, _, φ⟩ (fun _ h => h) Try.call71 rfl rfl (c_record_shape_cut x49 p1.fData _ hx165) (fun ⟨A166, c167⟩ hc167 => ?_)
    refine g_abs (fun φ169 q169' => ?_)
    have q169 : ∀ W, φ169 W → φ W := fun W h => (q169' W h).1
    have f168 := fun (W : World) (h : φ169 W) => (q169' W h).2
    refine g_v rfl r_move <| g_v rfl (r_extract rfl rfl) <| g_v rfl (r_extract rfl rfl) ?_
    refine g_e rfl (e_alloc 100080 Try.zeroValue107) (fun g171 _ => ?_)
    refine g_storeL (tag := 100080) rfl rfl rfl rfl Try.sizeOf107 rfl rfl <| g_v rfl r_assign <| g_nil <| d_then ?_
    refine c_flat [(0, .pointer (some ⟨go0, 0, none⟩)), (6, .int .i64 x39), (8, .pointer (some ⟨g171, 0, none⟩))] ⟨rfl, rfl, rfl, trivial⟩ (fun u => ?_)
    refine c_sta ⟨w0, M, (100080, g171, .cells #[.string x163.fahead, .string x163.fbehind, .slice A166 x163.fnames.length c167] 107 (0, 0)) :: (100070, g51, .cells #[.int .i64 x49.fahead, .int .i64 x49.fnames, .int .i64 x49.fbehind] 90 (0, 0)) :: (1000, go0, .cells #[.slice A43 x41.fb.length c44, mapV A46] 100 (0, 0)) :: (100030, g1, .cells #[.string p1.fName, .int .u16 p1.fType, .int .u16 p1.fClass, .int .u32 p1.fTTL, .string p1.fData] 27 (0, 0)) :: H, (1000, ⟨.slice A43 x41.fb.length c44, 5, 1, x41.fb.length, x41.fb.flatMap (fun x : Int => [Value.int .u8 x])⟩) :: (1001, ⟨mapV A46, 98, 2, x41.fplaces.length, x41.fplaces.flatMap (mcell (fun x : ByteArray => Value.string x) (fun x : Int => Value.int .i64 x))⟩) :: R, φ169⟩ (fun _ h => h) <| c_seq <| c_region <| g_v rfl r_move <| g_v rfl (r_field (n := 0) Try.underlying107 rfl Try.sizeOf9 rfl rfl) <| g_v rfl (r_load (tag := 100080) rfl rfl rfl Try.isAgg9) ?_
    replace hm := bnd hm
    obtain ⟨x172, hx173, hm⟩ := hm
    refine g_cn ⟨w0, M, (1000, go0, .cells #[.slice A43 x41.fb.length c44, mapV A46] 100 (0, 0)) :: (100080, g171, .cells #[.string x163.fahead, .string x163.fbehind, .slice A166 x163.fnames.length c167] 107 (0, 0)) :: (100070, g51, .cells #[.int .i64 x49.fahead, .int .i64 x49.fnames, .int .i64 x49.fbehind] 90 (0, 0)) :: (100030, g1, .cells #[.string p1.fName, .int .u16 p1.fType, .int .u16 p1.fClass, .int .u32 p1.fTTL, .string p1.fData] 27 (0, 0)) :: H, (1000, ⟨.slice A43 x41.fb.length c44, 5, 1, x41.fb.length, x41.fb.flatMap (fun x : Int => [Value.int .u8 x])⟩) :: (1001, ⟨mapV A46, 98, 2, x41.fplaces.length, x41.fplaces.flatMap (mcell (fun x : ByteArray => Value.string x) (fun x : Int => Value.int .i64 x))⟩) :: R, φ169⟩ (fun W h => (ok_front (t := 1000) (t' := 1000) (ok_frontR (t := 1000) (t' := 1000) (ok_frontR (t := 1001) (t' := 1001) h rfl) rfl) rfl)) Try.call21 rfl rfl (c_pack_Packer_Raw x163.fahead go0 x41 A43 c44 hc44 A46 c47 trivial _ hx173) (fun ⟨A174, c175, A177, c178⟩ ⟨hc175, hc178⟩ => ?_)
    refine g_sta _ (fun W h => (ok_frontR (t := 2000) (t' := 1000) (ok_frontR (t := 2001) (t' := 1001) (ok_front (t := 1000) (t' := 1000) h rfl) rfl) rfl)) <| g_nil <| d_then <| c_seq <| c_seq <| c_region <| g_v rfl (r_field (n := 2) Try.underlying107 rfl Try.sizeOf105 rfl rfl) <| g_v rfl (r_load (tag := 100080) rfl rfl rfl Try.isAgg105) <| g_v rfl (r_lenL Try.underlying105 rfl) <| g_v rfl r_move ?_
    refine g_nil <| d_then ?_
    refine c_cut (ι := (List Int) × (List (ByteArray × Int)) × Option Addr × Nat × Option Addr × Nat) [0, 6, 8] (fun ⟨l232, l235, A233, c234, A236, c237⟩ => []) (fun ⟨l232, l235, A233, c234, A236, c237⟩ => ⟨w0, M, (1000, go0, .cells #[.slice A233 l232.length c234, mapV A236] 100 (0, 0)) :: (100080, g171, .cells #[.string x163.fahead, .string x163.fbehind, .slice A166 x163.fnames.length c167] 107 (0, 0)) :: H, (1000, ⟨.slice A233 l232.length c234, 5, 1, l232.length, l232.flatMap (fun x : Int => [Value.int .u8 x])⟩) :: (1001, ⟨mapV A236, 98, 2, l235.length, l235.flatMap (mcell (fun x : ByteArray => Value.string x) (fun x : Int => Value.int .i64 x))⟩) :: R, φ169⟩) (fun ⟨l232, l235, A233, c234, A236, c237⟩ => m_record_Put_j2 x163 x39 l232 l235 = some r ∧ l232.length ≤ c234 ∧ True) ?_ (fun ⟨l232, l235, A233, c234, A236, c237⟩ u ⟨hm, hc234, hc237⟩ => ?_)
    ·
     refine c_block ?_
     replace hm := bnd hm
     obtain ⟨out3, hl3, hr3⟩ := hm
     obtain ⟨n297', hl3⟩ := loop_lp hl3
     refine c_loopU (ι := Nat × (List Int) × (List (ByteArray × Int)) × Int × Option Addr × Nat × Option Addr × Nat) [0, 6, 8, 57, 58, 59] (fun ⟨n297, l268, l271, i274, A269, c270, A272, c273⟩ => [(59, .int .i64 i274)]) (fun ⟨n297, l268, l271, i274, A269, c270, A272, c273⟩ => ⟨w0, M, (1000, go0, .cells #[.slice A269 l268.length c270, mapV A272] 100 (0, 0)) :: (100080, g171, .cells #[.string x163.fahead, .string x163.fbehind, .slice A166 x163.fnames.length c167] 107 (0, 0)) :: H, (1000, ⟨.slice A269 l268.length c270, 5, 1, l268.length, l268.flatMap (fun x : Int => [Value.int .u8 x])⟩) :: (1001, ⟨mapV A272, 98, 2, l271.length, l271.flatMap (mcell (fun x : ByteArray => Value.string x) (fun x : Int => Value.int .i64 x))⟩) :: R, φ169⟩) (fun ⟨n297, l268, l271, i274, A269, c270, A272, c273⟩ => Lp (fun s => m_record_Put_s3 x163 s.1 s.2.1 s.2.2) n297 (l268, l271, i274) out3 ∧ l268.length ≤ c270 ∧ True) (fun ⟨n297, l268, l271, i274, A269, c270, A272, c273⟩ => n297) (n297', x172.fb, x172.fplaces, 0, A174, c175, A177, c178) ⟨hl3, hc175, trivial⟩ ⟨rfl, rfl, rfl, rfl, rfl, rfl, trivial⟩ (fun W h => ((h.dropH (t := 100070) rfl).dropH (t := 100030) rfl).phi (fun W hφ => hφ)) (fun ⟨n297, l268, l271, i274, A269, c270, A272, c273⟩ u ⟨hlp, hc270, hc273⟩ => ?_)
     obtain ⟨o3, hm, hnx3⟩ := lp_step hlp
     clear hlp
     replace hm : m_record_Put_s3 x163 l268 l271 i274 = some o3 := hm
     unfold m_record_Put_s3 at hm
     refine c_flat [(0, .pointer (some ⟨go0, 0, none⟩)), (6, .int .i64 x39), (8, .pointer (some ⟨g171, 0, none⟩)), (57, .slice A166 x163.fnames.length c167), (58, .int .i64 (x163.fnames.length : Int)), (59, .int .i64 i274)] ⟨rfl, rfl, rfl, rfl, rfl, rfl, trivial⟩ (fun u => ?_)
     refine c_sta ⟨w0, M, (1000, go0, .cells #[.slice A269 l268.length c270, mapV A272] 100 (0, 0)) :: (100080, g171, .cells #[.string x163.fahead, .string x163.fbehind, .slice A166 x163.fnames.length c167] 107 (0, 0)) :: H, (1000, ⟨.slice A269 l268.length c270, 5, 1, l268.length, l268.flatMap (fun x : Int => [Value.int .u8 x])⟩) :: (1001, ⟨mapV A272, 98, 2, l271.length, l271.flatMap (mcell (fun x : ByteArray => Value.string x) (fun x : Int => Value.int .i64 x))⟩) :: R, φ169⟩ (fun _ h => h) <| c_seq <| c_region <| g_v rfl (r_lss rfl rfl) <| g_nil <| d_then <| c_seq ?_
     refine c_cond rfl (fun h298 => ?_) (fun h298 => ?_)
     ·
      replace hm := ite_t hm (of_decide_eq_true h298)
      refine c_skip <| d_then <| c_seq <| c_block <| c_seq <| c_region ?_
      replace hm := bnd hm
      obtain ⟨x299, hx299, hm⟩ := hm
      refine g_know _ (fun W hS => cl_at (p := φ169) (sz := 1) (fun _ => rfl) (by decide) hS.now f168 hx299) ?_
      rintro ⟨ad300, hA302, f301⟩
      refine g_v rfl (r_ix Try.underlying105 Try.sizeOf9 rfl hA302 rfl hx299) <| g_v rfl (r_ld rfl Try.isAgg9 (fun W hS => Cl.head (f301 W hS.now))) <| g_v rfl r_assign <| g_nil <| d_then <| c_region <| g_v rfl r_move <| g_v rfl r_move ?_
      replace hm := bnd hm
      obtain ⟨⟨x303, x304⟩, hx305, hm⟩ := hm
      refine g_cn ⟨w0, M, (1000, go0, .cells #[.slice A269 l268.length c270, mapV A272] 100 (0, 0)) :: (100080, g171, .cells #[.string x163.fahead, .string x163.fbehind, .slice A166 x163.fnames.length c167] 107 (0, 0)) :: H, (1000, ⟨.slice A269 l268.length c270, 5, 1, l268.length, l268.flatMap (fun x : Int => [Value.int .u8 x])⟩) :: (1001, ⟨mapV A272, 98, 2, l271.length, l271.flatMap (mcell (fun x : ByteArray => Value.string x) (fun x : Int => Value.int .i64 x))⟩) :: R, φ169⟩ (fun W h => (ok_front (t := 1000) (t' := 1000) (ok_frontR (t := 1000) (t' := 1000) (ok_frontR (t := 1001) (t' := 1001) h rfl) rfl) rfl)) Try.call68 rfl rfl (c_pack_Packer_Name x299 true go0 (⟨l268, l271⟩ : Gpack_Packer) A269 c270 hc270 A272 c273 trivial _ hx305) (fun ⟨A306, c307, A309, c310⟩ ⟨hc307, hc310⟩ => ?_)
      refine g_sta _ (fun W h => (ok_frontR (t := 2000) (t' := 1000) (ok_frontR (t := 2001) (t' := 1001) (ok_front (t := 1000) (t' := 1000) h rfl) rfl) rfl)) <| g_nil <| d_normal_block <| d_then <| c_region <| g_v rfl (r_add rfl rfl rfl) <| g_v rfl r_move <| g_nil ?_
      obtain ⟨n313, hn313, hlp⟩ := nx_inl hm hnx3
      exact d_round (n313, x304.fb, x304.fplaces, w64 (i274 + 1), A306, c307, A309, c310) ⟨hlp, hc307, trivial⟩ hn313 ⟨rfl, rfl, rfl, rfl, rfl, rfl, trivial⟩ (fun W h => h.phi (fun W hφ => hφ))
     ·
      replace hm := ite_f hm (of_decide_eq_false h298)
      refine c_exit <| d_exit_then <| d_exit_then <| d_exit_block ?_
      replace hm := nx_out (C := (fun e => m_record_Put_j2 x163 x39 e.1 e.2 = some r)) hm hnx3 hr3
      exact d_round (l268, l271, A269, c270, A272, c273) ⟨hm, hc270, trivial⟩ Nat.zero_lt_one ⟨rfl, rfl, rfl, trivial⟩ (fun W h => h.phi (fun W hφ => hφ))
    ·
     unfold m_record_Put_j2 at hm
     refine d_flat [(0, .pointer (some ⟨go0, 0, none⟩)), (6, .int .i64 x39), (8, .pointer (some ⟨g171, 0, none⟩))] ⟨rfl, rfl, rfl, trivial⟩ (fun u => ?_)
     refine d_sta ⟨w0, M, (1000, go0, .cells #[.slice A233 l232.length c234, mapV A236] 100 (0, 0)) :: (100080, g171, .cells #[.string x163.fahead, .string x163.fbehind, .slice A166 x163.fnames.length c167] 107 (0, 0)) :: H, (1000, ⟨.slice A233 l232.length c234, 5, 1, l232.length, l232.flatMap (fun x : Int => [Value.int .u8 x])⟩) :: (1001, ⟨mapV A236, 98, 2, l235.length, l235.flatMap (mcell (fun x : ByteArray => Value.string x) (fun x : Int => Value.int .i64 x))⟩) :: R, φ169⟩ (fun _ h => h) <| d_then <| c_region <| g_v rfl r_move <| g_v rfl (r_field (n := 1) Try.underlying107 rfl Try.sizeOf9 rfl rfl) <| g_v rfl (r_load (tag := 100080) rfl rfl rfl Try.isAgg9) ?_
     replace hm := bnd hm
     obtain ⟨x238, hx239, hm⟩ := hm
     refine g_cn ⟨w0, M, (1000, go0, .cells #[.slice A233 l232.length c234, mapV A236] 100 (0, 0)) :: (100080, g171, .cells #[.string x163.fahead, .string x163.fbehind, .slice A166 x163.fnames.length c167] 107 (0, 0)) :: H, (1000, ⟨.slice A233 l232.length c234, 5, 1, l232.length, l232.flatMap (fun x : Int => [Value.int .u8 x])⟩) :: (1001, ⟨mapV A236, 98, 2, l235.length, l235.flatMap (mcell (fun x : ByteArray => Value.string x) (fun x : Int => Value.int .i64 x))⟩) :: R, φ169⟩ (fun W h => (ok_front (t := 1000) (t' := 1000) (ok_frontR (t := 1000) (t' := 1000) (ok_frontR (t := 1001) (t' := 1001) h rfl) rfl) rfl)) Try.call21 rfl rfl (c_pack_Packer_Raw x163.fbehind go0 (⟨l232, l235⟩ : Gpack_Packer) A233 c234 hc234 A236 c237 trivial _ hx239) (fun ⟨A240, c241, A243, c244⟩ ⟨hc241, hc244⟩ => ?_)
     refine g_sta _ (fun W h => (ok_frontR (t := 2000) (t' := 1000) (ok_frontR (t := 2001) (t' := 1001) (ok_front (t := 1000) (t' := 1000) h rfl) rfl) rfl)) <| g_nil ?_
     exact d_round (x238.fb, x238.fplaces, A240, c241, A243, c244) ⟨hm, hc241, trivial⟩ Nat.zero_lt_one ⟨rfl, rfl, trivial⟩ (fun W h => (h.dropH (t := 100080) rfl).phi (fun W hφ => (q169 _ hφ)))
   ·
    replace hm := ite_f hm (of_decide_eq_false h162)
    refine c_region <| g_v rfl r_move <| g_v rfl (r_field (n := 4) Try.underlying27 rfl Try.sizeOf9 rfl rfl) <| g_v rfl (r_load (tag := 100030) rfl rfl rfl Try.isAgg9) ?_
    replace hm := bnd hm
    obtain ⟨x314, hx315, hm⟩ := hm
    refine g_cn ⟨w0, M, (1000, go0, .cells #[.slice A43 x41.fb.length c44, mapV A46] 100 (0, 0)) :: (100070, g51, .cells #[.int .i64 x49.fahead, .int .i64 x49.fnames, .int .i64 x49.fbehind] 90 (0, 0)) :: (100030, g1, .cells #[.string p1.fName, .int .u16 p1.fType, .int .u16 p1.fClass, .int .u32 p1.fTTL, .string p1.fData] 27 (0, 0)) :: H, (1000, ⟨.slice A43 x41.fb.length c44, 5, 1, x41.fb.length, x41.fb.flatMap (fun x : Int => [Value.int .u8 x])⟩) :: (1001, ⟨mapV A46, 98, 2, x41.fplaces.length, x41.fplaces.flatMap (mcell (fun x : ByteArray => Value.string x) (fun x : Int => Value.int .i64 x))⟩) :: R, φ⟩ (fun W h => (ok_front (t := 1000) (t' := 1000) (ok_frontR (t := 1000) (t' := 1000) (ok_frontR (t := 1001) (t' := 1001) h rfl) rfl) rfl)) Try.call21 rfl rfl (c_pack_Packer_Raw p1.fData go0 x41 A43 c44 hc44 A46 c47 trivial _ hx315) (fun ⟨A316, c317, A319, c320⟩ ⟨hc317, hc320⟩ => ?_)
    refine g_sta _ (fun W h => (ok_frontR (t := 2000) (t' := 1000) (ok_frontR (t := 2001) (t' := 1001) (ok_front (t := 1000) (t' := 1000) h rfl) rfl) rfl)) <| g_nil ?_
    exact d_round (x314.fb, x314.fplaces, A316, c317, A319, c320) ⟨hm, hc317, trivial⟩ Nat.zero_lt_one ⟨rfl, rfl, trivial⟩ (fun W h => ((h.dropH (t := 100070) rfl).dropH (t := 100030) rfl).phi (fun W hφ => hφ))
  ·
   unfold m_record_Put_j1 at hm
   refine d_flat [(0, .pointer (some ⟨go0, 0, none⟩)), (6, .int .i64 x39)] ⟨rfl, rfl, trivial⟩ (fun u => ?_)
   refine d_sta ⟨w0, M, (1000, go0, .cells #[.slice A145 l144.length c146, mapV A148] 100 (0, 0)) :: H, (1000, ⟨.slice A145 l144.length c146, 5, 1, l144.length, l144.flatMap (fun x : Int => [Value.int .u8 x])⟩) :: (1001, ⟨mapV A148, 98, 2, l147.length, l147.flatMap (mcell (fun x : ByteArray => Value.string x) (fun x : Int => Value.int .i64 x))⟩) :: R, φ⟩ (fun _ h => h) <| d_then <| c_seq <| c_region <| g_v rfl r_move <| g_v rfl r_move <| g_v rfl r_move ?_
   replace hm := bnd hm
   obtain ⟨x150, hx151, hm⟩ := hm
   refine g_cn ⟨w0, M, (1000, go0, .cells #[.slice A145 l144.length c146, mapV A148] 100 (0, 0)) :: H, (1000, ⟨.slice A145 l144.length c146, 5, 1, l144.length, l144.flatMap (fun x : Int => [Value.int .u8 x])⟩) :: (1001, ⟨mapV A148, 98, 2, l147.length, l147.flatMap (mcell (fun x : ByteArray => Value.string x) (fun x : Int => Value.int .i64 x))⟩) :: R, φ⟩ (fun W h => (ok_front (t := 1000) (t' := 1000) (ok_frontR (t := 1000) (t' := 1000) (ok_frontR (t := 1001) (t' := 1001) h rfl) rfl) rfl)) Try.call25 rfl rfl (c_pack_Packer_Len go0 (⟨l144, l147⟩ : Gpack_Packer) A145 c146 hc146 A148 c149 trivial _ hx151) (fun _ _ => ?_)
   refine g_sta _ (fun W h => (ok_frontR (t := 1000) (t' := 1000) (ok_frontR (t := 1001) (t' := 1001) (ok_front (t := 1000) (t' := 1000) h rfl) rfl) rfl)) <| g_v rfl r_move <| g_v rfl (r_sub rfl rfl rfl) <| g_v rfl (r_sub rfl rfl rfl) <| g_v rfl (r_conv Try.underlying3 Try.underlying24 rfl rfl) ?_
   replace hm := bnd hm
   obtain ⟨⟨x152, x153⟩, hx154, hm⟩ := hm
   refine g_cn ⟨w0, M, (1000, go0, .cells #[.slice A145 l144.length c146, mapV A148] 100 (0, 0)) :: H, (1000, ⟨.slice A145 l144.length c146, 5, 1, l144.length, l144.flatMap (fun x : Int => [Value.int .u8 x])⟩) :: (1001, ⟨mapV A148, 98, 2, l147.length, l147.flatMap (mcell (fun x : ByteArray => Value.string x) (fun x : Int => Value.int .i64 x))⟩) :: R, φ⟩ (fun W h => (ok_front (t := 1000) (t' := 1000) (ok_frontR (t := 1000) (t' := 1000) (ok_frontR (t := 1001) (t' := 1001) h rfl) rfl) rfl)) Try.call72 rfl rfl (c_pack_Packer_Patch x39 (IntKind.u16.wrap (w64 ((w64 (x150 - x39)) - 2))) go0 (⟨l144, l147⟩ : Gpack_Packer) A145 c146 hc146 A148 c149 trivial _ hx154) (fun ⟨A155, c156, A158, c159⟩ ⟨hc156, hc159⟩ => ?_)
   refine g_sta _ (fun W h => (ok_frontR (t := 2000) (t' := 1000) (ok_frontR (t := 2001) (t' := 1001) (ok_front (t := 1000) (t' := 1000) h rfl) rfl) rfl)) <| g_v rfl r_assign <| g_nil <| d_then ?_
   refine c_flat [(4, .int .i64 x152)] ⟨rfl, trivial⟩ (fun u => ?_)
   refine c_sta ⟨w0, M, (1000, go0, .cells #[.slice A155 x153.fb.length c156, mapV A158] 100 (0, 0)) :: H, (1000, ⟨.slice A155 x153.fb.length c156, 5, 1, x153.fb.length, x153.fb.flatMap (fun x : Int => [Value.int .u8 x])⟩) :: (1001, ⟨mapV A158, 98, 2, x153.fplaces.length, x153.fplaces.flatMap (mcell (fun x : ByteArray => Value.string x) (fun x : Int => Value.int .i64 x))⟩) :: R, φ⟩ (fun _ h => h) <| c_ret ?_
   replace hm := Option.some.inj hm
   subst hm
   refine d_sta _ (fun W h => ok_frontR (t := 1001) (t' := 2001) h rfl) <| d_sta _ (fun W h => ok_frontR (t := 1000) (t' := 2000) h rfl) ?_
   refine d_retC (A155, c156, A158, c159) Try.results23 ?_ ⟨hc156, hc159⟩ (fun W h => h.phi (fun W hφ => hφ)) (.inr rfl)
   refine res_tmp <| res_nil ?_
   exact rfl
noncomputable def m_message_whole_c2 (p0 : GRR) (o1 : Gpack_Packer) : Option (Int × Gpack_Packer) :=
  (m_record_Put p0 o1).bind fun (z11 : Int × Gpack_Packer) =>
  some (z11.1, z11.2)
theorem c_message_whole_c2 {w0 : World} {M : Nat → Prop} {H : List (Nat × Nat × Obj)} {R : List (Nat × Row)} {φ : World → Prop} (p0 : GRR) (go0 : Nat) (go1 : Nat) (o1 : Gpack_Packer) (Ao1_0 : Option Addr) (co1_0 : Nat) (hco1_0 : o1.fb.length ≤ co1_0) (Ao1_1 : Option Addr) (co1_1 : Nat) (hco1_1 : True) (r : Int × Gpack_Packer) (hm : m_message_whole_c2 p0 o1 = some r) :
    Cn Try.prog 115 #[.agg #[.string p0.fName, .int .u16 p0.fType, .int .u16 p0.fClass, .int .u32 p0.fTTL, .string p0.fData], .pointer (some ⟨go0, 0, none⟩)] ⟨w0, M, (1000, go0, .cells #[.pointer (some ⟨go1, 0, none⟩)] 33 (0, 0)) :: (1001, go1, .cells #[.slice Ao1_0 o1.fb.length co1_0, mapV Ao1_1] 100 (0, 0)) :: H, (1000, ⟨.slice Ao1_0 o1.fb.length co1_0, 5, 1, o1.fb.length, o1.fb.flatMap (fun x : Int => [Value.int .u8 x])⟩) :: (1001, ⟨mapV Ao1_1, 98, 2, o1.fplaces.length, o1.fplaces.flatMap (mcell (fun x : ByteArray => Value.string x) (fun x : Int => Value.int .i64 x))⟩) :: R, φ⟩ (fun x : Option Addr × Nat × Option Addr × Nat => .int .i64 r.1) (fun x => r.2.fb.length ≤ x.2.1 ∧ True) (fun x => ⟨w0, M, (1000, go0, .cells #[.pointer (some ⟨go1, 0, none⟩)] 33 (0, 0)) :: (1001, go1, .cells #[.slice x.1 r.2.fb.length x.2.1, mapV x.2.2.1] 100 (0, 0)) :: H, (2000, ⟨.slice x.1 r.2.fb.length x.2.1, 5, 1, r.2.fb.length, r.2.fb.flatMap (fun x : Int => [Value.int .u8 x])⟩) :: (2001, ⟨mapV x.2.2.1, 98, 2, r.2.fplaces.length, r.2.fplaces.flatMap (mcell (fun x : ByteArray => Value.string x) (fun x : Int => Value.int .i64 x))⟩) :: R, φ⟩) := by
 unfold m_message_whole_c2 at hm
 refine cn_intro (fn := Try.f115) (N := 7) Try.func115 rfl Try.ntmps115 rfl <| c_seq <| c_region ?_
 refine g_e rfl (e_box 100020 rfl) (fun g1 _ => ?_)
 refine g_v rfl r_assign <| g_nil <| d_then <| c_seq <| c_region <| g_v rfl (r_load (tag := 1000) rfl rfl rfl Try.isAgg33) <| g_v rfl (r_loadA (tag := 100020) rfl rfl Try.isAgg27 Try.sizeOf27 rfl rfl) ?_
 replace hm := bnd hm
 obtain ⟨⟨x2, x3⟩, hx4, hm⟩ := hm
 refine g_cn ⟨w0, M, (1000, go1, .cells #[.slice Ao1_0 o1.fb.length co1_0, mapV Ao1_1] 100 (0, 0)) :: (100020, g1, .cells #[.string p0.fName, .int .u16 p0.fType, .int .u16 p0.fClass, .int .u32 p0.fTTL, .string p0.fData] 27 (0, 0)) :: (1000, go0, .cells #[.pointer (some ⟨go1, 0, none⟩)] 33 (0, 0)) :: H, (1000, ⟨.slice Ao1_0 o1.fb.length co1_0, 5, 1, o1.fb.length, o1.fb.flatMap (fun x : Int => [Value.int .u8 x])⟩) :: (1001, ⟨mapV Ao1_1, 98, 2, o1.fplaces.length, o1.fplaces.flatMap (mcell (fun x : ByteArray => Value.string x) (fun x : Int => Value.int .i64 x))⟩) :: R, φ⟩ (fun W h => (ok_front (t := 1001) (t' := 1000) (ok_frontR (t := 1000) (t' := 1000) (ok_frontR (t := 1001) (t' := 1001) h rfl) rfl) rfl)) Try.call23 rfl rfl (c_record_Put p0 go1 o1 Ao1_0 co1_0 hco1_0 Ao1_1 co1_1 trivial _ hx4) (fun ⟨A5, c6, A8, c9⟩ ⟨hc6, hc9⟩ => ?_)
 refine g_sta _ (fun W h => (ok_frontR (t := 2000) (t' := 1000) (ok_frontR (t := 2001) (t' := 1001) (ok_front (t := 1000) (t' := 1001) h rfl) rfl) rfl)) <| g_v rfl r_assign <| g_nil <| d_then <| c_ret ?_
 replace hm := Option.some.inj hm
 subst hm
 refine d_sta _ (fun W h => ok_frontR (t := 1001) (t' := 2001) h rfl) <| d_sta _ (fun W h => ok_frontR (t := 1000) (t' := 2000) h rfl) ?_
 refine d_retC (A5, c6, A8, c9) Try.results115 ?_ ⟨hc6, hc9⟩ (fun W h => (ok_front (t := 1000) (t' := 1000) (ok_front (t := 1001) (t' := 1001) (h.dropH (t := 100020) rfl) rfl) rfl).phi (fun W hφ => hφ)) (.inr rfl)
 refine res_tmp <| res_nil ?_
 exact rfl
noncomputable def m_message_each_114_j1  (l57 : List Int) (l60 : List (ByteArray × Int)) : Option (Int × Gpack_Packer) :=
  some (0, (⟨l57, l60⟩ : Gpack_Packer))
noncomputable def m_message_each_114_s2 (p0 : List GRR) (l87 : List Int) (l90 : List (ByteArray × Int)) (i93 : Int) : Option (((List Int) × (List (ByteArray × Int)) × Int) ⊕ (((List Int) × (List (ByteArray × Int))) ⊕ (Int × Gpack_Packer))) :=
  if i93 < (p0.length : Int) then
    (at_ p0 i93).bind fun x120 =>
    (m_message_whole_c2 x120 (⟨l87, l90⟩ : Gpack_Packer)).bind fun (z134 : Int × Gpack_Packer) =>
    if z134.1 ≠ 0 then
      some (.inr (.inr (z134.1, z134.2)))
    else
      some (.inl (z134.2.fb, z134.2.fplaces, w64 (i93 + 1)))
  else
    some (.inr (.inl (l87, l90)))
noncomputable def m_message_each_114 (p0 : List GRR) (o1 : Gpack_Packer) : Option (Int × Gpack_Packer) :=
  (loop (fun s => m_message_each_114_s2 p0 s.1 s.2.1 s.2.2) (o1.fb, o1.fplaces, 0)).bind fun e => Sum.elim (fun e => m_message_each_114_j1 e.1 e.2) (fun x => some x) e
theorem c_message_each_114 {w0 : World} {M : Nat → Prop} {H : List (Nat × Nat × Obj)} {R : List (Nat × Row)} {φ : World → Prop} (p0 : List GRR) (Ap0_0 : Option Addr) (cp0_0 : Nat) (hcp0_0 : p0.length ≤ cp0_0) (fp0_0 : ∀ W, (Sta.mk w0 M H R φ).ok W → Cl W Ap0_0 (p0.flatMap GRR.enc)) (go0 : Nat) (go1 : Nat) (o1 : Gpack_Packer) (Ao1_0 : Option Addr) (co1_0 : Nat) (hco1_0 : o1.fb.length ≤ co1_0) (Ao1_1 : Option Addr) (co1_1 : Nat) (hco1_1 : True) (r : Int × Gpack_Packer) (hm : m_message_each_114 p0 o1 = some r) :
    Cn Try.prog 114 #[.slice Ap0_0 p0.length cp0_0, .func (.func 115) #[] #[.pointer (some ⟨go0, 0, none⟩)]] ⟨w0, M, (1000, go0, .cells #[.pointer (some ⟨go1, 0, none⟩)] 33 (0, 0)) :: (1001, go1, .cells #[.slice Ao1_0 o1.fb.length co1_0, mapV Ao1_1] 100 (0, 0)) :: H, (1000, ⟨.slice Ao1_0 o1.fb.length co1_0, 5, 1, o1.fb.length, o1.fb.flatMap (fun x : Int => [Value.int .u8 x])⟩) :: (1001, ⟨mapV Ao1_1, 98, 2, o1.fplaces.length, o1.fplaces.flatMap (mcell (fun x : ByteArray => Value.string x) (fun x : Int => Value.int .i64 x))⟩) :: R, φ⟩ (fun x : Option Addr × Nat × Option Addr × Nat => .int .i64 r.1) (fun x => r.2.fb.length ≤ x.2.1 ∧ True) (fun x => ⟨w0, M, (1000, go0, .cells #[.pointer (some ⟨go1, 0, none⟩)] 33 (0, 0)) :: (1001, go1, .cells #[.slice x.1 r.2.fb.length x.2.1, mapV x.2.2.1] 100 (0, 0)) :: H, (2000, ⟨.slice x.1 r.2.fb.length x.2.1, 5, 1, r.2.fb.length, r.2.fb.flatMap (fun x : Int => [Value.int .u8 x])⟩) :: (2001, ⟨mapV x.2.2.1, 98, 2, r.2.fplaces.length, r.2.fplaces.flatMap (mcell (fun x : ByteArray => Value.string x) (fun x : Int => Value.int .i64 x))⟩) :: R, φ⟩) := by
 unfold m_message_each_114 at hm
 refine cn_intro (fn := Try.f114) (N := 21) Try.func114 rfl Try.ntmps114 rfl <| c_seq <| c_region <| g_v rfl r_assign <| g_nil <| d_then <| c_seq <| c_seq <| c_region <| g_v rfl r_move ?_
 refine g_v rfl (r_lenL Try.underlying32 rfl) <| g_v rfl r_move <| g_nil <| d_then ?_
 refine c_cut (ι := (List Int) × (List (ByteArray × Int)) × Option Addr × Nat × Option Addr × Nat) [] (fun ⟨l57, l60, A58, c59, A61, c62⟩ => []) (fun ⟨l57, l60, A58, c59, A61, c62⟩ => ⟨w0, M, (1000, go0, .cells #[.pointer (some ⟨go1, 0, none⟩)] 33 (0, 0)) :: (1001, go1, .cells #[.slice A58 l57.length c59, mapV A61] 100 (0, 0)) :: H, (1000, ⟨.slice A58 l57.length c59, 5, 1, l57.length, l57.flatMap (fun x : Int => [Value.int .u8 x])⟩) :: (1001, ⟨mapV A61, 98, 2, l60.length, l60.flatMap (mcell (fun x : ByteArray => Value.string x) (fun x : Int => Value.int .i64 x))⟩) :: R, φ⟩) (fun ⟨l57, l60, A58, c59, A61, c62⟩ => m_message_each_114_j1 l57 l60 = some r ∧ l57.length ≤ c59 ∧ True) ?_ (fun ⟨l57, l60, A58, c59, A61, c62⟩ u ⟨hm, hc59, hc62⟩ => ?_)
 ·
  refine c_block ?_
  replace hm := bnd hm
  obtain ⟨out2, hl2, hr2⟩ := hm
  obtain ⟨n118', hl2⟩ := loop_lp hl2
  refine c_loopU (ι := Nat × (List Int) × (List (ByteArray × Int)) × Int × Option Addr × Nat × Option Addr × Nat) [1, 8, 9, 10] (fun ⟨n118, l87, l90, i93, A88, c89, A91, c92⟩ => [(10, .int .i64 i93)]) (fun ⟨n118, l87, l90, i93, A88, c89, A91, c92⟩ => ⟨w0, M, (1000, go0, .cells #[.pointer (some ⟨go1, 0, none⟩)] 33 (0, 0)) :: (1001, go1, .cells #[.slice A88 l87.length c89, mapV A91] 100 (0, 0)) :: H, (1000, ⟨.slice A88 l87.length c89, 5, 1, l87.length, l87.flatMap (fun x : Int => [Value.int .u8 x])⟩) :: (1001, ⟨mapV A91, 98, 2, l90.length, l90.flatMap (mcell (fun x : ByteArray => Value.string x) (fun x : Int => Value.int .i64 x))⟩) :: R, φ⟩) (fun ⟨n118, l87, l90, i93, A88, c89, A91, c92⟩ => Lp (fun s => m_message_each_114_s2 p0 s.1 s.2.1 s.2.2) n118 (l87, l90, i93) out2 ∧ l87.length ≤ c89 ∧ True) (fun ⟨n118, l87, l90, i93, A88, c89, A91, c92⟩ => n118) (n118', o1.fb, o1.fplaces, 0, Ao1_0, co1_0, Ao1_1, co1_1) ⟨hl2, hco1_0, trivial⟩ ⟨rfl, rfl, rfl, rfl, trivial⟩ (fun W h => h.phi (fun W hφ => hφ)) (fun ⟨n118, l87, l90, i93, A88, c89, A91, c92⟩ u ⟨hlp, hc89, hc92⟩ => ?_)
  obtain ⟨o2, hm, hnx2⟩ := lp_step hlp
  clear hlp
  replace hm : m_message_each_114_s2 p0 l87 l90 i93 = some o2 := hm
  unfold m_message_each_114_s2 at hm
  refine c_flat [(1, .func (.func 115) #[] #[.pointer (some ⟨go0, 0, none⟩)]), (8, .slice Ap0_0 p0.length cp0_0), (9, .int .i64 (p0.length : Int)), (10, .int .i64 i93)] ⟨rfl, rfl, rfl, rfl, trivial⟩ (fun u => ?_)
  refine c_sta ⟨w0, M, (1000, go0, .cells #[.pointer (some ⟨go1, 0, none⟩)] 33 (0, 0)) :: (1001, go1, .cells #[.slice A88 l87.length c89, mapV A91] 100 (0, 0)) :: H, (1000, ⟨.slice A88 l87.length c89, 5, 1, l87.length, l87.flatMap (fun x : Int => [Value.int .u8 x])⟩) :: (1001, ⟨mapV A91, 98, 2, l90.length, l90.flatMap (mcell (fun x : ByteArray => Value.string x) (fun x : Int => Value.int .i64 x))⟩) :: R, φ⟩ (fun _ h => h) <| c_seq <| c_region <| g_v rfl (r_lss rfl rfl) <| g_nil <| d_then <| c_seq ?_
  refine c_cond rfl (fun h119 => ?_) (fun h119 => ?_)
  ·
   replace hm := ite_t hm (of_decide_eq_true h119)
   refine c_skip <| d_then <| c_seq <| c_block <| c_seq <| c_region ?_
   replace hm := bnd hm
   obtain ⟨x120, hx120, hm⟩ := hm
   refine g_know _ (fun W hS => cl_at (p := (Sta.mk w0 M H R φ).ok) (sz := 5) (fun _ => rfl) (by decide) (ok_pre (H1 := [_, _]) (R1 := [_, _]) hS (fun W h => h)) fp0_0 hx120) ?_
   rintro ⟨ad121, hA123, f122⟩
   refine g_v rfl (r_ix Try.underlying32 Try.sizeOf27 rfl hA123 rfl hx120) <| g_v rfl (r_ldA rfl Try.isAgg27 Try.sizeOf27 (fun W hS => (f122 W (ok_pre (H1 := [_, _]) (R1 := [_, _]) hS (fun W h => h))).take 5) rfl) ?_
   refine g_e rfl (e_alloc 100060 Try.zeroValue27) (fun g124 _ => ?_)
   refine g_storeL (tag := 100060) rfl rfl rfl rfl Try.sizeOf27 rfl rfl <| g_nil <| d_then <| c_seq <| c_region <| g_v rfl r_move <| g_v rfl (r_loadA (tag := 100060) rfl rfl Try.isAgg27 Try.sizeOf27 rfl rfl) ?_
   replace hm := bnd hm
   obtain ⟨⟨x125, x126⟩, hx127, hm⟩ := hm
   refine g_cnv ⟨w0, M, (1000, go0, .cells #[.pointer (some ⟨go1, 0, none⟩)] 33 (0, 0)) :: (1001, go1, .cells #[.slice A88 l87.length c89, mapV A91] 100 (0, 0)) :: (100060, g124, .cells #[.string x120.fName, .int .u16 x120.fType, .int .u16 x120.fClass, .int .u32 x120.fTTL, .string x120.fData] 27 (0, 0)) :: H, (1000, ⟨.slice A88 l87.length c89, 5, 1, l87.length, l87.flatMap (fun x : Int => [Value.int .u8 x])⟩) :: (1001, ⟨mapV A91, 98, 2, l90.length, l90.flatMap (mcell (fun x : ByteArray => Value.string x) (fun x : Int => Value.int .i64 x))⟩) :: R, φ⟩ (fun W h => (ok_front (t := 1000) (t' := 1000) (ok_front (t := 1001) (t' := 1001) (ok_frontR (t := 1000) (t' := 1000) (ok_frontR (t := 1001) (t' := 1001) h rfl) rfl) rfl) rfl)) Try.call115 rfl rfl rfl (c_message_whole_c2 x120 go0 go1 (⟨l87, l90⟩ : Gpack_Packer) A88 c89 hc89 A91 c92 trivial _ hx127) (fun ⟨A128, c129, A131, c132⟩ ⟨hc129, hc132⟩ => ?_)
   refine g_sta _ (fun W h => (ok_frontR (t := 2000) (t' := 1000) (ok_frontR (t := 2001) (t' := 1001) (ok_front (t := 1000) (t' := 1000) (ok_front (t := 1001) (t' := 1001) h rfl) rfl) rfl) rfl)) <| g_v rfl r_assign <| g_nil <| d_then ?_
   refine c_flat [(1, .func (.func 115) #[] #[.pointer (some ⟨go0, 0, none⟩)]), (7, .int .i64 x125), (8, .slice Ap0_0 p0.length cp0_0), (9, .int .i64 (p0.length : Int)), (10, .int .i64 i93)] ⟨rfl, rfl, rfl, rfl, rfl, trivial⟩ (fun u => ?_)
   refine c_sta ⟨w0, M, (1000, go0, .cells #[.pointer (some ⟨go1, 0, none⟩)] 33 (0, 0)) :: (1001, go1, .cells #[.slice A128 x126.fb.length c129, mapV A131] 100 (0, 0)) :: (100060, g124, .cells #[.string x120.fName, .int .u16 x120.fType, .int .u16 x120.fClass, .int .u32 x120.fTTL, .string x120.fData] 27 (0, 0)) :: H, (1000, ⟨.slice A128 x126.fb.length c129, 5, 1, x126.fb.length, x126.fb.flatMap (fun x : Int => [Value.int .u8 x])⟩) :: (1001, ⟨mapV A131, 98, 2, x126.fplaces.length, x126.fplaces.flatMap (mcell (fun x : ByteArray => Value.string x) (fun x : Int => Value.int .i64 x))⟩) :: R, φ⟩ (fun _ h => h) <| c_seq <| c_region <| g_v rfl r_move <| g_v rfl (r_neq rfl rfl) <| g_nil <| d_then ?_
   refine c_cond rfl (fun h135 => ?_) (fun h135 => ?_)
   ·
    replace hm := ite_t hm (of_decide_eq_true h135)
    refine c_seq <| c_region <| g_v rfl r_move <| g_v rfl r_assign <| g_nil <| d_then <| c_ret <| d_ret_block <| d_ret_then <| d_ret_then ?_
    refine d_ret_block <| d_ret_then <| d_ret_then ?_
    replace hm := nx_out (C := (fun e => Sum.elim (fun e => m_message_each_114_j1 e.1 e.2) (fun x => some x) e = some r)) hm hnx2 hr2
    replace hm : some (x125, x126) = some r := hm
    replace hm := Option.some.inj hm
    subst hm
    refine d_sta _ (fun W h => ok_frontR (t := 1001) (t' := 2001) h rfl) <| d_sta _ (fun W h => ok_frontR (t := 1000) (t' := 2000) h rfl) ?_
    refine d_retC (A128, c129, A131, c132) Try.results114 ?_ ⟨hc129, hc132⟩ (fun W h => (h.dropH (t := 100060) rfl).phi (fun W hφ => hφ)) (.inr rfl)
    refine res_tmp <| res_nil ?_
    exact rfl
   ·
    replace hm := ite_f hm (of_decide_eq_false h135)
    refine c_skip <| d_normal_block <| d_then <| c_region <| g_v rfl (r_add rfl rfl rfl) <| g_v rfl r_move <| g_nil ?_
    obtain ⟨n136, hn136, hlp⟩ := nx_inl hm hnx2
    exact d_round (n136, x126.fb, x126.fplaces, w64 (i93 + 1), A128, c129, A131, c132) ⟨hlp, hc129, trivial⟩ hn136 ⟨rfl, rfl, rfl, rfl, trivial⟩ (fun W h => (h.dropH (t := 100060) rfl).phi (fun W hφ => hφ))
  ·
   replace hm := ite_f hm (of_decide_eq_false h119)
   refine c_exit <| d_exit_then <| d_exit_then <| d_exit_block ?_
   replace hm := nx_out (C := (fun e => Sum.elim (fun e => m_message_each_114_j1 e.1 e.2) (fun x => some x) e = some r)) hm hnx2 hr2
   exact d_round (l87, l90, A88, c89, A91, c92) ⟨hm, hc89, trivial⟩ Nat.zero_lt_one trivial (fun W h => h.phi (fun W hφ => hφ))
 ·
  unfold m_message_each_114_j1 at hm
  refine d_flat [] trivial (fun u => ?_)
  refine d_sta ⟨w0, M, (1000, go0, .cells #[.pointer (some ⟨go1, 0, none⟩)] 33 (0, 0)) :: (1001, go1, .cells #[.slice A58 l57.length c59, mapV A61] 100 (0, 0)) :: H, (1000, ⟨.slice A58 l57.length c59, 5, 1, l57.length, l57.flatMap (fun x : Int => [Value.int .u8 x])⟩) :: (1001, ⟨mapV A61, 98, 2, l60.length, l60.flatMap (mcell (fun x : ByteArray => Value.string x) (fun x : Int => Value.int .i64 x))⟩) :: R, φ⟩ (fun _ h => h) <| d_then <| c_seq <| c_region <| g_v rfl r_assign <| g_nil <| d_then <| c_ret ?_
  replace hm := Option.some.inj hm
  subst hm
  refine d_sta _ (fun W h => ok_frontR (t := 1001) (t' := 2001) h rfl) <| d_sta _ (fun W h => ok_frontR (t := 1000) (t' := 2000) h rfl) ?_
  refine d_retC (A58, c59, A61, c62) Try.results114 ?_ ⟨hc59, hc62⟩ (fun W h => h.phi (fun W hφ => hφ)) (.inr rfl)
  refine res_tmp <| res_nil ?_
  exact rfl
noncomputable def m_pack_Packer_Bytes (o0 : Gpack_Packer) : Option ByteArray :=
  some (strOfNums o0.fb)
theorem c_pack_Packer_Bytes {w0 : World} {M : Nat → Prop} {H : List (Nat × Nat × Obj)} {R : List (Nat × Row)} {φ : World → Prop} (go0 : Nat) (o0 : Gpack_Packer) (Ao0_0 : Option Addr) (co0_0 : Nat) (hco0_0 : o0.fb.length ≤ co0_0) (Ao0_1 : Option Addr) (co0_1 : Nat) (hco0_1 : True) (r : ByteArray) (hm : m_pack_Packer_Bytes o0 = some r) :
    Cn Try.prog 26 #[.pointer (some ⟨go0, 0, none⟩)] ⟨w0, M, (1000, go0, .cells #[.slice Ao0_0 o0.fb.length co0_0, mapV Ao0_1] 100 (0, 0)) :: H, (1000, ⟨.slice Ao0_0 o0.fb.length co0_0, 5, 1, o0.fb.length, o0.fb.flatMap (fun x : Int => [Value.int .u8 x])⟩) :: (1001, ⟨mapV Ao0_1, 98, 2, o0.fplaces.length, o0.fplaces.flatMap (mcell (fun x : ByteArray => Value.string x) (fun x : Int => Value.int .i64 x))⟩) :: R, φ⟩ (fun x : Unit => .string r) (fun x => True) (fun x => ⟨w0, M, (1000, go0, .cells #[.slice Ao0_0 o0.fb.length co0_0, mapV Ao0_1] 100 (0, 0)) :: H, (1000, ⟨.slice Ao0_0 o0.fb.length co0_0, 5, 1, o0.fb.length, o0.fb.flatMap (fun x : Int => [Value.int .u8 x])⟩) :: (1001, ⟨mapV Ao0_1, 98, 2, o0.fplaces.length, o0.fplaces.flatMap (mcell (fun x : ByteArray => Value.string x) (fun x : Int => Value.int .i64 x))⟩) :: R, φ⟩) := by
 unfold m_pack_Packer_Bytes at hm
 refine cn_intro (fn := Try.f26) (N := 10) Try.func26 rfl Try.ntmps26 rfl <| c_seq <| c_region <| g_v rfl r_assign <| g_nil <| d_then <| c_seq <| c_seq <| c_region <| g_v rfl r_move ?_
 refine g_v rfl (r_eqlP1 Try.underlying33 rfl rfl) <| g_nil <| d_then <| c_cond0 rfl rfl <| c_skip <| d_then <| c_seq <| c_region <| g_v rfl r_move <| g_v rfl (r_nilck rfl) ?_
 refine g_v rfl (r_field (n := 0) Try.underlying100 rfl Try.sizeOf77 rfl rfl) <| g_v rfl (r_load (tag := 1000) rfl rfl rfl Try.isAgg77) <| g_v rfl (r_textE Try.underlying77 Try.underlying5 Try.underlying9 rfl (fun W hS => rowCl (tag := 1000) rfl W hS)) <| g_v rfl r_assign <| g_nil <| d_then ?_
 refine c_flat [(2, .string (strOfNums o0.fb))] ⟨rfl, trivial⟩ (fun u => ?_)
 refine c_sta ⟨w0, M, (1000, go0, .cells #[.slice Ao0_0 o0.fb.length co0_0, mapV Ao0_1] 100 (0, 0)) :: H, (1000, ⟨.slice Ao0_0 o0.fb.length co0_0, 5, 1, o0.fb.length, o0.fb.flatMap (fun x : Int => [Value.int .u8 x])⟩) :: (1001, ⟨mapV Ao0_1, 98, 2, o0.fplaces.length, o0.fplaces.flatMap (mcell (fun x : ByteArray => Value.string x) (fun x : Int => Value.int .i64 x))⟩) :: R, φ⟩ (fun _ h => h) <| c_ret ?_
 replace hm := Option.some.inj hm
 subst hm
 refine d_retC () Try.results26 ?_ trivial (fun W h => h.phi (fun W hφ => hφ)) (.inr rfl)
 refine res_tmp <| res_nil ?_
 exact rfl
noncomputable def m_message_whole (p0 : GMessage) : Option (ByteArray × Int) :=
  if p0.fOpcode < 0 then
    some ((⟨#[]⟩ : ByteArray), 1)
  else
    if 15 < p0.fOpcode then
      some ((⟨#[]⟩ : ByteArray), 1)
    else
      if p0.fCode < 0 then
        some ((⟨#[]⟩ : ByteArray), 1)
      else
        if 15 < p0.fCode then
          some ((⟨#[]⟩ : ByteArray), 1)
        else
          if 65535 < (max (max (max (p0.fQuestions.length : Int) (p0.fAnswers.length : Int)) (p0.fAuthorities.length : Int)) (p0.fExtras.length : Int)) then
            some ((⟨#[]⟩ : ByteArray), 1)
          else
            (m_pack_New).bind fun x7 =>
            (m_pack_Packer_Word p0.fID x7).bind fun x17 =>
            (m_message_flags_put (IntKind.u16.wrap (orI .i64 (w64 (p0.fOpcode * 2048)) p0.fCode)) 32768 p0.fResponse).bind fun x45 =>
            (m_message_flags_put x45 1024 p0.fAuthoritative).bind fun x47 =>
            (m_message_flags_put x47 512 p0.fTruncated).bind fun x49 =>
            (m_message_flags_put x49 256 p0.fDesired).bind fun x51 =>
            (m_message_flags_put x51 128 p0.fAvailable).bind fun x53 =>
            (m_pack_Packer_Word x53 x17).bind fun x55 =>
            (m_pack_Packer_Word (IntKind.u16.wrap (p0.fQuestions.length : Int)) x55).bind fun x63 =>
            (m_message_sections p0).bind fun x71 =>
            (m_pack_Packer_Word (IntKind.u16.wrap (x71.a0.length : Int)) x63).bind fun x83 =>
            (m_pack_Packer_Word (IntKind.u16.wrap (x71.a1.length : Int)) x83).bind fun x91 =>
            (m_pack_Packer_Word (IntKind.u16.wrap (x71.a2.length : Int)) x91).bind fun x99 =>
            (m_message_each_112 p0.fQuestions x99).bind fun (z116 : Int × Gpack_Packer) =>
            if z116.1 ≠ 0 then
              some ((⟨#[]⟩ : ByteArray), z116.1)
            else
              (m_message_sections p0).bind fun x118 =>
              (m_message_each_114 x118.a0 z116.2).bind fun (z139 : Int × Gpack_Packer) =>
              if z139.1 ≠ 0 then
                some ((⟨#[]⟩ : ByteArray), z139.1)
              else
                (m_message_each_114 x118.a1 z139.2).bind fun (z150 : Int × Gpack_Packer) =>
                if z150.1 ≠ 0 then
                  some ((⟨#[]⟩ : ByteArray), z150.1)
                else
                  (m_message_each_114 x118.a2 z150.2).bind fun (z161 : Int × Gpack_Packer) =>
                  if z161.1 ≠ 0 then
                    some ((⟨#[]⟩ : ByteArray), z161.1)
                  else
                    (m_pack_Packer_Bytes z161.2).bind fun x163 =>
                    some (x163, 0)
theorem c_message_whole {w0 : World} {M : Nat → Prop} {H : List (Nat × Nat × Obj)} {R : List (Nat × Row)} {φ : World → Prop} (p0 : GMessage) (Ap0_0 : Option Addr) (cp0_0 : Nat) (hcp0_0 : p0.fQuestions.length ≤ cp0_0) (fp0_0 : ∀ W, (Sta.mk w0 M H R φ).ok W → Cl W Ap0_0 (p0.fQuestions.flatMap GQuestion.enc)) (Ap0_1 : Option Addr) (cp0_1 : Nat) (hcp0_1 : p0.fAnswers.length ≤ cp0_1) (fp0_1 : ∀ W, φ W → Cl W Ap0_1 (p0.fAnswers.flatMap GRR.enc)) (Ap0_2 : Option Addr) (cp0_2 : Nat) (hcp0_2 : p0.fAuthorities.length ≤ cp0_2) (fp0_2 : ∀ W, φ W → Cl W Ap0_2 (p0.fAuthorities.flatMap GRR.enc)) (Ap0_3 : Option Addr) (cp0_3 : Nat) (hcp0_3 : p0.fExtras.length ≤ cp0_3) (fp0_3 : ∀ W, φ W → Cl W Ap0_3 (p0.fExtras.flatMap GRR.enc)) (r : ByteArray × Int) (hm : m_message_whole p0 = some r) :
    Cn Try.prog 86 #[.agg #[.int .u16 p0.fID, .bool p0.fResponse, .bool p0.fAuthoritative, .bool p0.fTruncated, .bool p0.fDesired, .bool p0.fAvailable, .int .i64 p0.fOpcode, .int .i64 p0.fCode, .slice Ap0_0 p0.fQuestions.length cp0_0, .slice Ap0_1 p0.fAnswers.length cp0_1, .slice Ap0_2 p0.fAuthorities.length cp0_2, .slice Ap0_3 p0.fExtras.length cp0_3]] ⟨w0, M, H, R, φ⟩ (fun x : Unit => .tuple #[.string r.1, .int .i64 r.2]) (fun x => True) (fun x => ⟨w0, M, H, R, φ⟩) := by
 unfold m_message_whole at hm
 refine cn_intro (fn := Try.f86) (N := 114) Try.func86 rfl Try.ntmps86 rfl <| c_seq <| c_region ?_
 refine g_e rfl (e_box 100010 rfl) (fun g1 _ => ?_)
 refine g_v rfl r_assign <| g_v rfl r_assign <| g_nil <| d_then <| c_seq <| c_seq <| c_region <| g_v rfl (r_field (n := 6) Try.underlying62 rfl Try.sizeOf3 rfl rfl) <| g_v rfl (r_load (tag := 100010) rfl rfl rfl Try.isAgg3) <| g_v rfl (r_lss rfl rfl) ?_
 refine g_v rfl r_move ?_
 refine g_if rfl rfl rfl rfl rfl (fun h2 => ?_) (fun h2 => ?_)
 ·
  replace hm := ite_f hm (of_decide_eq_false h2)
  refine g_v rfl (r_field (n := 6) Try.underlying62 rfl Try.sizeOf3 rfl rfl) <| g_do rfl rfl rfl rfl rfl h2 <| g_v rfl (r_load (tag := 100010) rfl rfl rfl Try.isAgg3) <| g_do rfl rfl rfl rfl rfl h2 <| g_v rfl (r_gtr rfl rfl) <| g_v rfl (r_pick0 rfl h2) <| g_v rfl r_move ?_
  refine g_if rfl rfl rfl rfl rfl (fun h3 => ?_) (fun h3 => ?_)
  ·
   replace hm := ite_f hm (of_decide_eq_false h3)
   refine g_v rfl (r_field (n := 7) Try.underlying62 rfl Try.sizeOf3 rfl rfl) <| g_do rfl rfl rfl rfl rfl h3 <| g_v rfl (r_load (tag := 100010) rfl rfl rfl Try.isAgg3) <| g_do rfl rfl rfl rfl rfl h3 <| g_v rfl (r_lss rfl rfl) <| g_v rfl (r_pick0 rfl h3) <| g_v rfl r_move ?_
   refine g_if rfl rfl rfl rfl rfl (fun h4 => ?_) (fun h4 => ?_)
   ·
    replace hm := ite_f hm (of_decide_eq_false h4)
    refine g_v rfl (r_field (n := 7) Try.underlying62 rfl Try.sizeOf3 rfl rfl) <| g_do rfl rfl rfl rfl rfl h4 <| g_v rfl (r_load (tag := 100010) rfl rfl rfl Try.isAgg3) <| g_do rfl rfl rfl rfl rfl h4 <| g_v rfl (r_gtr rfl rfl) <| g_v rfl (r_pick0 rfl h4) <| g_v rfl r_move ?_
    refine g_if rfl rfl rfl rfl rfl (fun h5 => ?_) (fun h5 => ?_)
    ·
     replace hm := ite_f hm (of_decide_eq_false h5)
     refine g_v rfl (r_field (n := 8) Try.underlying62 rfl Try.sizeOf60 rfl rfl) <| g_do rfl rfl rfl rfl rfl h5 <| g_v rfl (r_load (tag := 100010) rfl rfl rfl Try.isAgg60) <| g_do rfl rfl rfl rfl rfl h5 <| g_v rfl (r_lenL Try.underlying60 rfl) <| g_do rfl rfl rfl rfl rfl h5 <| g_v rfl (r_field (n := 9) Try.underlying62 rfl Try.sizeOf32 rfl rfl) <| g_do rfl rfl rfl rfl rfl h5 <| g_v rfl (r_load (tag := 100010) rfl rfl rfl Try.isAgg32) <| g_do rfl rfl rfl rfl rfl h5 ?_
     refine g_v rfl (r_lenL Try.underlying32 rfl) <| g_do rfl rfl rfl rfl rfl h5 <| g_v rfl (r_field (n := 10) Try.underlying62 rfl Try.sizeOf32 rfl rfl) <| g_do rfl rfl rfl rfl rfl h5 <| g_v rfl (r_load (tag := 100010) rfl rfl rfl Try.isAgg32) <| g_do rfl rfl rfl rfl rfl h5 <| g_v rfl (r_lenL Try.underlying32 rfl) <| g_do rfl rfl rfl rfl rfl h5 <| g_v rfl (r_field (n := 11) Try.underlying62 rfl Try.sizeOf32 rfl rfl) <| g_do rfl rfl rfl rfl rfl h5 ?_
     refine g_v rfl (r_load (tag := 100010) rfl rfl rfl Try.isAgg32) <| g_do rfl rfl rfl rfl rfl h5 <| g_v rfl (r_lenL Try.underlying32 rfl) <| g_do rfl rfl rfl rfl rfl h5 <| g_v rfl (r_max4 rfl rfl rfl rfl) <| g_do rfl rfl rfl rfl rfl h5 <| g_v rfl (r_gtr rfl rfl) <| g_v rfl (r_pick0 rfl h5) <| g_nil <| d_then ?_
     refine c_flat [(1, .pointer (some ⟨g1, 0, none⟩)), (45, .bool (decide (65535 < (max (max (max (p0.fQuestions.length : Int) (p0.fAnswers.length : Int)) (p0.fAuthorities.length : Int)) (p0.fExtras.length : Int)))))] ⟨rfl, rfl, trivial⟩ (fun u => ?_)
     refine c_sta ⟨w0, M, (100010, g1, .cells #[.int .u16 p0.fID, .bool p0.fResponse, .bool p0.fAuthoritative, .bool p0.fTruncated, .bool p0.fDesired, .bool p0.fAvailable, .int .i64 p0.fOpcode, .int .i64 p0.fCode, .slice Ap0_0 p0.fQuestions.length cp0_0, .slice Ap0_1 p0.fAnswers.length cp0_1, .slice Ap0_2 p0.fAuthorities.length cp0_2, .slice Ap0_3 p0.fExtras.length cp0_3] 62 (0, 0)) :: H, R, φ⟩ (fun _ h => h) ?_
     refine c_cond rfl (fun h6 => ?_) (fun h6 => ?_)
     ·
      replace hm := ite_t hm (of_decide_eq_true h6)
      refine c_seq <| c_region <| g_v rfl r_assign <| g_v rfl r_assign <| g_nil <| d_then <| c_ret <| d_ret_then ?_
      replace hm := Option.some.inj hm
      subst hm
      refine d_retC () Try.results86 ?_ trivial (fun W h => ok_pre (H1 := [_]) (R1 := []) h (fun W hφ => hφ)) (.inr rfl)
      refine res_tmp <| res_tmp <| res_nil ?_
      exact rfl
     ·
      replace hm := ite_f hm (of_decide_eq_false h6)
      refine c_skip <| d_then <| c_seq <| c_region ?_
      replace hm := bnd hm
      obtain ⟨x7, hx8, hm⟩ := hm
      refine g_cn ⟨w0, M, _, _, φ⟩ (fun _ h => h) Try.call20 rfl rfl (c_pack_New  _ hx8) (fun ⟨A9, c10, A12, c13, g15⟩ ⟨hc10, hc13⟩ => ?_)
      refine g_sta _ (fun W h => (ok_frontR (t := 2000) (t' := 100460) (ok_frontR (t := 2001) (t' := 100461) (ok_front (t := 3000) (t' := 100465) h rfl) rfl) rfl)) ?_
      refine g_e rfl (e_alloc 100040 Try.zeroValue33) (fun g16 _ => ?_)
      refine g_storeL (tag := 100040) rfl rfl rfl rfl Try.sizeOf33 rfl rfl <| g_nil <| d_then <| c_seq <| c_region <| g_v rfl (r_load (tag := 100040) rfl rfl rfl Try.isAgg33) <| g_v rfl (r_field (n := 0) Try.underlying62 rfl Try.sizeOf24 rfl rfl) <| g_v rfl (r_load (tag := 100010) rfl rfl rfl Try.isAgg24) ?_
      replace hm := bnd hm
      obtain ⟨x17, hx18, hm⟩ := hm
      refine g_cn ⟨w0, M, (1000, g15, .cells #[.slice A9 x7.fb.length c10, mapV A12] 100 (0, 0)) :: (100040, g16, .cells #[.pointer (some ⟨g15, 0, none⟩)] 33 (0, 0)) :: (100010, g1, .cells #[.int .u16 p0.fID, .bool p0.fResponse, .bool p0.fAuthoritative, .bool p0.fTruncated, .bool p0.fDesired, .bool p0.fAvailable, .int .i64 p0.fOpcode, .int .i64 p0.fCode, .slice Ap0_0 p0.fQuestions.length cp0_0, .slice Ap0_1 p0.fAnswers.length cp0_1, .slice Ap0_2 p0.fAuthorities.length cp0_2, .slice Ap0_3 p0.fExtras.length cp0_3] 62 (0, 0)) :: H, (1000, ⟨.slice A9 x7.fb.length c10, 5, 1, x7.fb.length, x7.fb.flatMap (fun x : Int => [Value.int .u8 x])⟩) :: (1001, ⟨mapV A12, 98, 2, x7.fplaces.length, x7.fplaces.flatMap (mcell (fun x : ByteArray => Value.string x) (fun x : Int => Value.int .i64 x))⟩) :: R, φ⟩ (fun W h => (ok_front (t := 100465) (t' := 1000) (ok_frontR (t := 100460) (t' := 1000) (ok_frontR (t := 100461) (t' := 1001) h rfl) rfl) rfl)) Try.call69 rfl rfl (c_pack_Packer_Word p0.fID g15 x7 A9 c10 hc10 A12 c13 trivial _ hx18) (fun ⟨A19, c20, A22, c23⟩ ⟨hc20, hc23⟩ => ?_)
      refine g_sta _ (fun W h => (ok_frontR (t := 2000) (t' := 100460) (ok_frontR (t := 2001) (t' := 100461) (ok_front (t := 1000) (t' := 100465) h rfl) rfl) rfl)) <| g_nil <| d_then <| c_seq <| ga_start (n := 23) ⟨w0, M, (100465, g15, .cells #[.slice A19 x17.fb.length c20, mapV A22] 100 (0, 0)) :: (100040, g16, .cells #[.pointer (some ⟨g15, 0, none⟩)] 33 (0, 0)) :: (100010, g1, .cells #[.int .u16 p0.fID, .bool p0.fResponse, .bool p0.fAuthoritative, .bool p0.fTruncated, .bool p0.fDesired, .bool p0.fAvailable, .int .i64 p0.fOpcode, .int .i64 p0.fCode, .slice Ap0_0 p0.fQuestions.length cp0_0, .slice Ap0_1 p0.fAnswers.length cp0_1, .slice Ap0_2 p0.fAuthorities.length cp0_2, .slice Ap0_3 p0.fExtras.length cp0_3] 62 (0, 0)) :: H, (100460, ⟨.slice A19 x17.fb.length c20, 5, 1, x17.fb.length, x17.fb.flatMap (fun x : Int => [Value.int .u8 x])⟩) :: (100461, ⟨mapV A22, 98, 2, x17.fplaces.length, x17.fplaces.flatMap (mcell (fun x : ByteArray => Value.string x) (fun x : Int => Value.int .i64 x))⟩) :: R, φ⟩ [] #[false, false, false, false, false, false, false, false, false, false, false, false, false, false, false, false, false, false, false, false, false, false, false] (fun W h => h.phi (fun W hφ => hφ)) mixed rfl rfl <| ga_v (i := 0) (bz 23 1) rfl (by kernel_rfl) (fun _ _ _ _ h => h) rfl (r_field (n := 6) Try.underlying62 rfl Try.sizeOf3 rfl rfl) <| ga_v (i := 1) (bz 23 3) rfl (by kernel_rfl) (fun _ _ _ _ h => h) rfl (r_load (tag := 100010) rfl rfl rfl Try.isAgg3) <| ga_v (i := 2) (bz 23 7) rfl (by kernel_rfl) (fun _ _ _ _ h => h) rfl (r_shl (n := 2048) rfl rfl (by decide) (by decide) (by decide)) <| ga_v (i := 3) (bz 23 15) rfl (by kernel_rfl) (fun _ _ _ _ h => h) rfl (r_field (n := 7) Try.underlying62 rfl Try.sizeOf3 rfl rfl) <| ga_v (i := 4) (bz 23 31) rfl (by kernel_rfl) (fun _ _ _ _ h => h) rfl (r_load (tag := 100010) rfl rfl rfl Try.isAgg3) ?_
      refine ga_v (i := 5) (bz 23 63) rfl (by kernel_rfl) (fun _ _ _ _ h => h) rfl (r_bits_or rfl rfl) <| ga_v (i := 6) (bz 23 127) rfl (by kernel_rfl) (fun _ _ _ _ h => h) rfl (r_conv Try.underlying3 Try.underlying132 rfl rfl) <| ga_v (i := 7) (bz 23 255) rfl (by kernel_rfl) (fun _ _ _ _ h => h) rfl (r_field (n := 1) Try.underlying62 rfl Try.sizeOf4 rfl rfl) <| ga_v (i := 8) (bz 23 511) rfl (by kernel_rfl) (fun _ _ _ _ h => h) rfl (r_load (tag := 100010) rfl rfl rfl Try.isAgg4) <| ga_v (i := 10) (bz 23 1535) rfl (by kernel_rfl) (fun _ _ _ _ h => h) rfl (r_field (n := 2) Try.underlying62 rfl Try.sizeOf4 rfl rfl) <| ga_v (i := 11) (bz 23 3583) rfl (by kernel_rfl) (fun _ _ _ _ h => h) rfl (r_load (tag := 100010) rfl rfl rfl Try.isAgg4) <| ga_v (i := 13) (bz 23 11775) rfl (by kernel_rfl) (fun _ _ _ _ h => h) rfl (r_field (n := 3) Try.underlying62 rfl Try.sizeOf4 rfl rfl) <| ga_v (i := 14) (bz 23 28159) rfl (by kernel_rfl) (fun _ _ _ _ h => h) rfl (r_load (tag := 100010) rfl rfl rfl Try.isAgg4) <| ga_v (i := 16) (bz 23 93695) rfl (by kernel_rfl) (fun _ _ _ _ h => h) rfl (r_field (n := 4) Try.underlying62 rfl Try.sizeOf4 rfl rfl) <| ga_v (i := 17) (bz 23 224767) rfl (by kernel_rfl) (fun _ _ _ _ h => h) rfl (r_load (tag := 100010) rfl rfl rfl Try.isAgg4) ?_
      refine ga_v (i := 19) (bz 23 749055) rfl (by kernel_rfl) (fun _ _ _ _ h => h) rfl (r_field (n := 5) Try.underlying62 rfl Try.sizeOf4 rfl rfl) <| ga_v (i := 20) (bz 23 1797631) rfl (by kernel_rfl) (fun _ _ _ _ h => h) rfl (r_load (tag := 100010) rfl rfl rfl Try.isAgg4) ?_
      replace hm := bnd hm
      obtain ⟨x45, hx46, hm⟩ := hm
      refine ga_cn (first := #[]) (i := 9) (bz 23 1798143) rfl (by kernel_rfl) (by decide)  ⟨w0, M, _, _, φ⟩ (fun _ h => h) Try.call110 rfl rfl rfl (c_message_flags_put (IntKind.u16.wrap (orI .i64 (w64 (p0.fOpcode * 2048)) p0.fCode)) 32768 p0.fResponse _ hx46) (fun _ W _ h => h.phi (fun W hφ => hφ)) (fun _ _ => ?_)
      replace hm := bnd hm
      obtain ⟨x47, hx48, hm⟩ := hm
      refine ga_cn (first := #[]) (i := 12) (bz 23 1802239) rfl (by kernel_rfl) (by decide)  ⟨w0, M, _, _, φ⟩ (fun _ h => h) Try.call110 rfl rfl rfl (c_message_flags_put x45 1024 p0.fAuthoritative _ hx48) (fun _ W _ h => h.phi (fun W hφ => hφ)) (fun _ _ => ?_)
      replace hm := bnd hm
      obtain ⟨x49, hx50, hm⟩ := hm
      refine ga_cn (first := #[]) (i := 15) (bz 23 1835007) rfl (by kernel_rfl) (by decide)  ⟨w0, M, _, _, φ⟩ (fun _ h => h) Try.call110 rfl rfl rfl (c_message_flags_put x47 512 p0.fTruncated _ hx50) (fun _ W _ h => h.phi (fun W hφ => hφ)) (fun _ _ => ?_)
      replace hm := bnd hm
      obtain ⟨x51, hx52, hm⟩ := hm
      refine ga_cn (first := #[]) (i := 18) (bz 23 2097151) rfl (by kernel_rfl) (by decide)  ⟨w0, M, _, _, φ⟩ (fun _ h => h) Try.call110 rfl rfl rfl (c_message_flags_put x49 256 p0.fDesired _ hx52) (fun _ W _ h => h.phi (fun W hφ => hφ)) (fun _ _ => ?_)
      replace hm := bnd hm
      obtain ⟨x53, hx54, hm⟩ := hm
      refine ga_cn (first := #[]) (i := 21) (bz 23 4194303) rfl (by kernel_rfl) (by decide)  ⟨w0, M, _, _, φ⟩ (fun _ h => h) Try.call110 rfl rfl rfl (c_message_flags_put x51 128 p0.fAvailable _ hx54) (fun _ W _ h => h.phi (fun W hφ => hφ)) (fun _ _ => ?_)
      refine ga_r (i := 22) (bz 23 8388607) rfl (by kernel_rfl) (by decide) rfl (r_assign) <| ga_done (by kernel_rfl) <| d_then ?_
      refine c_flat [(1, .pointer (some ⟨g1, 0, none⟩)), (4, .pointer (some ⟨g16, 0, none⟩)), (5, .int .u16 x53)] ⟨rfl, rfl, rfl, trivial⟩ (fun u => ?_)
      refine c_sta ⟨w0, M, (100465, g15, .cells #[.slice A19 x17.fb.length c20, mapV A22] 100 (0, 0)) :: (100040, g16, .cells #[.pointer (some ⟨g15, 0, none⟩)] 33 (0, 0)) :: (100010, g1, .cells #[.int .u16 p0.fID, .bool p0.fResponse, .bool p0.fAuthoritative, .bool p0.fTruncated, .bool p0.fDesired, .bool p0.fAvailable, .int .i64 p0.fOpcode, .int .i64 p0.fCode, .slice Ap0_0 p0.fQuestions.length cp0_0, .slice Ap0_1 p0.fAnswers.length cp0_1, .slice Ap0_2 p0.fAuthorities.length cp0_2, .slice Ap0_3 p0.fExtras.length cp0_3] 62 (0, 0)) :: H, (100460, ⟨.slice A19 x17.fb.length c20, 5, 1, x17.fb.length, x17.fb.flatMap (fun x : Int => [Value.int .u8 x])⟩) :: (100461, ⟨mapV A22, 98, 2, x17.fplaces.length, x17.fplaces.flatMap (mcell (fun x : ByteArray => Value.string x) (fun x : Int => Value.int .i64 x))⟩) :: R, φ⟩ (fun _ h => h) <| c_seq <| c_region <| g_v rfl (r_load (tag := 100040) rfl rfl rfl Try.isAgg33) <| g_v rfl r_move ?_
      replace hm := bnd hm
      obtain ⟨x55, hx56, hm⟩ := hm
      refine g_cn ⟨w0, M, (1000, g15, .cells #[.slice A19 x17.fb.length c20, mapV A22] 100 (0, 0)) :: (100040, g16, .cells #[.pointer (some ⟨g15, 0, none⟩)] 33 (0, 0)) :: (100010, g1, .cells #[.int .u16 p0.fID, .bool p0.fResponse, .bool p0.fAuthoritative, .bool p0.fTruncated, .bool p0.fDesired, .bool p0.fAvailable, .int .i64 p0.fOpcode, .int .i64 p0.fCode, .slice Ap0_0 p0.fQuestions.length cp0_0, .slice Ap0_1 p0.fAnswers.length cp0_1, .slice Ap0_2 p0.fAuthorities.length cp0_2, .slice Ap0_3 p0.fExtras.length cp0_3] 62 (0, 0)) :: H, (1000, ⟨.slice A19 x17.fb.length c20, 5, 1, x17.fb.length, x17.fb.flatMap (fun x : Int => [Value.int .u8 x])⟩) :: (1001, ⟨mapV A22, 98, 2, x17.fplaces.length, x17.fplaces.flatMap (mcell (fun x : ByteArray => Value.string x) (fun x : Int => Value.int .i64 x))⟩) :: R, φ⟩ (fun W h => (ok_front (t := 100465) (t' := 1000) (ok_frontR (t := 100460) (t' := 1000) (ok_frontR (t := 100461) (t' := 1001) h rfl) rfl) rfl)) Try.call69 rfl rfl (c_pack_Packer_Word x53 g15 x17 A19 c20 hc20 A22 c23 trivial _ hx56) (fun ⟨A57, c58, A60, c61⟩ ⟨hc58, hc61⟩ => ?_)
      refine g_sta _ (fun W h => (ok_frontR (t := 2000) (t' := 100460) (ok_frontR (t := 2001) (t' := 100461) (ok_front (t := 1000) (t' := 100465) h rfl) rfl) rfl)) <| g_nil <| d_then <| c_seq <| c_region <| g_v rfl (r_load (tag := 100040) rfl rfl rfl Try.isAgg33) <| g_v rfl (r_field (n := 8) Try.underlying62 rfl Try.sizeOf60 rfl rfl) <| g_v rfl (r_load (tag := 100010) rfl rfl rfl Try.isAgg60) <| g_v rfl (r_lenL Try.underlying60 rfl) <| g_v rfl (r_conv Try.underlying3 Try.underlying24 rfl rfl) ?_
      replace hm := bnd hm
      obtain ⟨x63, hx64, hm⟩ := hm
      refine g_cn ⟨w0, M, (1000, g15, .cells #[.slice A57 x55.fb.length c58, mapV A60] 100 (0, 0)) :: (100040, g16, .cells #[.pointer (some ⟨g15, 0, none⟩)] 33 (0, 0)) :: (100010, g1, .cells #[.int .u16 p0.fID, .bool p0.fResponse, .bool p0.fAuthoritative, .bool p0.fTruncated, .bool p0.fDesired, .bool p0.fAvailable, .int .i64 p0.fOpcode, .int .i64 p0.fCode, .slice Ap0_0 p0.fQuestions.length cp0_0, .slice Ap0_1 p0.fAnswers.length cp0_1, .slice Ap0_2 p0.fAuthorities.length cp0_2, .slice Ap0_3 p0.fExtras.length cp0_3] 62 (0, 0)) :: H, (1000, ⟨.slice A57 x55.fb.length c58, 5, 1, x55.fb.length, x55.fb.flatMap (fun x : Int => [Value.int .u8 x])⟩) :: (1001, ⟨mapV A60, 98, 2, x55.fplaces.length, x55.fplaces.flatMap (mcell (fun x : ByteArray => Value.string x) (fun x : Int => Value.int .i64 x))⟩) :: R, φ⟩ (fun W h => (ok_front (t := 100465) (t' := 1000) (ok_frontR (t := 100460) (t' := 1000) (ok_frontR (t := 100461) (t' := 1001) h rfl) rfl) rfl)) Try.call69 rfl rfl (c_pack_Packer_Word (IntKind.u16.wrap (p0.fQuestions.length : Int)) g15 x55 A57 c58 hc58 A60 c61 trivial _ hx64) (fun ⟨A65, c66, A68, c69⟩ ⟨hc66, hc69⟩ => ?_)
      refine g_sta _ (fun W h => (ok_frontR (t := 2000) (t' := 100460) (ok_frontR (t := 2001) (t' := 100461) (ok_front (t := 1000) (t' := 100465) h rfl) rfl) rfl)) <| g_nil <| d_then ?_
      refine c_flat [(1, .pointer (some ⟨g1, 0, none⟩)), (4, .pointer (some ⟨g16, 0, none⟩))] ⟨rfl, rfl, trivial⟩ (fun u => ?_)
      refine c_sta ⟨w0, M, (100465, g15, .cells #[.slice A65 x63.fb.length c66, mapV A68] 100 (0, 0)) :: (100040, g16, .cells #[.pointer (some ⟨g15, 0, none⟩)] 33 (0, 0)) :: (100010, g1, .cells #[.int .u16 p0.fID, .bool p0.fResponse, .bool p0.fAuthoritative, .bool p0.fTruncated, .bool p0.fDesired, .bool p0.fAvailable, .int .i64 p0.fOpcode, .int .i64 p0.fCode, .slice Ap0_0 p0.fQuestions.length cp0_0, .slice Ap0_1 p0.fAnswers.length cp0_1, .slice Ap0_2 p0.fAuthorities.length cp0_2, .slice Ap0_3 p0.fExtras.length cp0_3] 62 (0, 0)) :: H, (100460, ⟨.slice A65 x63.fb.length c66, 5, 1, x63.fb.length, x63.fb.flatMap (fun x : Int => [Value.int .u8 x])⟩) :: (100461, ⟨mapV A68, 98, 2, x63.fplaces.length, x63.fplaces.flatMap (mcell (fun x : ByteArray => Value.string x) (fun x : Int => Value.int .i64 x))⟩) :: R, φ⟩ (fun _ h => h) <| c_seq <| c_seq <| c_region <| g_v rfl (r_loadA (tag := 100010) rfl rfl Try.isAgg62 Try.sizeOf62 rfl rfl) ?_
      replace hm := bnd hm
      obtain ⟨x71, hx72, hm⟩ := hm
      refine g_cn ⟨w0, M, _, _, φ⟩ (fun _ h => h) Try.call111 rfl rfl (c_message_sections p0 Ap0_0 cp0_0 hcp0_0 (fun W hS => fp0_0 W (ok_pre (H1 := [_, _, _]) (R1 := [_, _]) hS (fun W h => h))) Ap0_1 cp0_1 hcp0_1 (fun W h => fp0_1 W h) Ap0_2 cp0_2 hcp0_2 (fun W h => fp0_2 W h) Ap0_3 cp0_3 hcp0_3 (fun W h => fp0_3 W h) _ hx72) (fun ⟨A73, c74, A76, c77, A79, c80⟩ ⟨hc74, hc77, hc80⟩ => ?_)
      refine g_abs (fun φ82 q82' => ?_)
      have q82 : ∀ W, φ82 W → φ W := fun W h => (q82' W h).1
      have f75 := fun (W : World) (h : φ82 W) => (q82' W h).2.1
      have f78 := fun (W : World) (h : φ82 W) => (q82' W h).2.2.1
      have f81 := fun (W : World) (h : φ82 W) => (q82' W h).2.2.2
      refine g_v rfl r_move <| g_nil <| d_then <| c_block <| c_rounds 64 <| c_seq <| c_region <| g_v rfl (r_lss rfl rfl) <| g_nil <| d_then ?_
      refine c_seq <| c_cond1 rfl (by decide) <| c_skip <| d_then <| c_seq <| c_block <| c_seq <| c_region <| g_v rfl (r_indexA Try.underlying153 Try.sizeOf32 Try.isAgg32 rfl rfl rfl rfl) <| g_v rfl r_assign ?_
      refine g_nil <| d_then <| c_region <| g_v rfl (r_load (tag := 100040) rfl rfl rfl Try.isAgg33) <| g_v rfl r_move <| g_v rfl (r_lenL Try.underlying32 rfl) <| g_v rfl (r_conv Try.underlying3 Try.underlying24 rfl rfl) ?_
      replace hm := bnd hm
      obtain ⟨x83, hx84, hm⟩ := hm
      refine g_cn ⟨w0, M, (1000, g15, .cells #[.slice A65 x63.fb.length c66, mapV A68] 100 (0, 0)) :: (100040, g16, .cells #[.pointer (some ⟨g15, 0, none⟩)] 33 (0, 0)) :: (100010, g1, .cells #[.int .u16 p0.fID, .bool p0.fResponse, .bool p0.fAuthoritative, .bool p0.fTruncated, .bool p0.fDesired, .bool p0.fAvailable, .int .i64 p0.fOpcode, .int .i64 p0.fCode, .slice Ap0_0 p0.fQuestions.length cp0_0, .slice Ap0_1 p0.fAnswers.length cp0_1, .slice Ap0_2 p0.fAuthorities.length cp0_2, .slice Ap0_3 p0.fExtras.length cp0_3] 62 (0, 0)) :: H, (1000, ⟨.slice A65 x63.fb.length c66, 5, 1, x63.fb.length, x63.fb.flatMap (fun x : Int => [Value.int .u8 x])⟩) :: (1001, ⟨mapV A68, 98, 2, x63.fplaces.length, x63.fplaces.flatMap (mcell (fun x : ByteArray => Value.string x) (fun x : Int => Value.int .i64 x))⟩) :: R, φ82⟩ (fun W h => (ok_front (t := 100465) (t' := 1000) (ok_frontR (t := 100460) (t' := 1000) (ok_frontR (t := 100461) (t' := 1001) h rfl) rfl) rfl)) Try.call69 rfl rfl (c_pack_Packer_Word (IntKind.u16.wrap (x71.a0.length : Int)) g15 x63 A65 c66 hc66 A68 c69 trivial _ hx84) (fun ⟨A85, c86, A88, c89⟩ ⟨hc86, hc89⟩ => ?_)
      refine g_sta _ (fun W h => (ok_frontR (t := 2000) (t' := 100460) (ok_frontR (t := 2001) (t' := 100461) (ok_front (t := 1000) (t' := 100465) h rfl) rfl) rfl)) <| g_nil <| d_normal_block <| d_then ?_
      refine c_flat [(1, .pointer (some ⟨g1, 0, none⟩)), (4, .pointer (some ⟨g16, 0, none⟩)), (83, .agg #[.slice A73 x71.a0.length c74, .slice A76 x71.a1.length c77, .slice A79 x71.a2.length c80]), (84, .int .i64 0)] ⟨rfl, rfl, rfl, rfl, trivial⟩ (fun u => ?_)
      refine c_sta ⟨w0, M, (100465, g15, .cells #[.slice A85 x83.fb.length c86, mapV A88] 100 (0, 0)) :: (100040, g16, .cells #[.pointer (some ⟨g15, 0, none⟩)] 33 (0, 0)) :: (100010, g1, .cells #[.int .u16 p0.fID, .bool p0.fResponse, .bool p0.fAuthoritative, .bool p0.fTruncated, .bool p0.fDesired, .bool p0.fAvailable, .int .i64 p0.fOpcode, .int .i64 p0.fCode, .slice Ap0_0 p0.fQuestions.length cp0_0, .slice Ap0_1 p0.fAnswers.length cp0_1, .slice Ap0_2 p0.fAuthorities.length cp0_2, .slice Ap0_3 p0.fExtras.length cp0_3] 62 (0, 0)) :: H, (100460, ⟨.slice A85 x83.fb.length c86, 5, 1, x83.fb.length, x83.fb.flatMap (fun x : Int => [Value.int .u8 x])⟩) :: (100461, ⟨mapV A88, 98, 2, x83.fplaces.length, x83.fplaces.flatMap (mcell (fun x : ByteArray => Value.string x) (fun x : Int => Value.int .i64 x))⟩) :: R, φ82⟩ (fun _ h => h) <| c_region <| g_v rfl (r_add rfl rfl (show IntKind.i64.wrap (0 + 1) = 1 by decide)) <| g_v rfl r_move <| g_nil <| d_rounds ?_
      refine c_flat [(1, .pointer (some ⟨g1, 0, none⟩)), (4, .pointer (some ⟨g16, 0, none⟩)), (83, .agg #[.slice A73 x71.a0.length c74, .slice A76 x71.a1.length c77, .slice A79 x71.a2.length c80]), (84, .int .i64 1)] ⟨rfl, rfl, rfl, rfl, trivial⟩ (fun u => ?_)
      refine c_seq <| c_region <| g_v rfl (r_lss rfl rfl) <| g_nil <| d_then <| c_seq <| c_cond1 rfl (by decide) <| c_skip <| d_then <| c_seq ?_
      refine c_block <| c_seq <| c_region <| g_v rfl (r_indexA Try.underlying153 Try.sizeOf32 Try.isAgg32 rfl rfl rfl rfl) <| g_v rfl r_assign <| g_nil <| d_then <| c_region <| g_v rfl (r_load (tag := 100040) rfl rfl rfl Try.isAgg33) <| g_v rfl r_move ?_
      refine g_v rfl (r_lenL Try.underlying32 rfl) <| g_v rfl (r_conv Try.underlying3 Try.underlying24 rfl rfl) ?_
      replace hm := bnd hm
      obtain ⟨x91, hx92, hm⟩ := hm
      refine g_cn ⟨w0, M, (1000, g15, .cells #[.slice A85 x83.fb.length c86, mapV A88] 100 (0, 0)) :: (100040, g16, .cells #[.pointer (some ⟨g15, 0, none⟩)] 33 (0, 0)) :: (100010, g1, .cells #[.int .u16 p0.fID, .bool p0.fResponse, .bool p0.fAuthoritative, .bool p0.fTruncated, .bool p0.fDesired, .bool p0.fAvailable, .int .i64 p0.fOpcode, .int .i64 p0.fCode, .slice Ap0_0 p0.fQuestions.length cp0_0, .slice Ap0_1 p0.fAnswers.length cp0_1, .slice Ap0_2 p0.fAuthorities.length cp0_2, .slice Ap0_3 p0.fExtras.length cp0_3] 62 (0, 0)) :: H, (1000, ⟨.slice A85 x83.fb.length c86, 5, 1, x83.fb.length, x83.fb.flatMap (fun x : Int => [Value.int .u8 x])⟩) :: (1001, ⟨mapV A88, 98, 2, x83.fplaces.length, x83.fplaces.flatMap (mcell (fun x : ByteArray => Value.string x) (fun x : Int => Value.int .i64 x))⟩) :: R, φ82⟩ (fun W h => (ok_front (t := 100465) (t' := 1000) (ok_frontR (t := 100460) (t' := 1000) (ok_frontR (t := 100461) (t' := 1001) h rfl) rfl) rfl)) Try.call69 rfl rfl (c_pack_Packer_Word (IntKind.u16.wrap (x71.a1.length : Int)) g15 x83 A85 c86 hc86 A88 c89 trivial _ hx92) (fun ⟨A93, c94, A96, c97⟩ ⟨hc94, hc97⟩ => ?_)
      refine g_sta _ (fun W h => (ok_frontR (t := 2000) (t' := 100460) (ok_frontR (t := 2001) (t' := 100461) (ok_front (t := 1000) (t' := 100465) h rfl) rfl) rfl)) <| g_nil <| d_normal_block <| d_then <| c_region <| g_v rfl (r_add rfl rfl (show IntKind.i64.wrap (1 + 1) = 2 by decide)) <| g_v rfl r_move <| g_nil <| d_rounds ?_
      refine c_flat [(1, .pointer (some ⟨g1, 0, none⟩)), (4, .pointer (some ⟨g16, 0, none⟩)), (83, .agg #[.slice A73 x71.a0.length c74, .slice A76 x71.a1.length c77, .slice A79 x71.a2.length c80]), (84, .int .i64 2)] ⟨rfl, rfl, rfl, rfl, trivial⟩ (fun u => ?_)
      refine c_sta ⟨w0, M, (100465, g15, .cells #[.slice A93 x91.fb.length c94, mapV A96] 100 (0, 0)) :: (100040, g16, .cells #[.pointer (some ⟨g15, 0, none⟩)] 33 (0, 0)) :: (100010, g1, .cells #[.int .u16 p0.fID, .bool p0.fResponse, .bool p0.fAuthoritative, .bool p0.fTruncated, .bool p0.fDesired, .bool p0.fAvailable, .int .i64 p0.fOpcode, .int .i64 p0.fCode, .slice Ap0_0 p0.fQuestions.length cp0_0, .slice Ap0_1 p0.fAnswers.length cp0_1, .slice Ap0_2 p0.fAuthorities.length cp0_2, .slice Ap0_3 p0.fExtras.length cp0_3] 62 (0, 0)) :: H, (100460, ⟨.slice A93 x91.fb.length c94, 5, 1, x91.fb.length, x91.fb.flatMap (fun x : Int => [Value.int .u8 x])⟩) :: (100461, ⟨mapV A96, 98, 2, x91.fplaces.length, x91.fplaces.flatMap (mcell (fun x : ByteArray => Value.string x) (fun x : Int => Value.int .i64 x))⟩) :: R, φ82⟩ (fun _ h => h) <| c_seq <| c_region <| g_v rfl (r_lss rfl rfl) <| g_nil <| d_then <| c_seq <| c_cond1 rfl (by decide) <| c_skip <| d_then ?_
      refine c_seq <| c_block <| c_seq <| c_region <| g_v rfl (r_indexA Try.underlying153 Try.sizeOf32 Try.isAgg32 rfl rfl rfl rfl) <| g_v rfl r_assign <| g_nil <| d_then <| c_region <| g_v rfl (r_load (tag := 100040) rfl rfl rfl Try.isAgg33) ?_
      refine g_v rfl r_move <| g_v rfl (r_lenL Try.underlying32 rfl) <| g_v rfl (r_conv Try.underlying3 Try.underlying24 rfl rfl) ?_
      replace hm := bnd hm
      obtain ⟨x99, hx100, hm⟩ := hm
      refine g_cn ⟨w0, M, (1000, g15, .cells #[.slice A93 x91.fb.length c94, mapV A96] 100 (0, 0)) :: (100040, g16, .cells #[.pointer (some ⟨g15, 0, none⟩)] 33 (0, 0)) :: (100010, g1, .cells #[.int .u16 p0.fID, .bool p0.fResponse, .bool p0.fAuthoritative, .bool p0.fTruncated, .bool p0.fDesired, .bool p0.fAvailable, .int .i64 p0.fOpcode, .int .i64 p0.fCode, .slice Ap0_0 p0.fQuestions.length cp0_0, .slice Ap0_1 p0.fAnswers.length cp0_1, .slice Ap0_2 p0.fAuthorities.length cp0_2, .slice Ap0_3 p0.fExtras.length cp0_3] 62 (0, 0)) :: H, (1000, ⟨.slice A93 x91.fb.length c94, 5, 1, x91.fb.length, x91.fb.flatMap (fun x : Int => [Value.int .u8 x])⟩) :: (1001, ⟨mapV A96, 98, 2, x91.fplaces.length, x91.fplaces.flatMap (mcell (fun x : ByteArray => Value.string x) (fun x : Int => Value.int .i64 x))⟩) :: R, φ82⟩ (fun W h => (ok_front (t := 100465) (t' := 1000) (ok_frontR (t := 100460) (t' := 1000) (ok_frontR (t := 100461) (t' := 1001) h rfl) rfl) rfl)) Try.call69 rfl rfl (c_pack_Packer_Word (IntKind.u16.wrap (x71.a2.length : Int)) g15 x91 A93 c94 hc94 A96 c97 trivial _ hx100) (fun ⟨A101, c102, A104, c105⟩ ⟨hc102, hc105⟩ => ?_)
      refine g_sta _ (fun W h => (ok_frontR (t := 2000) (t' := 100460) (ok_frontR (t := 2001) (t' := 100461) (ok_front (t := 1000) (t' := 100465) h rfl) rfl) rfl)) <| g_nil <| d_normal_block <| d_then <| c_region <| g_v rfl (r_add rfl rfl (show IntKind.i64.wrap (2 + 1) = 3 by decide)) <| g_v rfl r_move <| g_nil <| d_rounds ?_
      refine c_flat [(1, .pointer (some ⟨g1, 0, none⟩)), (4, .pointer (some ⟨g16, 0, none⟩)), (83, .agg #[.slice A73 x71.a0.length c74, .slice A76 x71.a1.length c77, .slice A79 x71.a2.length c80]), (84, .int .i64 3)] ⟨rfl, rfl, rfl, rfl, trivial⟩ (fun u => ?_)
      refine c_sta ⟨w0, M, (100465, g15, .cells #[.slice A101 x99.fb.length c102, mapV A104] 100 (0, 0)) :: (100040, g16, .cells #[.pointer (some ⟨g15, 0, none⟩)] 33 (0, 0)) :: (100010, g1, .cells #[.int .u16 p0.fID, .bool p0.fResponse, .bool p0.fAuthoritative, .bool p0.fTruncated, .bool p0.fDesired, .bool p0.fAvailable, .int .i64 p0.fOpcode, .int .i64 p0.fCode, .slice Ap0_0 p0.fQuestions.length cp0_0, .slice Ap0_1 p0.fAnswers.length cp0_1, .slice Ap0_2 p0.fAuthorities.length cp0_2, .slice Ap0_3 p0.fExtras.length cp0_3] 62 (0, 0)) :: H, (100460, ⟨.slice A101 x99.fb.length c102, 5, 1, x99.fb.length, x99.fb.flatMap (fun x : Int => [Value.int .u8 x])⟩) :: (100461, ⟨mapV A104, 98, 2, x99.fplaces.length, x99.fplaces.flatMap (mcell (fun x : ByteArray => Value.string x) (fun x : Int => Value.int .i64 x))⟩) :: R, φ82⟩ (fun _ h => h) <| c_seq <| c_region <| g_v rfl (r_lss rfl rfl) <| g_nil <| d_then <| c_seq <| c_cond0 rfl (by decide) <| c_exit <| d_exit_then ?_
      refine d_exit_then <| d_exit_block <| d_then <| c_seq <| c_region <| g_v rfl (r_field (n := 8) Try.underlying62 rfl Try.sizeOf60 rfl rfl) <| g_v rfl (r_load (tag := 100010) rfl rfl rfl Try.isAgg60) <| g_v rfl (r_mkf rfl) ?_
      replace hm := bnd hm
      obtain ⟨⟨x107, x108⟩, hx109, hm⟩ := hm
      refine g_cn ⟨w0, M, (1000, g16, .cells #[.pointer (some ⟨g15, 0, none⟩)] 33 (0, 0)) :: (1001, g15, .cells #[.slice A101 x99.fb.length c102, mapV A104] 100 (0, 0)) :: (100010, g1, .cells #[.int .u16 p0.fID, .bool p0.fResponse, .bool p0.fAuthoritative, .bool p0.fTruncated, .bool p0.fDesired, .bool p0.fAvailable, .int .i64 p0.fOpcode, .int .i64 p0.fCode, .slice Ap0_0 p0.fQuestions.length cp0_0, .slice Ap0_1 p0.fAnswers.length cp0_1, .slice Ap0_2 p0.fAuthorities.length cp0_2, .slice Ap0_3 p0.fExtras.length cp0_3] 62 (0, 0)) :: H, (1000, ⟨.slice A101 x99.fb.length c102, 5, 1, x99.fb.length, x99.fb.flatMap (fun x : Int => [Value.int .u8 x])⟩) :: (1001, ⟨mapV A104, 98, 2, x99.fplaces.length, x99.fplaces.flatMap (mcell (fun x : ByteArray => Value.string x) (fun x : Int => Value.int .i64 x))⟩) :: R, φ82⟩ (fun W h => (ok_front (t := 100040) (t' := 1000) (ok_front (t := 100465) (t' := 1001) (ok_frontR (t := 100460) (t' := 1000) (ok_frontR (t := 100461) (t' := 1001) h rfl) rfl) rfl) rfl)) Try.call112 rfl rfl (c_message_each_112 p0.fQuestions Ap0_0 cp0_0 hcp0_0 (fun W hS => fp0_0 W (ok_pre (H1 := [_]) (R1 := []) hS (fun W h => (q82 _ h)))) g16 g15 x99 A101 c102 hc102 A104 c105 trivial _ hx109) (fun ⟨A110, c111, A113, c114⟩ ⟨hc111, hc114⟩ => ?_)
      refine g_sta _ (fun W h => (ok_frontR (t := 2000) (t' := 100460) (ok_frontR (t := 2001) (t' := 100461) (ok_front (t := 1000) (t' := 100040) (ok_front (t := 1001) (t' := 100465) h rfl) rfl) rfl) rfl)) <| g_v rfl r_assign <| g_nil <| d_then <| c_seq <| c_seq <| c_region <| g_v rfl r_move <| g_v rfl (r_neq rfl rfl) <| g_nil ?_
      refine d_then ?_
      refine c_cond rfl (fun h117 => ?_) (fun h117 => ?_)
      ·
       replace hm := ite_t hm (of_decide_eq_true h117)
       refine c_seq <| c_region <| g_v rfl r_move <| g_v rfl r_assign <| g_v rfl r_assign <| g_nil <| d_then ?_
       refine c_flat [(2, .string (⟨#[]⟩ : ByteArray)), (3, .int .i64 x107)] ⟨rfl, rfl, trivial⟩ (fun u => ?_)
       refine c_sta ⟨w0, M, (100040, g16, .cells #[.pointer (some ⟨g15, 0, none⟩)] 33 (0, 0)) :: (100465, g15, .cells #[.slice A110 x108.fb.length c111, mapV A113] 100 (0, 0)) :: (100010, g1, .cells #[.int .u16 p0.fID, .bool p0.fResponse, .bool p0.fAuthoritative, .bool p0.fTruncated, .bool p0.fDesired, .bool p0.fAvailable, .int .i64 p0.fOpcode, .int .i64 p0.fCode, .slice Ap0_0 p0.fQuestions.length cp0_0, .slice Ap0_1 p0.fAnswers.length cp0_1, .slice Ap0_2 p0.fAuthorities.length cp0_2, .slice Ap0_3 p0.fExtras.length cp0_3] 62 (0, 0)) :: H, (100460, ⟨.slice A110 x108.fb.length c111, 5, 1, x108.fb.length, x108.fb.flatMap (fun x : Int => [Value.int .u8 x])⟩) :: (100461, ⟨mapV A113, 98, 2, x108.fplaces.length, x108.fplaces.flatMap (mcell (fun x : ByteArray => Value.string x) (fun x : Int => Value.int .i64 x))⟩) :: R, φ82⟩ (fun _ h => h) <| c_ret <| d_ret_then ?_
       replace hm := Option.some.inj hm
       subst hm
       refine d_retC () Try.results86 ?_ trivial (fun W h => ok_pre (H1 := [_, _, _]) (R1 := [_, _]) h (fun W hφ => (q82 _ hφ))) (.inr rfl)
       refine res_tmp <| res_tmp <| res_nil ?_
       exact rfl
      ·
       replace hm := ite_f hm (of_decide_eq_false h117)
       refine c_skip <| d_then <| c_seq <| c_seq <| c_region <| g_v rfl (r_loadA (tag := 100010) rfl rfl Try.isAgg62 Try.sizeOf62 rfl rfl) ?_
       replace hm := bnd hm
       obtain ⟨x118, hx119, hm⟩ := hm
       refine g_cn ⟨w0, M, _, _, φ82⟩ (fun _ h => h) Try.call111 rfl rfl (c_message_sections p0 Ap0_0 cp0_0 hcp0_0 (fun W hS => fp0_0 W (ok_pre (H1 := [_, _, _]) (R1 := [_, _]) hS (fun W h => (q82 _ h)))) Ap0_1 cp0_1 hcp0_1 (fun W h => fp0_1 W (q82 _ h)) Ap0_2 cp0_2 hcp0_2 (fun W h => fp0_2 W (q82 _ h)) Ap0_3 cp0_3 hcp0_3 (fun W h => fp0_3 W (q82 _ h)) _ hx119) (fun ⟨A120, c121, A123, c124, A126, c127⟩ ⟨hc121, hc124, hc127⟩ => ?_)
       refine g_abs (fun φ129 q129' => ?_)
       have q129 : ∀ W, φ129 W → φ82 W := fun W h => (q129' W h).1
       have f122 := fun (W : World) (h : φ129 W) => (q129' W h).2.1
       have f125 := fun (W : World) (h : φ129 W) => (q129' W h).2.2.1
       have f128 := fun (W : World) (h : φ129 W) => (q129' W h).2.2.2
       refine g_v rfl r_move <| g_nil <| d_then ?_
       refine c_flat [(4, .pointer (some ⟨g16, 0, none⟩)), (101, .agg #[.slice A120 x118.a0.length c121, .slice A123 x118.a1.length c124, .slice A126 x118.a2.length c127]), (102, .int .i64 0)] ⟨rfl, rfl, rfl, trivial⟩ (fun u => ?_)
       refine c_sta ⟨w0, M, (100040, g16, .cells #[.pointer (some ⟨g15, 0, none⟩)] 33 (0, 0)) :: (100465, g15, .cells #[.slice A110 x108.fb.length c111, mapV A113] 100 (0, 0)) :: (100010, g1, .cells #[.int .u16 p0.fID, .bool p0.fResponse, .bool p0.fAuthoritative, .bool p0.fTruncated, .bool p0.fDesired, .bool p0.fAvailable, .int .i64 p0.fOpcode, .int .i64 p0.fCode, .slice Ap0_0 p0.fQuestions.length cp0_0, .slice Ap0_1 p0.fAnswers.length cp0_1, .slice Ap0_2 p0.fAuthorities.length cp0_2, .slice Ap0_3 p0.fExtras.length cp0_3] 62 (0, 0)) :: H, (100460, ⟨.slice A110 x108.fb.length c111, 5, 1, x108.fb.length, x108.fb.flatMap (fun x : Int => [Value.int .u8 x])⟩) :: (100461, ⟨mapV A113, 98, 2, x108.fplaces.length, x108.fplaces.flatMap (mcell (fun x : ByteArray => Value.string x) (fun x : Int => Value.int .i64 x))⟩) :: R, φ129⟩ (fun _ h => h) <| c_block <| c_rounds 64 <| c_seq <| c_region <| g_v rfl (r_lss rfl rfl) <| g_nil <| d_then <| c_seq <| c_cond1 rfl (by decide) ?_
       refine c_skip <| d_then <| c_seq <| c_block <| c_seq <| c_region <| g_v rfl (r_indexA Try.underlying153 Try.sizeOf32 Try.isAgg32 rfl rfl rfl rfl) <| g_v rfl r_assign <| g_nil <| d_then ?_
       refine c_seq <| c_region <| g_v rfl r_move <| g_v rfl (r_mkf rfl) ?_
       replace hm := bnd hm
       obtain ⟨⟨x130, x131⟩, hx132, hm⟩ := hm
       refine g_cn ⟨w0, M, (1000, g16, .cells #[.pointer (some ⟨g15, 0, none⟩)] 33 (0, 0)) :: (1001, g15, .cells #[.slice A110 x108.fb.length c111, mapV A113] 100 (0, 0)) :: (100010, g1, .cells #[.int .u16 p0.fID, .bool p0.fResponse, .bool p0.fAuthoritative, .bool p0.fTruncated, .bool p0.fDesired, .bool p0.fAvailable, .int .i64 p0.fOpcode, .int .i64 p0.fCode, .slice Ap0_0 p0.fQuestions.length cp0_0, .slice Ap0_1 p0.fAnswers.length cp0_1, .slice Ap0_2 p0.fAuthorities.length cp0_2, .slice Ap0_3 p0.fExtras.length cp0_3] 62 (0, 0)) :: H, (1000, ⟨.slice A110 x108.fb.length c111, 5, 1, x108.fb.length, x108.fb.flatMap (fun x : Int => [Value.int .u8 x])⟩) :: (1001, ⟨mapV A113, 98, 2, x108.fplaces.length, x108.fplaces.flatMap (mcell (fun x : ByteArray => Value.string x) (fun x : Int => Value.int .i64 x))⟩) :: R, φ129⟩ (fun W h => (ok_front (t := 100040) (t' := 1000) (ok_front (t := 100465) (t' := 1001) (ok_frontR (t := 100460) (t' := 1000) (ok_frontR (t := 100461) (t' := 1001) h rfl) rfl) rfl) rfl)) Try.call114 rfl rfl (c_message_each_114 x118.a0 A120 c121 hc121 (fun W hS => f122 W hS.now) g16 g15 x108 A110 c111 hc111 A113 c114 trivial _ hx132) (fun ⟨A133, c134, A136, c137⟩ ⟨hc134, hc137⟩ => ?_)
       refine g_sta _ (fun W h => (ok_frontR (t := 2000) (t' := 100460) (ok_frontR (t := 2001) (t' := 100461) (ok_front (t := 1000) (t' := 100040) (ok_front (t := 1001) (t' := 100465) h rfl) rfl) rfl) rfl)) <| g_v rfl r_assign <| g_nil <| d_then <| c_seq <| c_region <| g_v rfl r_move <| g_v rfl (r_neq rfl rfl) <| g_nil <| d_then ?_
       refine c_flat [(4, .pointer (some ⟨g16, 0, none⟩)), (11, .int .i64 x130), (101, .agg #[.slice A120 x118.a0.length c121, .slice A123 x118.a1.length c124, .slice A126 x118.a2.length c127]), (102, .int .i64 0), (109, .bool (decide (x130 ≠ 0)))] ⟨rfl, rfl, rfl, rfl, rfl, trivial⟩ (fun u => ?_)
       refine c_sta ⟨w0, M, (100040, g16, .cells #[.pointer (some ⟨g15, 0, none⟩)] 33 (0, 0)) :: (100465, g15, .cells #[.slice A133 x131.fb.length c134, mapV A136] 100 (0, 0)) :: (100010, g1, .cells #[.int .u16 p0.fID, .bool p0.fResponse, .bool p0.fAuthoritative, .bool p0.fTruncated, .bool p0.fDesired, .bool p0.fAvailable, .int .i64 p0.fOpcode, .int .i64 p0.fCode, .slice Ap0_0 p0.fQuestions.length cp0_0, .slice Ap0_1 p0.fAnswers.length cp0_1, .slice Ap0_2 p0.fAuthorities.length cp0_2, .slice Ap0_3 p0.fExtras.length cp0_3] 62 (0, 0)) :: H, (100460, ⟨.slice A133 x131.fb.length c134, 5, 1, x131.fb.length, x131.fb.flatMap (fun x : Int => [Value.int .u8 x])⟩) :: (100461, ⟨mapV A136, 98, 2, x131.fplaces.length, x131.fplaces.flatMap (mcell (fun x : ByteArray => Value.string x) (fun x : Int => Value.int .i64 x))⟩) :: R, φ129⟩ (fun _ h => h) ?_
       refine c_cond rfl (fun h140 => ?_) (fun h140 => ?_)
       ·
        replace hm := ite_t hm (of_decide_eq_true h140)
        refine c_seq <| c_region <| g_v rfl r_move <| g_v rfl r_assign <| g_v rfl r_assign <| g_nil <| d_then <| c_ret <| d_ret_block <| d_ret_then ?_
        refine d_ret_then <| d_ret_block <| d_ret_then ?_
        replace hm := Option.some.inj hm
        subst hm
        refine d_retC () Try.results86 ?_ trivial (fun W h => ok_pre (H1 := [_, _, _]) (R1 := [_, _]) h (fun W hφ => (q82 _ (q129 _ hφ)))) (.inr rfl)
        refine res_tmp <| res_tmp <| res_nil ?_
        exact rfl
       ·
        replace hm := ite_f hm (of_decide_eq_false h140)
        refine c_skip <| d_normal_block <| d_then <| c_region <| g_v rfl (r_add rfl rfl (show IntKind.i64.wrap (0 + 1) = 1 by decide)) <| g_v rfl r_move <| g_nil <| d_rounds ?_
        refine c_flat [(4, .pointer (some ⟨g16, 0, none⟩)), (101, .agg #[.slice A120 x118.a0.length c121, .slice A123 x118.a1.length c124, .slice A126 x118.a2.length c127]), (102, .int .i64 1)] ⟨rfl, rfl, rfl, trivial⟩ (fun u => ?_)
        refine c_seq <| c_region <| g_v rfl (r_lss rfl rfl) <| g_nil <| d_then <| c_seq <| c_cond1 rfl (by decide) <| c_skip <| d_then <| c_seq ?_
        refine c_block <| c_seq <| c_region <| g_v rfl (r_indexA Try.underlying153 Try.sizeOf32 Try.isAgg32 rfl rfl rfl rfl) <| g_v rfl r_assign <| g_nil <| d_then <| c_seq <| c_region <| g_v rfl r_move ?_
        refine g_v rfl (r_mkf rfl) ?_
        replace hm := bnd hm
        obtain ⟨⟨x141, x142⟩, hx143, hm⟩ := hm
        refine g_cn ⟨w0, M, (1000, g16, .cells #[.pointer (some ⟨g15, 0, none⟩)] 33 (0, 0)) :: (1001, g15, .cells #[.slice A133 x131.fb.length c134, mapV A136] 100 (0, 0)) :: (100010, g1, .cells #[.int .u16 p0.fID, .bool p0.fResponse, .bool p0.fAuthoritative, .bool p0.fTruncated, .bool p0.fDesired, .bool p0.fAvailable, .int .i64 p0.fOpcode, .int .i64 p0.fCode, .slice Ap0_0 p0.fQuestions.length cp0_0, .slice Ap0_1 p0.fAnswers.length cp0_1, .slice Ap0_2 p0.fAuthorities.length cp0_2, .slice Ap0_3 p0.fExtras.length cp0_3] 62 (0, 0)) :: H, (1000, ⟨.slice A133 x131.fb.length c134, 5, 1, x131.fb.length, x131.fb.flatMap (fun x : Int => [Value.int .u8 x])⟩) :: (1001, ⟨mapV A136, 98, 2, x131.fplaces.length, x131.fplaces.flatMap (mcell (fun x : ByteArray => Value.string x) (fun x : Int => Value.int .i64 x))⟩) :: R, φ129⟩ (fun W h => (ok_front (t := 100040) (t' := 1000) (ok_front (t := 100465) (t' := 1001) (ok_frontR (t := 100460) (t' := 1000) (ok_frontR (t := 100461) (t' := 1001) h rfl) rfl) rfl) rfl)) Try.call114 rfl rfl (c_message_each_114 x118.a1 A123 c124 hc124 (fun W hS => f125 W hS.now) g16 g15 x131 A133 c134 hc134 A136 c137 trivial _ hx143) (fun ⟨A144, c145, A147, c148⟩ ⟨hc145, hc148⟩ => ?_)
        refine g_sta _ (fun W h => (ok_frontR (t := 2000) (t' := 100460) (ok_frontR (t := 2001) (t' := 100461) (ok_front (t := 1000) (t' := 100040) (ok_front (t := 1001) (t' := 100465) h rfl) rfl) rfl) rfl)) <| g_v rfl r_assign <| g_nil <| d_then <| c_seq <| c_region <| g_v rfl r_move <| g_v rfl (r_neq rfl rfl) <| g_nil <| d_then ?_
        refine c_flat [(4, .pointer (some ⟨g16, 0, none⟩)), (11, .int .i64 x141), (101, .agg #[.slice A120 x118.a0.length c121, .slice A123 x118.a1.length c124, .slice A126 x118.a2.length c127]), (102, .int .i64 1), (109, .bool (decide (x141 ≠ 0)))] ⟨rfl, rfl, rfl, rfl, rfl, trivial⟩ (fun u => ?_)
        refine c_sta ⟨w0, M, (100040, g16, .cells #[.pointer (some ⟨g15, 0, none⟩)] 33 (0, 0)) :: (100465, g15, .cells #[.slice A144 x142.fb.length c145, mapV A147] 100 (0, 0)) :: (100010, g1, .cells #[.int .u16 p0.fID, .bool p0.fResponse, .bool p0.fAuthoritative, .bool p0.fTruncated, .bool p0.fDesired, .bool p0.fAvailable, .int .i64 p0.fOpcode, .int .i64 p0.fCode, .slice Ap0_0 p0.fQuestions.length cp0_0, .slice Ap0_1 p0.fAnswers.length cp0_1, .slice Ap0_2 p0.fAuthorities.length cp0_2, .slice Ap0_3 p0.fExtras.length cp0_3] 62 (0, 0)) :: H, (100460, ⟨.slice A144 x142.fb.length c145, 5, 1, x142.fb.length, x142.fb.flatMap (fun x : Int => [Value.int .u8 x])⟩) :: (100461, ⟨mapV A147, 98, 2, x142.fplaces.length, x142.fplaces.flatMap (mcell (fun x : ByteArray => Value.string x) (fun x : Int => Value.int .i64 x))⟩) :: R, φ129⟩ (fun _ h => h) ?_
        refine c_cond rfl (fun h151 => ?_) (fun h151 => ?_)
        ·
         replace hm := ite_t hm (of_decide_eq_true h151)
         refine c_seq <| c_region <| g_v rfl r_move <| g_v rfl r_assign <| g_v rfl r_assign <| g_nil <| d_then <| c_ret <| d_ret_block <| d_ret_then ?_
         refine d_ret_then <| d_ret_block <| d_ret_then ?_
         replace hm := Option.some.inj hm
         subst hm
         refine d_retC () Try.results86 ?_ trivial (fun W h => ok_pre (H1 := [_, _, _]) (R1 := [_, _]) h (fun W hφ => (q82 _ (q129 _ hφ)))) (.inr rfl)
         refine res_tmp <| res_tmp <| res_nil ?_
         exact rfl
        ·
         replace hm := ite_f hm (of_decide_eq_false h151)
         refine c_skip <| d_normal_block <| d_then <| c_region <| g_v rfl (r_add rfl rfl (show IntKind.i64.wrap (1 + 1) = 2 by decide)) <| g_v rfl r_move <| g_nil <| d_rounds ?_
         refine c_flat [(4, .pointer (some ⟨g16, 0, none⟩)), (101, .agg #[.slice A120 x118.a0.length c121, .slice A123 x118.a1.length c124, .slice A126 x118.a2.length c127]), (102, .int .i64 2)] ⟨rfl, rfl, rfl, trivial⟩ (fun u => ?_)
         refine c_seq <| c_region <| g_v rfl (r_lss rfl rfl) <| g_nil <| d_then <| c_seq <| c_cond1 rfl (by decide) <| c_skip <| d_then <| c_seq ?_
         refine c_block <| c_seq <| c_region <| g_v rfl (r_indexA Try.underlying153 Try.sizeOf32 Try.isAgg32 rfl rfl rfl rfl) <| g_v rfl r_assign <| g_nil <| d_then <| c_seq <| c_region <| g_v rfl r_move ?_
         refine g_v rfl (r_mkf rfl) ?_
         replace hm := bnd hm
         obtain ⟨⟨x152, x153⟩, hx154, hm⟩ := hm
         refine g_cn ⟨w0, M, (1000, g16, .cells #[.pointer (some ⟨g15, 0, none⟩)] 33 (0, 0)) :: (1001, g15, .cells #[.slice A144 x142.fb.length c145, mapV A147] 100 (0, 0)) :: (100010, g1, .cells #[.int .u16 p0.fID, .bool p0.fResponse, .bool p0.fAuthoritative, .bool p0.fTruncated, .bool p0.fDesired, .bool p0.fAvailable, .int .i64 p0.fOpcode, .int .i64 p0.fCode, .slice Ap0_0 p0.fQuestions.length cp0_0, .slice Ap0_1 p0.fAnswers.length cp0_1, .slice Ap0_2 p0.fAuthorities.length cp0_2, .slice Ap0_3 p0.fExtras.length cp0_3] 62 (0, 0)) :: H, (1000, ⟨.slice A144 x142.fb.length c145, 5, 1, x142.fb.length, x142.fb.flatMap (fun x : Int => [Value.int .u8 x])⟩) :: (1001, ⟨mapV A147, 98, 2, x142.fplaces.length, x142.fplaces.flatMap (mcell (fun x : ByteArray => Value.string x) (fun x : Int => Value.int .i64 x))⟩) :: R, φ129⟩ (fun W h => (ok_front (t := 100040) (t' := 1000) (ok_front (t := 100465) (t' := 1001) (ok_frontR (t := 100460) (t' := 1000) (ok_frontR (t := 100461) (t' := 1001) h rfl) rfl) rfl) rfl)) Try.call114 rfl rfl (c_message_each_114 x118.a2 A126 c127 hc127 (fun W hS => f128 W hS.now) g16 g15 x142 A144 c145 hc145 A147 c148 trivial _ hx154) (fun ⟨A155, c156, A158, c159⟩ ⟨hc156, hc159⟩ => ?_)
         refine g_sta _ (fun W h => (ok_frontR (t := 2000) (t' := 100460) (ok_frontR (t := 2001) (t' := 100461) (ok_front (t := 1000) (t' := 100040) (ok_front (t := 1001) (t' := 100465) h rfl) rfl) rfl) rfl)) <| g_v rfl r_assign <| g_nil <| d_then <| c_seq <| c_region <| g_v rfl r_move <| g_v rfl (r_neq rfl rfl) <| g_nil <| d_then ?_
         refine c_flat [(4, .pointer (some ⟨g16, 0, none⟩)), (11, .int .i64 x152), (101, .agg #[.slice A120 x118.a0.length c121, .slice A123 x118.a1.length c124, .slice A126 x118.a2.length c127]), (102, .int .i64 2), (109, .bool (decide (x152 ≠ 0)))] ⟨rfl, rfl, rfl, rfl, rfl, trivial⟩ (fun u => ?_)
         refine c_sta ⟨w0, M, (100040, g16, .cells #[.pointer (some ⟨g15, 0, none⟩)] 33 (0, 0)) :: (100465, g15, .cells #[.slice A155 x153.fb.length c156, mapV A158] 100 (0, 0)) :: (100010, g1, .cells #[.int .u16 p0.fID, .bool p0.fResponse, .bool p0.fAuthoritative, .bool p0.fTruncated, .bool p0.fDesired, .bool p0.fAvailable, .int .i64 p0.fOpcode, .int .i64 p0.fCode, .slice Ap0_0 p0.fQuestions.length cp0_0, .slice Ap0_1 p0.fAnswers.length cp0_1, .slice Ap0_2 p0.fAuthorities.length cp0_2, .slice Ap0_3 p0.fExtras.length cp0_3] 62 (0, 0)) :: H, (100460, ⟨.slice A155 x153.fb.length c156, 5, 1, x153.fb.length, x153.fb.flatMap (fun x : Int => [Value.int .u8 x])⟩) :: (100461, ⟨mapV A158, 98, 2, x153.fplaces.length, x153.fplaces.flatMap (mcell (fun x : ByteArray => Value.string x) (fun x : Int => Value.int .i64 x))⟩) :: R, φ129⟩ (fun _ h => h) ?_
         refine c_cond rfl (fun h162 => ?_) (fun h162 => ?_)
         ·
          replace hm := ite_t hm (of_decide_eq_true h162)
          refine c_seq <| c_region <| g_v rfl r_move <| g_v rfl r_assign <| g_v rfl r_assign <| g_nil <| d_then <| c_ret <| d_ret_block <| d_ret_then ?_
          refine d_ret_then <| d_ret_block <| d_ret_then ?_
          replace hm := Option.some.inj hm
          subst hm
          refine d_retC () Try.results86 ?_ trivial (fun W h => ok_pre (H1 := [_, _, _]) (R1 := [_, _]) h (fun W hφ => (q82 _ (q129 _ hφ)))) (.inr rfl)
          refine res_tmp <| res_tmp <| res_nil ?_
          exact rfl
         ·
          replace hm := ite_f hm (of_decide_eq_false h162)
          refine c_skip <| d_normal_block <| d_then <| c_region <| g_v rfl (r_add rfl rfl (show IntKind.i64.wrap (2 + 1) = 3 by decide)) <| g_v rfl r_move <| g_nil <| d_rounds ?_
          refine c_flat [(4, .pointer (some ⟨g16, 0, none⟩)), (101, .agg #[.slice A120 x118.a0.length c121, .slice A123 x118.a1.length c124, .slice A126 x118.a2.length c127]), (102, .int .i64 3)] ⟨rfl, rfl, rfl, trivial⟩ (fun u => ?_)
          refine c_seq <| c_region <| g_v rfl (r_lss rfl rfl) <| g_nil <| d_then <| c_seq <| c_cond0 rfl (by decide) <| c_exit <| d_exit_then <| d_exit_then ?_
          refine d_exit_block <| d_then <| c_seq <| c_region <| g_v rfl (r_load (tag := 100040) rfl rfl rfl Try.isAgg33) ?_
          replace hm := bnd hm
          obtain ⟨x163, hx164, hm⟩ := hm
          refine g_cn ⟨w0, M, (1000, g15, .cells #[.slice A155 x153.fb.length c156, mapV A158] 100 (0, 0)) :: (100040, g16, .cells #[.pointer (some ⟨g15, 0, none⟩)] 33 (0, 0)) :: (100010, g1, .cells #[.int .u16 p0.fID, .bool p0.fResponse, .bool p0.fAuthoritative, .bool p0.fTruncated, .bool p0.fDesired, .bool p0.fAvailable, .int .i64 p0.fOpcode, .int .i64 p0.fCode, .slice Ap0_0 p0.fQuestions.length cp0_0, .slice Ap0_1 p0.fAnswers.length cp0_1, .slice Ap0_2 p0.fAuthorities.length cp0_2, .slice Ap0_3 p0.fExtras.length cp0_3] 62 (0, 0)) :: H, (1000, ⟨.slice A155 x153.fb.length c156, 5, 1, x153.fb.length, x153.fb.flatMap (fun x : Int => [Value.int .u8 x])⟩) :: (1001, ⟨mapV A158, 98, 2, x153.fplaces.length, x153.fplaces.flatMap (mcell (fun x : ByteArray => Value.string x) (fun x : Int => Value.int .i64 x))⟩) :: R, φ129⟩ (fun W h => (ok_front (t := 100465) (t' := 1000) (ok_frontR (t := 100460) (t' := 1000) (ok_frontR (t := 100461) (t' := 1001) h rfl) rfl) rfl)) Try.call26 rfl rfl (c_pack_Packer_Bytes g15 x153 A155 c156 hc156 A158 c159 trivial _ hx164) (fun _ _ => ?_)
          refine g_sta _ (fun W h => (ok_frontR (t := 1000) (t' := 100460) (ok_frontR (t := 1001) (t' := 100461) (ok_front (t := 1000) (t' := 100465) h rfl) rfl) rfl)) <| g_v rfl r_assign <| g_v rfl r_assign <| g_nil <| d_then <| c_ret ?_
          replace hm := Option.some.inj hm
          subst hm
          refine d_retC () Try.results86 ?_ trivial (fun W h => ok_pre (H1 := [_, _, _]) (R1 := [_, _]) h (fun W hφ => (q82 _ (q129 _ hφ)))) (.inr rfl)
          refine res_tmp <| res_tmp <| res_nil ?_
          exact rfl
    ·
     replace hm := ite_t hm (of_decide_eq_true h5)
     refine g_no rfl rfl rfl rfl rfl h5 <| g_no rfl rfl rfl rfl rfl h5 <| g_no rfl rfl rfl rfl rfl h5 <| g_no rfl rfl rfl rfl rfl h5 <| g_no rfl rfl rfl rfl rfl h5 <| g_no rfl rfl rfl rfl rfl h5 <| g_no rfl rfl rfl rfl rfl h5 <| g_no rfl rfl rfl rfl rfl h5 <| g_no rfl rfl rfl rfl rfl h5 <| g_no rfl rfl rfl rfl rfl h5 ?_
     refine g_no rfl rfl rfl rfl rfl h5 <| g_no rfl rfl rfl rfl rfl h5 <| g_no rfl rfl rfl rfl rfl h5 <| g_v rfl (r_pick1 rfl h5) <| g_nil <| d_then ?_
     refine c_flat [(1, .pointer (some ⟨g1, 0, none⟩)), (45, .bool true)] ⟨rfl, rfl, trivial⟩ (fun u => ?_)
     refine c_sta ⟨w0, M, (100010, g1, .cells #[.int .u16 p0.fID, .bool p0.fResponse, .bool p0.fAuthoritative, .bool p0.fTruncated, .bool p0.fDesired, .bool p0.fAvailable, .int .i64 p0.fOpcode, .int .i64 p0.fCode, .slice Ap0_0 p0.fQuestions.length cp0_0, .slice Ap0_1 p0.fAnswers.length cp0_1, .slice Ap0_2 p0.fAuthorities.length cp0_2, .slice Ap0_3 p0.fExtras.length cp0_3] 62 (0, 0)) :: H, R, φ⟩ (fun _ h => h) <| c_cond1 rfl rfl <| c_seq <| c_region <| g_v rfl r_assign <| g_v rfl r_assign <| g_nil <| d_then <| c_ret <| d_ret_then ?_
     replace hm := Option.some.inj hm
     subst hm
     refine d_retC () Try.results86 ?_ trivial (fun W h => ok_pre (H1 := [_]) (R1 := []) h (fun W hφ => hφ)) (.inr rfl)
     refine res_tmp <| res_tmp <| res_nil ?_
     exact rfl
   ·
    replace hm := ite_t hm (of_decide_eq_true h4)
    refine g_no rfl rfl rfl rfl rfl h4 <| g_no rfl rfl rfl rfl rfl h4 <| g_v rfl (r_pick1 rfl h4) <| g_v rfl r_move <| g_no rfl rfl rfl rfl rfl rfl <| g_no rfl rfl rfl rfl rfl rfl <| g_no rfl rfl rfl rfl rfl rfl <| g_no rfl rfl rfl rfl rfl rfl <| g_no rfl rfl rfl rfl rfl rfl <| g_no rfl rfl rfl rfl rfl rfl ?_
    refine g_no rfl rfl rfl rfl rfl rfl <| g_no rfl rfl rfl rfl rfl rfl <| g_no rfl rfl rfl rfl rfl rfl <| g_no rfl rfl rfl rfl rfl rfl <| g_no rfl rfl rfl rfl rfl rfl <| g_no rfl rfl rfl rfl rfl rfl <| g_no rfl rfl rfl rfl rfl rfl <| g_no rfl rfl rfl rfl rfl rfl <| g_v rfl (r_pick1 rfl rfl) <| g_nil ?_
    refine d_then ?_
    refine c_flat [(1, .pointer (some ⟨g1, 0, none⟩)), (45, .bool true)] ⟨rfl, rfl, trivial⟩ (fun u => ?_)
    refine c_sta ⟨w0, M, (100010, g1, .cells #[.int .u16 p0.fID, .bool p0.fResponse, .bool p0.fAuthoritative, .bool p0.fTruncated, .bool p0.fDesired, .bool p0.fAvailable, .int .i64 p0.fOpcode, .int .i64 p0.fCode, .slice Ap0_0 p0.fQuestions.length cp0_0, .slice Ap0_1 p0.fAnswers.length cp0_1, .slice Ap0_2 p0.fAuthorities.length cp0_2, .slice Ap0_3 p0.fExtras.length cp0_3] 62 (0, 0)) :: H, R, φ⟩ (fun _ h => h) <| c_cond1 rfl rfl <| c_seq <| c_region <| g_v rfl r_assign <| g_v rfl r_assign <| g_nil <| d_then <| c_ret <| d_ret_then ?_
    replace hm := Option.some.inj hm
    subst hm
    refine d_retC () Try.results86 ?_ trivial (fun W h => ok_pre (H1 := [_]) (R1 := []) h (fun W hφ => hφ)) (.inr rfl)
    refine res_tmp <| res_tmp <| res_nil ?_
    exact rfl
  ·
   replace hm := ite_t hm (of_decide_eq_true h3)
   refine g_no rfl rfl rfl rfl rfl h3 <| g_no rfl rfl rfl rfl rfl h3 <| g_v rfl (r_pick1 rfl h3) <| g_v rfl r_move <| g_no rfl rfl rfl rfl rfl rfl <| g_no rfl rfl rfl rfl rfl rfl <| g_no rfl rfl rfl rfl rfl rfl <| g_v rfl (r_pick1 rfl rfl) <| g_v rfl r_move <| g_no rfl rfl rfl rfl rfl rfl ?_
   refine g_no rfl rfl rfl rfl rfl rfl <| g_no rfl rfl rfl rfl rfl rfl <| g_no rfl rfl rfl rfl rfl rfl <| g_no rfl rfl rfl rfl rfl rfl <| g_no rfl rfl rfl rfl rfl rfl <| g_no rfl rfl rfl rfl rfl rfl <| g_no rfl rfl rfl rfl rfl rfl <| g_no rfl rfl rfl rfl rfl rfl <| g_no rfl rfl rfl rfl rfl rfl <| g_no rfl rfl rfl rfl rfl rfl ?_
   refine g_no rfl rfl rfl rfl rfl rfl <| g_no rfl rfl rfl rfl rfl rfl <| g_no rfl rfl rfl rfl rfl rfl <| g_v rfl (r_pick1 rfl rfl) <| g_nil <| d_then ?_
   refine c_flat [(1, .pointer (some ⟨g1, 0, none⟩)), (45, .bool true)] ⟨rfl, rfl, trivial⟩ (fun u => ?_)
   refine c_sta ⟨w0, M, (100010, g1, .cells #[.int .u16 p0.fID, .bool p0.fResponse, .bool p0.fAuthoritative, .bool p0.fTruncated, .bool p0.fDesired, .bool p0.fAvailable, .int .i64 p0.fOpcode, .int .i64 p0.fCode, .slice Ap0_0 p0.fQuestions.length cp0_0, .slice Ap0_1 p0.fAnswers.length cp0_1, .slice Ap0_2 p0.fAuthorities.length cp0_2, .slice Ap0_3 p0.fExtras.length cp0_3] 62 (0, 0)) :: H, R, φ⟩ (fun _ h => h) <| c_cond1 rfl rfl <| c_seq <| c_region <| g_v rfl r_assign <| g_v rfl r_assign <| g_nil <| d_then <| c_ret <| d_ret_then ?_
   replace hm := Option.some.inj hm
   subst hm
   refine d_retC () Try.results86 ?_ trivial (fun W h => ok_pre (H1 := [_]) (R1 := []) h (fun W hφ => hφ)) (.inr rfl)
   refine res_tmp <| res_tmp <| res_nil ?_
   exact rfl
 ·
  replace hm := ite_t hm (of_decide_eq_true h2)
  refine g_no rfl rfl rfl rfl rfl h2 <| g_no rfl rfl rfl rfl rfl h2 <| g_v rfl (r_pick1 rfl h2) <| g_v rfl r_move <| g_no rfl rfl rfl rfl rfl rfl <| g_no rfl rfl rfl rfl rfl rfl <| g_no rfl rfl rfl rfl rfl rfl <| g_v rfl (r_pick1 rfl rfl) <| g_v rfl r_move <| g_no rfl rfl rfl rfl rfl rfl ?_
  refine g_no rfl rfl rfl rfl rfl rfl <| g_no rfl rfl rfl rfl rfl rfl <| g_v rfl (r_pick1 rfl rfl) <| g_v rfl r_move <| g_no rfl rfl rfl rfl rfl rfl <| g_no rfl rfl rfl rfl rfl rfl <| g_no rfl rfl rfl rfl rfl rfl <| g_no rfl rfl rfl rfl rfl rfl <| g_no rfl rfl rfl rfl rfl rfl <| g_no rfl rfl rfl rfl rfl rfl ?_
  refine g_no rfl rfl rfl rfl rfl rfl <| g_no rfl rfl rfl rfl rfl rfl <| g_no rfl rfl rfl rfl rfl rfl <| g_no rfl rfl rfl rfl rfl rfl <| g_no rfl rfl rfl rfl rfl rfl <| g_no rfl rfl rfl rfl rfl rfl <| g_no rfl rfl rfl rfl rfl rfl <| g_no rfl rfl rfl rfl rfl rfl <| g_v rfl (r_pick1 rfl rfl) <| g_nil ?_
  refine d_then ?_
  refine c_flat [(1, .pointer (some ⟨g1, 0, none⟩)), (45, .bool true)] ⟨rfl, rfl, trivial⟩ (fun u => ?_)
  refine c_sta ⟨w0, M, (100010, g1, .cells #[.int .u16 p0.fID, .bool p0.fResponse, .bool p0.fAuthoritative, .bool p0.fTruncated, .bool p0.fDesired, .bool p0.fAvailable, .int .i64 p0.fOpcode, .int .i64 p0.fCode, .slice Ap0_0 p0.fQuestions.length cp0_0, .slice Ap0_1 p0.fAnswers.length cp0_1, .slice Ap0_2 p0.fAuthorities.length cp0_2, .slice Ap0_3 p0.fExtras.length cp0_3] 62 (0, 0)) :: H, R, φ⟩ (fun _ h => h) <| c_cond1 rfl rfl <| c_seq <| c_region <| g_v rfl r_assign <| g_v rfl r_assign <| g_nil <| d_then <| c_ret <| d_ret_then ?_
  replace hm := Option.some.inj hm
  subst hm
  refine d_retC () Try.results86 ?_ trivial (fun W h => ok_pre (H1 := [_]) (R1 := []) h (fun W hφ => hφ)) (.inr rfl)
  refine res_tmp <| res_tmp <| res_nil ?_
  exact rfl
end Go.Proofs.Ytpdhdpefdgndeaa
